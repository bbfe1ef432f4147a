/-
  Cut out of an elder text of mine (Chg) by cutdecl.py.
-/
import Derived.Test.YtfjddphjjhhjpaaDoorProg
import Derived.Test.YtfjddphjjhhjpaaDoorSeq
import Derived.Test.YtfjddphjjhhjpaaDoorVoc
import Derived.Test.YtfjddphjjhhjpaaDoorSeqIn
import Derived.Test.YtfjddphjjhhjpaaDoorFcImgA
namespace Go.Proofs.YtfjddphjjhhjpaaDoor
open Go.RowKit
set_option linter.unusedVariables false

theorem Sl.grown {w w' : World} {A : Option Addr} {cap : Nat} {l : List UInt8} {row : Option Nat} (h : Sl w A cap l) (hg : w.grownBy w' row) (hne : l = [] ∨ ∀ a, A = some a → some a.block ≠ row) : Sl w' A cap l := by
  refine ⟨h.le, h.max, h.nil, ?_⟩
  rcases hne with h0 | hne
  · exact .inl h0
  · refine h.rd.imp id fun ⟨b, off, ha, hb, hc⟩ => ⟨b, off, ha, Nat.lt_of_lt_of_le hb hg.size, fun i hi => hg.cell (hc i hi) (hne ⟨b, off, none⟩ ha)⟩
theorem Sl.lt {w : World} {A : Option Addr} {cap : Nat} {l : List UInt8} (h : Sl w A cap l) : l = [] ∨ ∀ a, A = some a → a.block < w.heap.size := by
  refine h.rd.imp id fun ⟨b, off, ha, hb, _⟩ a h => ?_
  rw [ha] at h
  injection h with h
  subst h
  exact hb

/-- Where bytes of the call's own lie: from block base on, not in block r. -/
def Apart (base : Nat) (r : Option Nat) (A : Option Addr) (l : List UInt8) : Prop := l = [] ∨ ∀ a, A = some a → base ≤ a.block ∧ some a.block ≠ r
/-- A slice of bytes, apart. -/
def SlX (base : Nat) (r : Option Nat) (l : List UInt8) (v : Value) (w : World) : Prop := ∃ A cap, v = .slice A l.length cap ∧ Sl w A cap l ∧ Apart base r A l
def ShSl (n : Nat) (v : Value) : Prop := ∃ A cap, v = .slice A n cap
theorem SlX.grown {base : Nat} {r : Option Nat} {l : List UInt8} {v : Value} {w w' : World} (h : SlX base r l v w) (hg : w.grownBy w' r) : SlX base r l v w' :=
  let ⟨A, cap, h1, h2, h3⟩ := h; ⟨A, cap, h1, h2.grown hg (h3.imp id fun h a ha => (h a ha).2), h3⟩
theorem Own.slX {w : World} {base : Nat} {e : TypeId} {A : Option Addr} {n cap : Nat} {l : List UInt8} {base' : Nat} {r : Option Nat} (h : Own w base e (.slice A n cap) l) (hb : base' ≤ base) (hr : ∀ k, r = some k → k < base) : SlX base' r l (.slice A l.length cap) w :=
  ⟨A, cap, rfl, h.sl.2, .inr fun a ha => by
    have hlt := World.ownsRow.lt h a.block (by rw [ha]; rfl)
    exact ⟨by omega, fun e => by have := hr _ e.symm; omega⟩⟩
theorem SlX.sl {base : Nat} {r : Option Nat} {l : List UInt8} {A : Option Addr} {n cap : Nat} {w : World} (h : SlX base r l (.slice A n cap) w) : Sl w A cap l := by
  obtain ⟨A', cap', h1, h2, _⟩ := h
  injection h1 with e1 e2 e3
  subst e1 e3
  exact h2

end Go.Proofs.YtfjddphjjhhjpaaDoor
