/-
  Words of memory for the later seats: bytes beside a block that is written.
-/
import Derived.Test.YtpnniiildnkeaaaDoorVoc
namespace Go.Proofs.YtpnniiildnkeaaaDoor
open Go.RowKit
set_option linter.unusedVariables false

theorem Sl.grown {w w' : World} {A : Option Addr} {cap : Nat} {l : List UInt8} {row : Option Nat} (h : Sl w A cap l) (hg : w.grownBy w' row) (hne : l = [] ∨ ∀ a, A = some a → some a.block ≠ row) : Sl w' A cap l := by
  refine ⟨h.le, h.max, h.nil, ?_⟩
  rcases hne with h0 | hne
  · exact .inl h0
  · refine h.rd.imp id fun ⟨b, off, ha, hb, hc⟩ => ⟨b, off, ha, Nat.lt_of_lt_of_le hb hg.size, fun i hi => hg.cell (hc i hi) (hne ⟨b, off, none⟩ ha)⟩
theorem Sl.lt {w : World} {A : Option Addr} {cap : Nat} {l : List UInt8} (h : Sl w A cap l) : l = [] ∨ ∀ a, A = some a → a.block < w.heap.size := by
  refine h.rd.imp id fun ⟨b, off, ha, hb, _⟩ a h => ?_
  rw [ha] at h
  injection h with h
  subst h
  exact hb
/-- Bytes do not lie in a block that holds none. -/
theorem Sl.off {w : World} {A : Option Addr} {c : Nat} {l : List UInt8} {g : Nat} {t : TypeId} {cs : Array Value} (h : Sl w A c l) (hb : Blk w g t cs) (hn : ∀ (i : Nat) (x : Int), cs[i]? ≠ some (.int .u8 x)) : l = [] ∨ ∀ a, A = some a → some a.block ≠ some g := by
  rcases h.rd with h0 | ⟨b, off, rfl, _, hc⟩
  · exact .inl h0
  · cases l with
    | nil => exact .inl rfl
    | cons x l =>
      refine .inr fun a ha e => ?_
      injection ha with ha
      subst ha
      injection e with e
      simp only at e
      subst e
      have := hc 0 (by simp)
      rw [hb.cell] at this
      exact hn _ _ this
theorem grown_set (w : World) (p : Addr) (u : Value) : w.grownBy (w.setCell p u) (some p.block) := ⟨rfl, rfl, rfl, by simp [World.setCell], fun k _ hk => Below.heap_setCell w p u k (fun e => hk (by rw [e]))⟩
def noByte (v : Value) : Bool := match v with
  | .int .u8 _ => false
  | _ => true
theorem no_bytes {cs : Array Value} (h : cs.all noByte = true) (i : Nat) (x : Int) : cs[i]? ≠ some (.int .u8 x) := fun e => by
  rw [Array.all_eq_true_iff_forall_mem] at h
  have := h _ (Array.mem_of_getElem? e)
  simp [noByte] at this
/-- Bytes stay when a cell of a block without bytes is written. -/
theorem Sl.put {w : World} {A : Option Addr} {c : Nat} {l : List UInt8} {g : Nat} {t : TypeId} {cs : Array Value} (h : Sl w A c l) (hb : Blk w g t cs) (hn : cs.all noByte = true) (i : Nat) (u : Value) : Sl (w.setCell ⟨g, i, none⟩ u) A c l :=
  h.grown (grown_set w ⟨g, i, none⟩ u) (h.off hb (no_bytes hn))
end Go.Proofs.YtpnniiildnkeaaaDoor
