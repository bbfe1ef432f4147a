/-
  Slices of strings; what the walks take of the listed variables of Go's library.
-/
import Derived.Test.YtfjddphjjhhjpaaDoorFcAttI
import Derived.Test.YtfjddphjjhhjpaaDoorFauP
import Derived.Shelf.Unicode.IsSpaceAny
import Derived.Shelf.Unicode.PredsPay
import Derived.Lib.Itoa
import Derived.Laws.IdiomCopy
import Derived.BigQuiet
namespace Go.Proofs.YtfjddphjjhhjpaaDoor
open Go.RowKit
set_option linter.unusedVariables false

theorem str_size (l : List UInt8) : (str l).size = l.length := by
  show l.toArray.size = l.length
  simp
theorem str_data (l : List UInt8) : (str l).data.toList = l := by simp [str]
/-- Words in a block of their own, not frozen, that read as a list. -/
structure WsR (w : World) (b c : Nat) (ws : List (List UInt8)) : Prop where
  lt : b < w.heap.size
  le : ws.length ≤ c
  max : c ≤ 9223372036854775807
  cell : ∀ i, (h : i < ws.length) → w.cell? ⟨b, i, none⟩ = some (.string (str ws[i]))
  frz : ∀ i, i < ws.length → w.frozen? ⟨b, i, none⟩ = false
theorem WsR.ext {w w' : World} {b c : Nat} {ws : List (List UInt8)} (h : WsR w b c ws) (he : Ext w w') : WsR w' b c ws :=
  ⟨Nat.lt_of_lt_of_le h.lt he.size, h.le, h.max, fun i hi => (he.cell b i h.lt).trans (h.cell i hi), fun i hi => (he.frozen b i h.lt).trans (h.frz i hi)⟩
theorem WsR.grown {w w' : World} {b c : Nat} {ws : List (List UInt8)} {row : Option Nat} (h : WsR w b c ws) (hg : w.grownBy w' row) (hr : some b ≠ row) : WsR w' b c ws := by
  have hb := hg.block b h.lt hr
  exact ⟨Nat.lt_of_lt_of_le h.lt hg.size, h.le, h.max, fun i hi => (World.cell?_of_block (w := w) (a := ⟨b, i, none⟩) hb).trans (h.cell i hi), fun i hi => (World.frozen?_of_block (w := w) (a := ⟨b, i, none⟩) hb).trans (h.frz i hi)⟩
theorem WsR.far {w : World} {b c : Nat} {ws : List (List UInt8)} (h : WsR w b c ws) {p : Addr} (hp : b ≠ p.block) (u : Value) : WsR (w.setCell p u) b c ws :=
  h.grown (show w.grownBy (w.setCell p u) (some p.block) from ⟨rfl, rfl, rfl, by simp [World.setCell], fun k _ hk => Below.heap_setCell w p u k (fun e => hk (by rw [e]))⟩) (fun e => hp (Option.some.inj e))
theorem WsR.of_own {w : World} {base b n c : Nat} {e : TypeId} {ws : List (List UInt8)} (h : w.ownsRow base e 1 (.slice (some ⟨b, 0, none⟩) n c) ws.length (ws.map fun x => Value.string ⟨x.toArray⟩)) : WsR w b c ws ∧ base ≤ b := by
  obtain ⟨h1, h2⟩ := h
  rcases h2 with ⟨hv, hn⟩ | ⟨g, c', cur, hv, hb, hg, hnc, hcm, hcs, ht⟩
  · injection hv with a1 a2 a3; cases a1
  · injection hv with a1 a2 a3
    injection a1 with a1
    injection a1 with a1
    subst a1 a3
    have hB : Blk w b e cur := hg
    refine ⟨⟨hB.lt, hnc, by simpa [maxLen] using hcm, fun i hi => ?_, fun i _ => hB.frozen i⟩, hb⟩
    rw [hB.cell]
    have h3 : (ws.map fun x => Value.string ⟨x.toArray⟩)[i]? = some (.string (str ws[i])) := by simp [hi, str]
    rw [← ht, List.getElem?_take] at h3
    rw [if_pos (by omega)] at h3
    simpa using h3
/-- What the two errors of strconv are. -/
def EZ (w : World) : Prop := (∃ ev, w.cell? ⟨4, 0, none⟩ = some ev ∧ (ev = .nilIface ∨ ∃ te pe, ev = .iface te pe)) ∧ (∃ ev, w.cell? ⟨5, 0, none⟩ = some ev ∧ (ev = .nilIface ∨ ∃ te pe, ev = .iface te pe))
theorem cell_lt {w : World} {b o : Nat} {v : Value} (h : w.cell? ⟨b, o, none⟩ = some v) : b < w.heap.size := by
  apply Classical.byContradiction
  intro hn
  have : w.heap[b]? = none := Array.getElem?_eq_none (by omega)
  simp [World.cell?, this] at h
theorem EZ.ext {w w' : World} (h : EZ w) (he : Ext w w') : EZ w' := by
  obtain ⟨⟨e1, a1, b1⟩, e2, a2, b2⟩ := h
  exact ⟨⟨e1, (he.cell _ _ (cell_lt a1)).trans a1, b1⟩, e2, (he.cell _ _ (cell_lt a2)).trans a2, b2⟩
/-- What the walks take of the listed variables. -/
structure Tabs (w : World) : Prop where
  ez : EZ w
  pow : Lib.TabIs Tryd.prog w "internal/strconv.uint64pow10" .u64 Lib.pow10Tab
  asc : Lib.TabIs Tryd.prog w "strings.asciiSpace" .u8 Lib.asciiSpaceTab
  white : Lib.WhiteTab 1 w
theorem Tabs.ext {w w' : World} (h : Tabs w) (he : Ext w w') : Tabs w' :=
  ⟨h.ez.ext he, TabIs_below (g := 2) (by kernel_rfl) h.pow he, TabIs_below (g := 0) (by kernel_rfl) h.asc he, WhiteTab_below h.white he⟩
theorem ret_bool' {a b : Bool} (h : a = b) : Ending.returned (.bool a) = .returned (.bool b) := by rw [h]
end Go.Proofs.YtfjddphjjhhjpaaDoor
