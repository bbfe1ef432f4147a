/-
  Cut out of an elder text of mine (ImgA) by cutdecl.py.
-/
import Derived.Test.YtfjddphjjhhjpaaDoorProg
import Derived.Maps.AppendAt
import Derived.OwnWalk
import Derived.Outline
import Derived.Test.YtfjddphjjhhjpaaDoorSeq
import Derived.Test.YtfjddphjjhhjpaaDoorVoc
import Derived.Test.YtfjddphjjhhjpaaDoorSeqIn
namespace Go.Proofs.YtfjddphjjhhjpaaDoor
open Go.RowKit
set_option linter.unusedVariables false

theorem bt : ByteT Tryd.prog 39 5 := ⟨Tryd.underlying39, by kernel_rfl⟩
set_option maxRecDepth 100000 in
set_option maxHeartbeats 400000 in
theorem clone_any (A : Option Addr) (cap : Nat) (l : List UInt8) (w : World) (hs : Sl w A cap l) (hl : l.length ≤ 1048576) :
    Calls Tryd.prog 46 #[.slice A l.length cap] w fun e w' => ∃ A' cap', e = .returned (.slice A' l.length cap') ∧ Own w' w.heap.size 5 (.slice A' l.length cap') l ∧ Ext w w' := by
  have hk := fun (w : World) => Lib.run_eql_slice_nil (P := Tryd.prog) w 39 5 A l.length cap 0 0 Tryd.underlying39
  rcases A with _ | ad
  · obtain rfl : cap = 0 := hs.nil rfl
    obtain rfl : l = [] := List.eq_nil_of_length_eq_zero (by have := hs.le; omega)
    simp only [List.length_nil] at hk ⊢
    clear hl hs
    go_enter Tryd.func46, Tryd.ntmps46
    go_wp2_with fail
    go_ret
    exact ⟨none, 0, rfl, Own.nil_ _ _ _, Ext.refl _⟩
  · have hs' := hs.ext (Ext.alloc w (.cells #[] 5))
    have Hs := hide hs'
    have hown := Own.empty w 5
    clear hs hs'
    go_enter Tryd.func46, Tryd.ntmps46
    go_wp2_with (at_builtin; refine wpList_appendB bt rfl _ _ rfl w.heap.size (.slice (some ⟨w.heap.size, 0, none⟩) 0 0) [] rfl hown _ _ l rfl Hs.out (by simp; omega) (by simp) ?_; intro A' cap' w1 hown1 hg1 _)
    go_ret
    simp only [List.length_nil, Nat.zero_add, List.nil_append] at hown1 ⊢
    exact ⟨A', cap', rfl, hown1, (Ext.alloc w _).grown hg1 (by simp [Value.ownBlock])⟩

set_option maxRecDepth 100000 in
set_option maxHeartbeats 400000 in
theorem equal_any (A B : Option Addr) (ca cb : Nat) (l m : List UInt8) (w : World) (ha : Sl w A ca l) (hb : Sl w B cb m) :
    Calls Tryd.prog 48 #[.slice A l.length ca, .slice B m.length cb] w fun e w' => e = .returned (.bool (l == m)) ∧ w = w' := by
  have h1 := ha.convert (P := Tryd.prog) Tryd.underlying39 Tryd.underlying5 Tryd.underlying9
  have h2 := hb.convert (P := Tryd.prog) Tryd.underlying39 Tryd.underlying5 Tryd.underlying9
  clear ha hb
  go_enter Tryd.func48, Tryd.ntmps48
  go_wp2_with fail
  go_ret
  exact ⟨rfl, rfl⟩

end Go.Proofs.YtfjddphjjhhjpaaDoor
