/-
  Cut out of an elder text of mine (AttE) by cutdecl.py.
-/
import Derived.Test.YtfjddphjjhhjpaaDoorSeq
import Derived.Test.YtfjddphjjhhjpaaDoorVoc
import Derived.Test.YtfjddphjjhhjpaaDoorSeqIn
import Derived.Test.YtfjddphjjhhjpaaDoorFcImgA
import Derived.Test.YtfjddphjjhhjpaaDoorFcChg
import Derived.Test.YtfjddphjjhhjpaaDoorFcImgB
import Derived.Test.YtfjddphjjhhjpaaDoorFcEqA
import Derived.Test.YtfjddphjjhhjpaaDoorFcLawD
import Derived.Test.YtfjddphjjhhjpaaDoorFcAttA
import Derived.Test.YtfjddphjjhhjpaaDoorFcAttB
import Derived.Test.YtfjddphjjhhjpaaDoorFcAttD
namespace Go.Proofs.YtfjddphjjhhjpaaDoor
open Go.RowKit
set_option linter.unusedVariables false

def fldA (g : Nat) : Array Value := #[.pointer (some ⟨g, 2, none⟩), .int .i64 0, .int .i64 1, .pointer (some ⟨g, 4, none⟩), .int .i64 0, .int .i64 4000]
def fldB (g : Nat) : Array Value := #[.pointer (some ⟨g, 2, none⟩), .int .i64 0, .int .i64 1, .pointer (some ⟨g, 5, none⟩), .int .i64 0, .int .i64 24000, .pointer (some ⟨g, 6, none⟩), .int .i64 1, .int .i64 255]
def fldC (g : Nat) : Array Value := #[.pointer (some ⟨g, 4, none⟩), .int .i64 0, .int .i64 4000]
set_option maxRecDepth 100000 in
set_option maxHeartbeats 1000000 in
theorem used_a (g : Nat) (c n e k s p m : Int) (w : World) (hb : Blk w g 28 #[.int .i64 c, .int .i64 n, .int .i64 e, .int .i64 k, .int .i64 s, .int .i64 p, .int .i64 m]) (hk : 1 ≤ k ∧ k ≤ 3) :
    Calls Tryd.prog 35 #[.pointer (some ⟨g, 0, none⟩)] w fun e w' => ∃ h, e = .returned (.slice (some ⟨h, 0, none⟩) 2 2) ∧ w.heap.size ≤ h ∧ Blk w' h 79 (fldA g) ∧ Ext w w' := by
  obtain ⟨hk1, hk2⟩ := hk
  have HB := hide hb
  have hz := hb.lt
  have hcell := hb.cell
  clear hb
  go_enter Tryd.func35, Tryd.ntmps35
  go_wp2
  go_ret
  refine ⟨_, rfl, by omega, ?_, ((Ext.alloc w _).alloc' _).alloc' _⟩
  have := Blk.new ((w.alloc (.cells #[.pointer (some ⟨g, 2, none⟩), .int .i64 0, .int .i64 1] 79)).alloc (.cells #[.pointer (some ⟨g, 4, none⟩), .int .i64 0, .int .i64 4000] 79)) 79 (fldA g)
  simp only [World.size_alloc] at this
  exact this
set_option maxRecDepth 100000 in
set_option maxHeartbeats 1000000 in
theorem used_c (g : Nat) (c n e k s p m : Int) (w : World) (hb : Blk w g 28 #[.int .i64 c, .int .i64 n, .int .i64 e, .int .i64 k, .int .i64 s, .int .i64 p, .int .i64 m]) (hk : k = 8) :
    Calls Tryd.prog 35 #[.pointer (some ⟨g, 0, none⟩)] w fun e w' => ∃ h, e = .returned (.slice (some ⟨h, 0, none⟩) 1 1) ∧ w.heap.size ≤ h ∧ Blk w' h 79 (fldC g) ∧ Ext w w' := by
  have HB := hide hb
  have hz := hb.lt
  have hcell := hb.cell
  clear hb
  go_enter Tryd.func35, Tryd.ntmps35
  subst hk
  go_wp2
  go_ret
  refine ⟨_, rfl, by omega, ?_, ((Ext.alloc w _).alloc' _).alloc' _⟩
  have := Blk.new ((w.alloc (.cells #[.pointer (some ⟨g, 2, none⟩), .int .i64 0, .int .i64 1] 79)).alloc (.cells #[.pointer (some ⟨g, 4, none⟩), .int .i64 0, .int .i64 4000] 79)) 79 (fldC g)
  simp only [World.size_alloc] at this
  exact this
set_option maxRecDepth 100000 in
set_option maxHeartbeats 1000000 in
theorem used_d (g : Nat) (c n e k s p m : Int) (w : World) (hb : Blk w g 28 #[.int .i64 c, .int .i64 n, .int .i64 e, .int .i64 k, .int .i64 s, .int .i64 p, .int .i64 m]) (hk : k = 9) :
    Calls Tryd.prog 35 #[.pointer (some ⟨g, 0, none⟩)] w fun e w' => e = .returned (.slice none 0 0) ∧ Ext w w' := by
  have HB := hide hb
  have hz := hb.lt
  have hcell := hb.cell
  clear hb
  go_enter Tryd.func35, Tryd.ntmps35
  subst hk
  go_wp2
  go_ret
  exact ⟨rfl, (Ext.alloc w _).alloc' _⟩
set_option maxRecDepth 100000 in
set_option maxHeartbeats 1000000 in
theorem used_b (g : Nat) (c n e k s p m : Int) (w : World) (hb : Blk w g 28 #[.int .i64 c, .int .i64 n, .int .i64 e, .int .i64 k, .int .i64 s, .int .i64 p, .int .i64 m]) (hk : 4 ≤ k ∧ k ≤ 7) :
    Calls Tryd.prog 35 #[.pointer (some ⟨g, 0, none⟩)] w fun e w' => ∃ h, e = .returned (.slice (some ⟨h, 0, none⟩) 3 3) ∧ w.heap.size ≤ h ∧ Blk w' h 79 (fldB g) ∧ Ext w w' := by
  have HB := hide hb
  have hz := hb.lt
  have hcell := hb.cell
  clear hb
  go_enter Tryd.func35, Tryd.ntmps35
  obtain ⟨hk1, hk2⟩ := hk
  go_wp2
  have he := (Ext.alloc w (.cells #[.pointer (some ⟨g, 2, none⟩), .int .i64 0, .int .i64 1] 79)).alloc' (.cells #[.pointer (some ⟨g, 4, none⟩), .int .i64 0, .int .i64 4000] 79)
  have HX := hide he
  have HF := hide ((Blk.new w 79 #[.pointer (some ⟨g, 2, none⟩), .int .i64 0, .int .i64 1]).alloc (.cells #[.pointer (some ⟨g, 4, none⟩), .int .i64 0, .int .i64 4000] 79))
  have HB2 := hide (HB.out.ext he)
  generalize hwb : (w.alloc (.cells #[.pointer (some ⟨g, 2, none⟩), .int .i64 0, .int .i64 1] 79)).alloc (.cells #[.pointer (some ⟨g, 4, none⟩), .int .i64 0, .int .i64 4000] 79) = wb at *
  clear hwb he hcell HB
  refine wp_region_ext 9 3 [] mixed (by kernel_rfl) trivial ?_
  repeat ((refine seq_exact ?_ (by rfl) (by rfl) (fun w1 hU => ?_) ?_); (rotate_left 1); (focus (have h4 := (HF.out.ext hU.un).cell; have h5 := (HB2.out.ext hU.un).cell; have h6 := (HB2.out.ext hU.un).lt; clear hU; go_simp <;> with_reducible rfl)); (simp only [Act.put, List.setIfInBounds_toArray, List.set_cons_zero, List.set_cons_succ]))
  intro w7 hw7 _
  simp only [List.drop_succ_cons, List.drop_zero]
  have HX7 := hide (HX.out.trans hw7.un)
  clear hw7
  go_wp2
  go_ret
  exact ⟨_, rfl, HX7.out.size, Blk.new w7 79 (fldB g), HX7.out.trans (Ext.alloc w7 _)⟩
end Go.Proofs.YtfjddphjjhhjpaaDoor
