/-
  Answer of the reference; Right of the program and of the reference.
-/
import Derived.Test.YtpnniiildnkeaaaDoorSumB
namespace Go.Proofs.YtpnniiildnkeaaaDoor
open Go.RowKit
set_option linter.unusedVariables false

theorem mixed : Tryd.prog.follows .mixedOrders = true := by kernel_rfl
theorem ret_bool {a b : Bool} (h : a = b) : Ending.returned (.bool a) = .returned (.bool b) := by rw [h]
set_option maxRecDepth 100000 in
set_option maxHeartbeats 1000000 in
theorem ranswer_any (a b c : Int) (A : Option Addr) (cap : Nat) (l : List UInt8) (w : World) (hs : Sl w A cap l) (hm : l.length ≤ 9223372036854775807) :
    Calls Tryd.prog 17 #[.int .i64 a, .int .i64 b, .int .i64 c, .slice A l.length cap] w fun e w' => e = .returned (.int .i64 (ansI a b c l)) ∧ Ext w w' := by
  have HS := hide hs
  clear hs
  have HWL := hide (show IntKind.u64.wrap (l.length : Int) = l.length by rw [IntKind.wrap_u64]; omega)
  obtain ⟨N4, hN4⟩ : ∃ N4, IntKind.u64.wrap (l.length : Int) = N4 := ⟨_, rfl⟩
  have HN4 := hide hN4
  clear hN4
  have HBK := hide (Blk.new w 3 #[.int .i64 a, .int .i64 b, .int .i64 c, .int .i64 l.length])
  have HB0 := hide (Ext.alloc w (.cells #[.int .i64 a, .int .i64 b, .int .i64 c, .int .i64 l.length] 3))
  have hst := start_nat
  go_enter Tryd.func17, Tryd.ntmps17
  go_wp2_with fail
  generalize hwb : w.alloc (.cells #[.int .i64 a, .int .i64 b, .int .i64 c, .int .i64 l.length] 3) = w0 at *
  clear hwb
  have hc := HBK.out.cell
  refine wp_loop_rounds 5 ?_
  rw [rounds_succ]
  go_wp2_with fail
  refine (reight_any (IntKind.u64.wrap a) _ (u64_bd _).1 (u64_bd _).2).mono ?_
  rintro e w1 ⟨A1, c1, rfl, q1, q2⟩
  have HO := hide q1.sl.2
  have HB1 := hide (HB0.out.trans q2)
  have HBK := hide (HBK.out.ext q2)
  have hc := HBK.out.cell
  clear q1 q2
  go_wp2_with fail
  have hf := rfrom_any (startU) A1 c1 (eightL (IntKind.u64.wrap a)) _ HO.out
  rw [← start_nat, eightL_length] at hf
  refine hf.mono ?_
  clear hf
  rintro e w' ⟨rfl, rfl⟩
  go_wp2_with fail
  rw [rounds_succ]
  go_wp2_with fail
  refine (reight_any (IntKind.u64.wrap b) _ (u64_bd _).1 (u64_bd _).2).mono ?_
  rintro e w2 ⟨A2, c2, rfl, q1, q2⟩
  have HO := hide q1.sl.2
  have HB2 := hide (HB1.out.trans q2)
  have HBK := hide (HBK.out.ext q2)
  have hc := HBK.out.cell
  clear q1 q2
  go_wp2_with fail
  have hf := rfrom_any (sumU (startU) (eightL (IntKind.u64.wrap a))) A2 c2 (eightL (IntKind.u64.wrap b)) _ HO.out
  rw [eightL_length] at hf
  refine hf.mono ?_
  clear hf
  rintro e w' ⟨rfl, rfl⟩
  go_wp2_with fail
  rw [rounds_succ]
  go_wp2_with fail
  refine (reight_any (IntKind.u64.wrap c) _ (u64_bd _).1 (u64_bd _).2).mono ?_
  rintro e w3 ⟨A3, c3, rfl, q1, q2⟩
  have HO := hide q1.sl.2
  have HB3 := hide (HB2.out.trans q2)
  have HBK := hide (HBK.out.ext q2)
  have hc := HBK.out.cell
  clear q1 q2
  go_wp2_with fail
  have hf := rfrom_any (sumU (sumU (startU) (eightL (IntKind.u64.wrap a))) (eightL (IntKind.u64.wrap b))) A3 c3 (eightL (IntKind.u64.wrap c)) _ HO.out
  rw [eightL_length] at hf
  refine hf.mono ?_
  clear hf
  rintro e w' ⟨rfl, rfl⟩
  go_wp2_with fail
  rw [rounds_succ]
  go_wp2_with fail
  refine (reight_any (l.length : Int) _ (by omega) (by omega)).mono ?_
  rintro e w4 ⟨A4, c4, rfl, q1, q2⟩
  rw [← HWL.out, HN4.out] at q1
  have HO := hide q1.sl.2
  have HB4 := hide (HB3.out.trans q2)
  have HBK := hide (HBK.out.ext q2)
  have hc := HBK.out.cell
  clear q1 q2
  go_wp2_with fail
  have hf := rfrom_any (sumU (sumU (sumU (startU) (eightL (IntKind.u64.wrap a))) (eightL (IntKind.u64.wrap b))) (eightL (IntKind.u64.wrap c))) A4 c4 (eightL N4) _ HO.out
  rw [eightL_length] at hf
  refine hf.mono ?_
  clear hf
  rintro e w' ⟨rfl, rfl⟩
  go_wp2_with fail
  rw [rounds_succ]
  go_wp2_with fail
  have HE := hide (show sumU (sumU (sumU (sumU (sumU (startU) (eightL (IntKind.u64.wrap a))) (eightL (IntKind.u64.wrap b))) (eightL (IntKind.u64.wrap c))) (eightL N4)) l = ansU a b c l by unfold ansU headL; rw [HN4.out]; simp only [sumU_append])
  have hf := rfrom_any (sumU (sumU (sumU (sumU (startU) (eightL (IntKind.u64.wrap a))) (eightL (IntKind.u64.wrap b))) (eightL (IntKind.u64.wrap c))) (eightL N4)) A cap l w4 (HS.out.ext HB4.out)
  rw [HE.out] at hf
  refine hf.mono ?_
  clear hf
  rintro e w' ⟨rfl, rfl⟩
  go_wp2_with fail
  go_ret
  exact ⟨rfl, HB4.out⟩
set_option maxRecDepth 100000 in
set_option maxHeartbeats 1000000 in
theorem right_any (s d k q a b c z : Int) (A : Option Addr) (cap : Nat) (l : List UInt8) (w : World) (hs : Sl w A cap l) (hm : l.length ≤ 9223372036854775807) :
    Calls Tryd.prog 11 #[.agg #[.int .i64 s, .int .i64 d, .int .i64 k, .int .i64 q, .int .i64 a, .int .i64 b, .int .i64 c, .int .i64 z, .slice A l.length cap]] w fun e w' => e = .returned (.bool (z == ansI a b c l)) ∧ Ext w w' := by
  have HS := hide (hs.ext (Ext.alloc w (.cells #[.int .i64 s, .int .i64 d, .int .i64 k, .int .i64 q, .int .i64 a, .int .i64 b, .int .i64 c, .int .i64 z, .slice A l.length cap] 29)))
  have HB := hide (Blk.new w 29 #[.int .i64 s, .int .i64 d, .int .i64 k, .int .i64 q, .int .i64 a, .int .i64 b, .int .i64 c, .int .i64 z, .slice A l.length cap])
  have HX := hide (Ext.alloc w (.cells #[.int .i64 s, .int .i64 d, .int .i64 k, .int .i64 q, .int .i64 a, .int .i64 b, .int .i64 c, .int .i64 z, .slice A l.length cap] 29))
  obtain ⟨r, hr⟩ : ∃ r, ansI a b c l = r := ⟨_, rfl⟩
  have HR := hide hr
  rw [hr]
  clear hs hr
  go_enter Tryd.func11, Tryd.ntmps11
  go_wp2_with fail
  generalize hwb : w.alloc (.cells #[.int .i64 s, .int .i64 d, .int .i64 k, .int .i64 q, .int .i64 a, .int .i64 b, .int .i64 c, .int .i64 z, .slice A l.length cap] 29) = wb at *
  clear hwb
  refine wp_region_ext 17 3 [(14, fun v => v = .int .i64 r, fun _ _ => True)] mixed (by kernel_rfl) ⟨fun _ _ _ _ _ => trivial, trivial⟩ ?_
  repeat ((refine seq_exact ?_ (by rfl) (by rfl) (fun w1 hU => ?_) ?_); (rotate_left 1); (focus (have hk := (HB.out.ext hU.un).cell; clear hU; go_simp <;> with_reducible rfl)); (simp only [Act.put, List.setIfInBounds_toArray, List.set_cons_zero, List.set_cons_succ]))
  refine seq_opaque _ _ (by rfl) rfl ⟨_, rfl⟩ (by simp) (fun w5 hU _ K hK => ?_) ?_
  · go_simp
    refine (answer_any a b c A cap l _ (HS.out.ext hU.un) hm).mono ?_
    rw [HR.out]
    rintro e w6 ⟨rfl, h2⟩
    exact hK _ _ h2 rfl trivial
  rintro _ rfl
  simp only [Act.put, List.setIfInBounds_toArray, List.set_cons_zero, List.set_cons_succ]
  repeat ((refine seq_exact ?_ (by rfl) (by rfl) (fun w1 hU => ?_) ?_); (rotate_left 1); (focus (have hk := (HB.out.ext hU.un).cell; clear hU; go_simp <;> with_reducible rfl)); (simp only [Act.put, List.setIfInBounds_toArray, List.set_cons_zero, List.set_cons_succ]))
  intro w7 hw7 _
  simp only [List.drop_succ_cons, List.drop_nil]
  have HX7 := hide (HX.out.trans hw7.un)
  clear hw7
  go_wp2_with fail
  go_ret
  exact ⟨rfl, HX7.out⟩
set_option maxRecDepth 100000 in
set_option maxHeartbeats 1000000 in
theorem rright_any (s d k q a b c z : Int) (A : Option Addr) (cap : Nat) (l : List UInt8) (w : World) (hs : Sl w A cap l) (hm : l.length ≤ 9223372036854775807) :
    Calls Tryd.prog 12 #[.agg #[.int .i64 s, .int .i64 d, .int .i64 k, .int .i64 q, .int .i64 a, .int .i64 b, .int .i64 c, .int .i64 z, .slice A l.length cap]] w fun e w' => e = .returned (.bool (z == ansI a b c l)) ∧ Ext w w' := by
  have HS := hide (hs.ext (Ext.alloc w (.cells #[.int .i64 s, .int .i64 d, .int .i64 k, .int .i64 q, .int .i64 a, .int .i64 b, .int .i64 c, .int .i64 z, .slice A l.length cap] 29)))
  have HB := hide (Blk.new w 29 #[.int .i64 s, .int .i64 d, .int .i64 k, .int .i64 q, .int .i64 a, .int .i64 b, .int .i64 c, .int .i64 z, .slice A l.length cap])
  have HX := hide (Ext.alloc w (.cells #[.int .i64 s, .int .i64 d, .int .i64 k, .int .i64 q, .int .i64 a, .int .i64 b, .int .i64 c, .int .i64 z, .slice A l.length cap] 29))
  obtain ⟨r, hr⟩ : ∃ r, ansI a b c l = r := ⟨_, rfl⟩
  have HR := hide hr
  rw [hr]
  clear hs hr
  go_enter Tryd.func12, Tryd.ntmps12
  go_wp2_with fail
  generalize hwb : w.alloc (.cells #[.int .i64 s, .int .i64 d, .int .i64 k, .int .i64 q, .int .i64 a, .int .i64 b, .int .i64 c, .int .i64 z, .slice A l.length cap] 29) = wb at *
  clear hwb
  refine wp_region_ext 17 3 [(14, fun v => v = .int .i64 r, fun _ _ => True)] mixed (by kernel_rfl) ⟨fun _ _ _ _ _ => trivial, trivial⟩ ?_
  repeat ((refine seq_exact ?_ (by rfl) (by rfl) (fun w1 hU => ?_) ?_); (rotate_left 1); (focus (have hk := (HB.out.ext hU.un).cell; clear hU; go_simp <;> with_reducible rfl)); (simp only [Act.put, List.setIfInBounds_toArray, List.set_cons_zero, List.set_cons_succ]))
  refine seq_opaque _ _ (by rfl) rfl ⟨_, rfl⟩ (by simp) (fun w5 hU _ K hK => ?_) ?_
  · go_simp
    refine (ranswer_any a b c A cap l _ (HS.out.ext hU.un) hm).mono ?_
    rw [HR.out]
    rintro e w6 ⟨rfl, h2⟩
    exact hK _ _ h2 rfl trivial
  rintro _ rfl
  simp only [Act.put, List.setIfInBounds_toArray, List.set_cons_zero, List.set_cons_succ]
  repeat ((refine seq_exact ?_ (by rfl) (by rfl) (fun w1 hU => ?_) ?_); (rotate_left 1); (focus (have hk := (HB.out.ext hU.un).cell; clear hU; go_simp <;> with_reducible rfl)); (simp only [Act.put, List.setIfInBounds_toArray, List.set_cons_zero, List.set_cons_succ]))
  intro w7 hw7 _
  simp only [List.drop_succ_cons, List.drop_nil]
  have HX7 := hide (HX.out.trans hw7.un)
  clear hw7
  go_wp2_with fail
  go_ret
  exact ⟨rfl, HX7.out⟩
end Go.Proofs.YtpnniiildnkeaaaDoor
