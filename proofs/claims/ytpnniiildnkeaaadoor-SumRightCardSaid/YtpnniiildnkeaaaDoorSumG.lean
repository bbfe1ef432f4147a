/-
  The walk of SumRight.
-/
import Derived.Test.YtpnniiildnkeaaaDoorSumF
import Derived.Test.YtpnniiildnkeaaaDoorMem
namespace Go.Proofs.YtpnniiildnkeaaaDoor
open Go.RowKit
set_option linter.unusedVariables false

set_option maxRecDepth 100000 in
set_option maxHeartbeats 2000000 in
theorem right_law (s d k q a b c z : Int) (A : Option Addr) (cap : Nat) (l : List UInt8) (w : World) (ht : TZ w) (hs : Sl w A cap l) :
    Calls Tryd.prog 4 #[.agg #[.int .i64 s, .int .i64 d, .int .i64 k, .int .i64 q, .int .i64 a, .int .i64 b, .int .i64 c, .int .i64 z, .slice A l.length cap]] w fun e w' => e = .returned (.bool true) ∧ Ext w w' := by
  have hma := hs.max
  have hla := hs.le
  unfold maxLen at hma
  have hl2 : l.length ≤ 9223372036854775807 := by omega
  have he := Ext.alloc w (.cells #[.int .i64 s, .int .i64 d, .int .i64 k, .int .i64 q, .int .i64 a, .int .i64 b, .int .i64 c, .int .i64 z, .slice A l.length cap] 29)
  have HB := hide (Blk.new w 29 #[.int .i64 s, .int .i64 d, .int .i64 k, .int .i64 q, .int .i64 a, .int .i64 b, .int .i64 c, .int .i64 z, .slice A l.length cap])
  have HS := hide (hs.ext he)
  have HT := hide (ht.ext he)
  have HX := hide he
  clear hs ht hma hla he
  go_enter Tryd.func4, Tryd.ntmps4
  go_wp2_with fail
  generalize hwb : w.alloc (.cells #[.int .i64 s, .int .i64 d, .int .i64 k, .int .i64 q, .int .i64 a, .int .i64 b, .int .i64 c, .int .i64 z, .slice A l.length cap] 29) = wb at *
  clear hwb
  refine (awake02_any wb HT.out).mono ?_
  rintro e w1 ⟨rfl, he⟩
  have HB := hide (HB.out.ext he)
  have HS := hide (HS.out.ext he)
  have HX := hide (HX.out.trans he)
  have hc := HB.out.cell
  clear he
  by_cases h1 : 600 < l.length
  · go_wp2_with fail
    go_ret
    exact ⟨rfl, HX.out⟩
  go_wp2_with fail
  obtain ⟨r, hr⟩ : ∃ r, ansI a b c l = r := ⟨_, rfl⟩
  have HR := hide hr
  clear hr
  refine wp_region_ext 5 3 [(1, fun v => v = .bool (z == r), fun _ _ => True), (3, fun v => v = .bool (z == r), fun _ _ => True)] mixed (by kernel_rfl) ⟨fun _ _ _ _ _ => trivial, fun _ _ _ _ _ => trivial, trivial⟩ ?_
  repeat ((refine seq_exact ?_ (by rfl) (by rfl) (fun w1 hU => ?_) ?_); (rotate_left 1); (focus (have hk := (HB.out.ext hU.un).cell; clear hU; go_simp <;> with_reducible rfl)); (simp only [Act.put, List.setIfInBounds_toArray, List.set_cons_zero, List.set_cons_succ]))
  refine seq_opaque _ _ (by rfl) rfl ⟨_, rfl⟩ (by simp) (fun w5 hU _ K hK => ?_) ?_
  · have hq := right_any s d k q a b c z A cap l _ (HS.out.ext hU.un) hl2
    rw [HR.out] at hq
    go_simp
    refine hq.mono ?_
    rintro e w6 ⟨rfl, h2⟩
    exact hK _ _ h2 rfl trivial
  rintro _ rfl
  simp only [Act.put, List.setIfInBounds_toArray, List.set_cons_zero, List.set_cons_succ]
  repeat ((refine seq_exact ?_ (by rfl) (by rfl) (fun w1 hU => ?_) ?_); (rotate_left 1); (focus (have hk := (HB.out.ext hU.un).cell; clear hU; go_simp <;> with_reducible rfl)); (simp only [Act.put, List.setIfInBounds_toArray, List.set_cons_zero, List.set_cons_succ]))
  refine seq_opaque _ _ (by rfl) rfl ⟨_, rfl⟩ (by simp) (fun w5 hU _ K hK => ?_) ?_
  · have hq := rright_any s d k q a b c z A cap l _ (HS.out.ext hU.un) hl2
    rw [HR.out] at hq
    go_simp
    refine hq.mono ?_
    rintro e w6 ⟨rfl, h2⟩
    exact hK _ _ h2 rfl trivial
  rintro _ rfl
  simp only [Act.put, List.setIfInBounds_toArray, List.set_cons_zero, List.set_cons_succ]
  repeat ((refine seq_exact ?_ (by rfl) (by rfl) (fun w1 hU => ?_) ?_); (rotate_left 1); (focus (go_simp <;> with_reducible rfl)); (simp only [Act.put, List.setIfInBounds_toArray, List.set_cons_zero, List.set_cons_succ]))
  intro w7 hw7 _
  simp only [List.drop_succ_cons, List.drop_nil]
  have HB := hide (HB.out.ext hw7.un)
  have HS := hide (HS.out.ext hw7.un)
  have HX := hide (HX.out.trans hw7.un)
  have hc := HB.out.cell
  clear hw7
  go_wp2_with fail
  have hq := answer_any a b c A cap l _ HS.out hl2
  rw [HR.out] at hq
  refine hq.mono ?_
  clear hq
  rintro e w8 ⟨rfl, he⟩
  have HB1 := HB.out.ext he
  have hc := HB1.cell
  have hf := HB1.frozen
  have HB2 := HB1.set 7 (.int .i64 r)
  have HB2 : Hid (Blk (w8.setCell ⟨w.heap.size, 7, none⟩ (.int .i64 r)) w.heap.size 29 #[.int .i64 s, .int .i64 d, .int .i64 k, .int .i64 q, .int .i64 a, .int .i64 b, .int .i64 c, .int .i64 r, .slice A l.length cap]) := hide (by simpa using HB2)
  have HX := hide ((HX.out.trans he).set (p := ⟨w.heap.size, 7, none⟩) (Nat.le_refl _) (.int .i64 r))
  have HS2 := hide ((HS.out.ext he).put HB1 (by simp [noByte]) 7 (.int .i64 r))
  clear he HB1
  go_wp2_with fail
  have hq := right_any s d k q a b c r A cap l _ HS2.out hl2
  rw [HR.out] at hq
  refine hq.mono ?_
  clear hq
  rintro e w9 ⟨rfl, he⟩
  have HX := hide (HX.out.trans he)
  clear he
  go_wp2_with fail
  go_ret
  exact ⟨ret_bool (by simp), HX.out⟩
end Go.Proofs.YtpnniiildnkeaaaDoor
