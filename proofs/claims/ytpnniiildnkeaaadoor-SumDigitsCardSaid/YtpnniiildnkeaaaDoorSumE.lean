/-
  The example that every statement of layer 2 checks first; the walk of SumParts.
-/
import Derived.Test.YtpnniiildnkeaaaDoorSumD
namespace Go.Proofs.YtpnniiildnkeaaaDoor
open Go.RowKit
set_option linter.unusedVariables false

theorem aw_digits : str (hexL 256 16) = ⟨#[48, 48, 48, 48, 48, 48, 48, 48, 48, 48, 48, 48, 48, 49, 48, 48]⟩ := by
  have : hexL 256 16 = [48, 48, 48, 48, 48, 48, 48, 48, 48, 48, 48, 48, 48, 49, 48, 48] := by decide +kernel
  rw [this]
  rfl
theorem aw_ans : ((0 : Int) == ansI 4 0 0 []) = false := by decide +kernel
set_option maxRecDepth 100000 in
set_option maxHeartbeats 1000000 in
theorem awake02_any (w : World) (ht : TZ w) : Calls Tryd.prog 9 #[] w fun e w' => e = .returned (.bool true) ∧ Ext w w' := by
  have h7 := from_any 7 none 0 [] w (Sl.none_ w)
  have e7 : ((7 : UInt64).toNat : Int) = 7 := by decide
  have e7' : ((sumU 7 []).toNat : Int) = 7 := by decide
  have e256 : ((256 : UInt64).toNat : Int) = 256 := by decide
  have e256' : (256 : UInt64).toNat = 256 := by decide
  rw [e7, e7'] at h7
  have hdg := digits_any 256 w ht
  rw [e256, e256', aw_digits] at hdg
  obtain ⟨r, hr⟩ : ∃ r, ansI 4 0 0 [] = r := ⟨_, rfl⟩
  have HR := hide hr
  have hr0 : ((0 : Int) == r) = false := by rw [← hr]; exact aw_ans
  have H7 := hide h7
  have HD := hide hdg
  clear hr h7 hdg e7 e7' e256 e256'
  go_enter Tryd.func9, Tryd.ntmps9
  go_wp2_with fail
  refine H7.out.mono ?_
  rintro e w' ⟨rfl, rfl⟩
  go_wp2_with fail
  refine HD.out.mono ?_
  rintro e w1 ⟨rfl, he⟩
  have HE := hide he
  clear he
  go_wp2_with fail
  have hq := right_any 0 0 0 0 4 0 0 0 none 0 [] w1 (Sl.none_ _) (by simp)
  rw [HR.out] at hq
  refine hq.mono ?_
  clear hq
  rintro e w2 ⟨rfl, he⟩
  have HE := hide (HE.out.trans he)
  clear he
  go_wp2_with fail
  have hq := ranswer_any 4 0 0 none 0 [] w2 (Sl.none_ _) (by simp)
  rw [HR.out] at hq
  refine hq.mono ?_
  clear hq
  rintro e w3 ⟨rfl, he⟩
  have HE := hide (HE.out.trans he)
  clear he
  go_wp2_with fail
  have hq := right_any 0 0 0 0 4 0 0 r none 0 [] w3 (Sl.none_ _) (by simp)
  rw [HR.out] at hq
  refine hq.mono ?_
  clear hq
  rintro e w4 ⟨rfl, he⟩
  have HE := hide (HE.out.trans he)
  clear he
  go_wp2_with fail
  go_ret
  exact ⟨ret_bool (by simp), HE.out⟩
end Go.Proofs.YtpnniiildnkeaaaDoor
