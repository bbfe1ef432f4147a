/-
  FaultDevice: ValidDevice of both, SameMsg.
-/
import Derived.Test.YtfjddphjjhhjpaaDoorFauL
namespace Go.Proofs.YtfjddphjjhhjpaaDoor
open Go.RowKit
set_option linter.unusedVariables false

def validDv (c n k p m : Int) : Bool :=
  if (c == 0) && ((n == 0) && ((k == 0) && ((p == 0) && (m == 0)))) then true
  else if inB c 1 4 = false then false
  else if inB n 1 1000000 = false then false
  else if (k == 1) = true then (p == 0) && (m == 0)
  else inB k 2 3 && (inB p 0 24000 && inB m 1 255)
theorem inB23 (k : Int) : inB k 2 3 = ((k == 2) || (k == 3)) := by
  unfold inB
  by_cases h2 : k = 2
  · subst h2; rfl
  by_cases h3 : k = 3
  · subst h3; rfl
  rw [show (k == 2) = false by simp [h2], show (k == 3) = false by simp [h3]]
  by_cases h : 2 ≤ k
  · rw [decide_eq_true h, decide_eq_false (by omega)]; rfl
  · rw [decide_eq_false h]; rfl

set_option maxRecDepth 100000 in
set_option maxHeartbeats 16000000 in
theorem fvaliddev_any (c n k p m : Int) (w : World) : Calls Tryd.prog 24 #[.agg #[.int .i64 c, .int .i64 n, .int .i64 k, .int .i64 p, .int .i64 m]] w fun e w' => e = .returned (.bool (validDv c n k p m)) ∧ Ext w w' := by
  have HE := hide (Ext.alloc w (.cells #[.int .i64 c, .int .i64 n, .int .i64 k, .int .i64 p, .int .i64 m] 54))
  have hc := (Blk.new w 54 #[.int .i64 c, .int .i64 n, .int .i64 k, .int .i64 p, .int .i64 m]).cell
  obtain ⟨c0, hc0⟩ : ∃ t, (c == 0) = t := ⟨_, rfl⟩
  obtain ⟨n0, hn0⟩ : ∃ t, (n == 0) = t := ⟨_, rfl⟩
  obtain ⟨k0, hk0⟩ : ∃ t, (k == 0) = t := ⟨_, rfl⟩
  obtain ⟨p0, hp0⟩ : ∃ t, (p == 0) = t := ⟨_, rfl⟩
  obtain ⟨m0, hm0⟩ : ∃ t, (m == 0) = t := ⟨_, rfl⟩
  obtain ⟨k1, hk1⟩ : ∃ t, (k == 1) = t := ⟨_, rfl⟩
  obtain ⟨k2, hk2⟩ : ∃ t, (k == 2) = t := ⟨_, rfl⟩
  obtain ⟨k3, hk3⟩ : ∃ t, (k == 3) = t := ⟨_, rfl⟩
  obtain ⟨a1, ha1⟩ : ∃ t, inB c 1 4 = t := ⟨_, rfl⟩
  obtain ⟨a2, ha2⟩ : ∃ t, inB n 1 1000000 = t := ⟨_, rfl⟩
  obtain ⟨pl, hpl⟩ : ∃ t, inB p 0 24000 = t := ⟨_, rfl⟩
  obtain ⟨mm, hmm⟩ : ∃ t, inB m 1 255 = t := ⟨_, rfl⟩
  obtain ⟨z, hz⟩ : ∃ t, (c0 && (n0 && (k0 && (p0 && m0)))) = t := ⟨_, rfl⟩
  have Ha1 := hide ha1
  have Ha2 := hide ha2
  have Hpl := hide hpl
  have Hmm := hide hmm
  have HV := hide (show validDv c n k p m = (if z then true else if a1 = false then false else if a2 = false then false else if k1 = true then p0 && m0 else (k2 || k3) && (pl && mm)) from by
    unfold validDv; rw [hc0, hn0, hk0, hp0, hm0, hz, ha1, ha2, hk1, inB23, hk2, hk3, hpl, hmm])
  clear ha1 ha2 hpl hmm
  go_enter Tryd.func24, Tryd.ntmps24
  cases z
  rotate_left
  · obtain ⟨rfl, rfl, rfl, rfl, rfl⟩ : c0 = true ∧ n0 = true ∧ k0 = true ∧ p0 = true ∧ m0 = true := by simpa using hz
    go_wp2_with fail
    all_goals (go_ret; exact ⟨ret_bool (by rw [HV.out]; simp_all), HE.out⟩)
  cases a1
  · go_wp2_with (go_at_call 45; refine (within_any _ _ _ _).mono ?_; (first | rw [Ha1.out] | rw [Ha2.out] | rw [Hpl.out] | rw [Hmm.out]); rintro e w' ⟨rfl, rfl⟩)
    all_goals (go_ret; exact ⟨ret_bool (by rw [HV.out]; simp_all), HE.out⟩)
  cases a2
  · go_wp2_with (go_at_call 45; refine (within_any _ _ _ _).mono ?_; (first | rw [Ha1.out] | rw [Ha2.out] | rw [Hpl.out] | rw [Hmm.out]); rintro e w' ⟨rfl, rfl⟩)
    all_goals (go_ret; exact ⟨ret_bool (by rw [HV.out]; simp_all), HE.out⟩)
  cases k1
  rotate_left
  · cases p0
    · go_wp2_with (go_at_call 45; refine (within_any _ _ _ _).mono ?_; (first | rw [Ha1.out] | rw [Ha2.out] | rw [Hpl.out] | rw [Hmm.out]); rintro e w' ⟨rfl, rfl⟩)
      all_goals (go_ret; exact ⟨ret_bool (by rw [HV.out]; simp_all), HE.out⟩)
    · go_wp2_with (go_at_call 45; refine (within_any _ _ _ _).mono ?_; (first | rw [Ha1.out] | rw [Ha2.out] | rw [Hpl.out] | rw [Hmm.out]); rintro e w' ⟨rfl, rfl⟩)
      all_goals (go_ret; exact ⟨ret_bool (by rw [HV.out]; simp_all), HE.out⟩)
  cases k2 <;> cases k3 <;> cases pl
  all_goals
    go_wp2_with (go_at_call 45; refine (within_any _ _ _ _).mono ?_; (first | rw [Ha1.out] | rw [Ha2.out] | rw [Hpl.out] | rw [Hmm.out]); rintro e w' ⟨rfl, rfl⟩)
    all_goals (go_ret; exact ⟨ret_bool (by rw [HV.out]; simp_all), HE.out⟩)

set_option maxRecDepth 100000 in
set_option maxHeartbeats 16000000 in
theorem rvaliddev_any (c n k p m : Int) (w : World) : Calls Tryd.prog 25 #[.agg #[.int .i64 c, .int .i64 n, .int .i64 k, .int .i64 p, .int .i64 m]] w fun e w' => e = .returned (.bool (validDv c n k p m)) ∧ Ext w w' := by
  have HE := hide (Ext.alloc w (.cells #[.int .i64 c, .int .i64 n, .int .i64 k, .int .i64 p, .int .i64 m] 48))
  have hc := (Blk.new w 48 #[.int .i64 c, .int .i64 n, .int .i64 k, .int .i64 p, .int .i64 m]).cell
  obtain ⟨c0, hc0⟩ : ∃ t, (c == 0) = t := ⟨_, rfl⟩
  obtain ⟨n0, hn0⟩ : ∃ t, (n == 0) = t := ⟨_, rfl⟩
  obtain ⟨k0, hk0⟩ : ∃ t, (k == 0) = t := ⟨_, rfl⟩
  obtain ⟨p0, hp0⟩ : ∃ t, (p == 0) = t := ⟨_, rfl⟩
  obtain ⟨m0, hm0⟩ : ∃ t, (m == 0) = t := ⟨_, rfl⟩
  obtain ⟨k1, hk1⟩ : ∃ t, (k == 1) = t := ⟨_, rfl⟩
  obtain ⟨kk, hkk⟩ : ∃ t, inB k 2 3 = t := ⟨_, rfl⟩
  obtain ⟨a1, ha1⟩ : ∃ t, inB c 1 4 = t := ⟨_, rfl⟩
  obtain ⟨a2, ha2⟩ : ∃ t, inB n 1 1000000 = t := ⟨_, rfl⟩
  obtain ⟨pl, hpl⟩ : ∃ t, inB p 0 24000 = t := ⟨_, rfl⟩
  obtain ⟨mm, hmm⟩ : ∃ t, inB m 1 255 = t := ⟨_, rfl⟩
  obtain ⟨z, hz⟩ : ∃ t, (c0 && (n0 && (k0 && (p0 && m0)))) = t := ⟨_, rfl⟩
  have Ha1 := hide ha1
  have Ha2 := hide ha2
  have Hpl := hide hpl
  have Hmm := hide hmm
  have Hkk := hide hkk
  have HV := hide (show validDv c n k p m = (if z then true else if a1 = false then false else if a2 = false then false else if k1 = true then p0 && m0 else kk && (pl && mm)) from by
    unfold validDv; rw [hc0, hn0, hk0, hp0, hm0, hz, ha1, ha2, hk1, hkk, hpl, hmm])
  clear ha1 ha2 hpl hmm hkk
  go_enter Tryd.func25, Tryd.ntmps25
  cases z
  rotate_left
  · obtain ⟨rfl, rfl, rfl, rfl, rfl⟩ : c0 = true ∧ n0 = true ∧ k0 = true ∧ p0 = true ∧ m0 = true := by simpa using hz
    go_wp2_with fail
    all_goals (go_ret; exact ⟨ret_bool (by rw [HV.out]; simp_all), HE.out⟩)
  cases a1
  · go_wp2_with (go_at_call 39; refine (in_any _ _ _ _).mono ?_; (first | rw [Ha1.out] | rw [Ha2.out] | rw [Hkk.out] | rw [Hpl.out] | rw [Hmm.out]); rintro e w' ⟨rfl, rfl⟩)
    all_goals (go_ret; exact ⟨ret_bool (by rw [HV.out]; simp_all), HE.out⟩)
  cases a2
  · go_wp2_with (go_at_call 39; refine (in_any _ _ _ _).mono ?_; (first | rw [Ha1.out] | rw [Ha2.out] | rw [Hkk.out] | rw [Hpl.out] | rw [Hmm.out]); rintro e w' ⟨rfl, rfl⟩)
    all_goals (go_ret; exact ⟨ret_bool (by rw [HV.out]; simp_all), HE.out⟩)
  cases k1
  rotate_left
  · cases p0
    · go_wp2_with (go_at_call 39; refine (in_any _ _ _ _).mono ?_; (first | rw [Ha1.out] | rw [Ha2.out] | rw [Hkk.out] | rw [Hpl.out] | rw [Hmm.out]); rintro e w' ⟨rfl, rfl⟩)
      all_goals (go_ret; exact ⟨ret_bool (by rw [HV.out]; simp_all), HE.out⟩)
    · go_wp2_with (go_at_call 39; refine (in_any _ _ _ _).mono ?_; (first | rw [Ha1.out] | rw [Ha2.out] | rw [Hkk.out] | rw [Hpl.out] | rw [Hmm.out]); rintro e w' ⟨rfl, rfl⟩)
      all_goals (go_ret; exact ⟨ret_bool (by rw [HV.out]; simp_all), HE.out⟩)
  cases kk <;> cases pl
  all_goals
    go_wp2_with (go_at_call 39; refine (in_any _ _ _ _).mono ?_; (first | rw [Ha1.out] | rw [Ha2.out] | rw [Hkk.out] | rw [Hpl.out] | rw [Hmm.out]); rintro e w' ⟨rfl, rfl⟩)
    all_goals (go_ret; exact ⟨ret_bool (by rw [HV.out]; simp_all), HE.out⟩)

end Go.Proofs.YtfjddphjjhhjpaaDoor
