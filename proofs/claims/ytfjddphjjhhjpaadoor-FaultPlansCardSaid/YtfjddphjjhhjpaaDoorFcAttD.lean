/-
  Cut out of an elder text of mine (AttD) by cutdecl.py.
-/
import Derived.Test.YtfjddphjjhhjpaaDoorSeq
import Derived.Test.YtfjddphjjhhjpaaDoorVoc
import Derived.Test.YtfjddphjjhhjpaaDoorSeqIn
import Derived.Test.YtfjddphjjhhjpaaDoorFcImgA
import Derived.Test.YtfjddphjjhhjpaaDoorFcChg
import Derived.Test.YtfjddphjjhhjpaaDoorFcImgB
import Derived.Test.YtfjddphjjhhjpaaDoorFcEqA
import Derived.Test.YtfjddphjjhhjpaaDoorFcLawD
import Derived.Test.YtfjddphjjhhjpaaDoorFcAttA
import Derived.Test.YtfjddphjjhhjpaaDoorFcAttB
namespace Go.Proofs.YtfjddphjjhhjpaaDoor
open Go.RowKit
set_option linter.unusedVariables false


/-- A plan. -/
structure Pl where
  c : Int
  n : Int
  e : Int
  k : Int
  s : Int
  p : Int
  m : Int
def validPl (x : Pl) : Bool :=
  if x.k = 0 then (x.c == 0) && ((x.n == 0) && ((x.e == 0) && ((x.s == 0) && ((x.p == 0) && (x.m == 0)))))
  else if inB x.c 1 10 = false then false
  else if inB x.n 1 1000000 = false then false
  else if inB x.k 1 3 then inB x.e 0 1 && (inB x.s 0 4000 && ((x.p == 0) && (x.m == 0)))
  else if inB x.k 4 7 then inB x.e 0 1 && ((x.s == 0) && (inB x.p 0 24000 && inB x.m 1 255))
  else if x.k == 8 then (x.e == 0) && (inB x.s 0 4000 && ((x.p == 0) && (x.m == 0)))
  else (x.k == 9) && ((x.e == 0) && ((x.s == 0) && ((x.p == 0) && (x.m == 0))))

set_option maxRecDepth 100000 in
set_option maxHeartbeats 2000000 in
theorem rvalid_any (x : Pl) (w : World) : Calls Tryd.prog 14 #[.agg #[.int .i64 x.c, .int .i64 x.n, .int .i64 x.e, .int .i64 x.k, .int .i64 x.s, .int .i64 x.p, .int .i64 x.m]] w fun e w' => e = .returned (.bool (validPl x)) ∧ Ext w w' := by
  obtain ⟨c, n, e, k, s, p, m⟩ := x
  simp only
  have HE := hide (Ext.alloc w (.cells #[.int .i64 c, .int .i64 n, .int .i64 e, .int .i64 k, .int .i64 s, .int .i64 p, .int .i64 m] 23))
  have hc := (Blk.new w 23 #[.int .i64 c, .int .i64 n, .int .i64 e, .int .i64 k, .int .i64 s, .int .i64 p, .int .i64 m]).cell
  by_cases hk : k = 0
  · subst hk
    go_enter Tryd.func14, Tryd.ntmps14
    go_wp2
    all_goals (go_ret; exact ⟨ret_bool (by simp_all [validPl]), Ext.alloc w _⟩)
  obtain ⟨a1, ha1⟩ : ∃ t, inB c 1 10 = t := ⟨_, rfl⟩
  have Ha1 := hide ha1
  obtain ⟨a2, ha2⟩ : ∃ t, inB n 1 1000000 = t := ⟨_, rfl⟩
  have Ha2 := hide ha2
  obtain ⟨k13, hk13⟩ : ∃ t, inB k 1 3 = t := ⟨_, rfl⟩
  have Hk13 := hide hk13
  obtain ⟨k47, hk47⟩ : ∃ t, inB k 4 7 = t := ⟨_, rfl⟩
  have Hk47 := hide hk47
  obtain ⟨k8, hk8⟩ : ∃ t, (k == 8) = t := ⟨_, rfl⟩
  have Hk8 := hide hk8
  obtain ⟨k9, hk9⟩ : ∃ t, (k == 9) = t := ⟨_, rfl⟩
  have Hk9 := hide hk9
  obtain ⟨e01, he01⟩ : ∃ t, inB e 0 1 = t := ⟨_, rfl⟩
  have He01 := hide he01
  obtain ⟨s4, hs4⟩ : ∃ t, inB s 0 4000 = t := ⟨_, rfl⟩
  have Hs4 := hide hs4
  obtain ⟨p0, hp0⟩ : ∃ t, (p == 0) = t := ⟨_, rfl⟩
  have Hp0 := hide hp0
  obtain ⟨m0, hm0⟩ : ∃ t, (m == 0) = t := ⟨_, rfl⟩
  have Hm0 := hide hm0
  obtain ⟨s0, hs0⟩ : ∃ t, (s == 0) = t := ⟨_, rfl⟩
  have Hs0 := hide hs0
  obtain ⟨pl, hpl⟩ : ∃ t, inB p 0 24000 = t := ⟨_, rfl⟩
  have Hpl := hide hpl
  obtain ⟨mm, hmm⟩ : ∃ t, inB m 1 255 = t := ⟨_, rfl⟩
  have Hmm := hide hmm
  obtain ⟨e0, he0⟩ : ∃ t, (e == 0) = t := ⟨_, rfl⟩
  have He0 := hide he0
  have HV := hide (show validPl ⟨c, n, e, k, s, p, m⟩ = (if a1 = false then false else if a2 = false then false else if k13 then e01 && (s4 && (p0 && m0)) else if k47 then e01 && (s0 && (pl && mm)) else if k8 then e0 && (s4 && (p0 && m0)) else k9 && (e0 && (s0 && (p0 && m0)))) from by unfold validPl; simp only; rw [if_neg hk, ha1, ha2, hk13, hk47, hk8, hk9, he01, hs4, hp0, hm0, hs0, hpl, hmm, he0])
  clear ha1 ha2 hk13 hk47 he01 hs4 hpl hmm
  go_enter Tryd.func14, Tryd.ntmps14
  cases a1
  · go_wp2_with (first | (go_at_call 39; refine (in_any _ _ _ _).mono ?_; (first | rw [Ha1.out] | rw [Ha2.out] | rw [Hk13.out] | rw [Hk47.out] | rw [He01.out] | rw [Hs4.out] | rw [Hpl.out] | rw [Hmm.out]); rintro e w' ⟨rfl, rfl⟩) | (go_at_call 40; refine (flips_any _ _).mono ?_; rw [Hk47.out]; rintro e w' ⟨rfl, rfl⟩)); go_ret; exact ⟨ret_bool (by rw [HV.out]; rfl), HE.out⟩
  cases a2
  · go_wp2_with (first | (go_at_call 39; refine (in_any _ _ _ _).mono ?_; (first | rw [Ha1.out] | rw [Ha2.out] | rw [Hk13.out] | rw [Hk47.out] | rw [He01.out] | rw [Hs4.out] | rw [Hpl.out] | rw [Hmm.out]); rintro e w' ⟨rfl, rfl⟩) | (go_at_call 40; refine (flips_any _ _).mono ?_; rw [Hk47.out]; rintro e w' ⟨rfl, rfl⟩)); go_ret; exact ⟨ret_bool (by rw [HV.out]; rfl), HE.out⟩
  cases k13
  rotate_left 1
  · -- 1 .. 3
    cases e01
    · go_wp2_with (first | (go_at_call 39; refine (in_any _ _ _ _).mono ?_; (first | rw [Ha1.out] | rw [Ha2.out] | rw [Hk13.out] | rw [Hk47.out] | rw [He01.out] | rw [Hs4.out] | rw [Hpl.out] | rw [Hmm.out]); rintro e w' ⟨rfl, rfl⟩) | (go_at_call 40; refine (flips_any _ _).mono ?_; rw [Hk47.out]; rintro e w' ⟨rfl, rfl⟩)); go_ret; exact ⟨ret_bool (by rw [HV.out]; rfl), HE.out⟩
    cases s4
    · go_wp2_with (first | (go_at_call 39; refine (in_any _ _ _ _).mono ?_; (first | rw [Ha1.out] | rw [Ha2.out] | rw [Hk13.out] | rw [Hk47.out] | rw [He01.out] | rw [Hs4.out] | rw [Hpl.out] | rw [Hmm.out]); rintro e w' ⟨rfl, rfl⟩) | (go_at_call 40; refine (flips_any _ _).mono ?_; rw [Hk47.out]; rintro e w' ⟨rfl, rfl⟩)); go_ret; exact ⟨ret_bool (by rw [HV.out]; rfl), HE.out⟩
    cases p0
    · go_wp2_with (first | (go_at_call 39; refine (in_any _ _ _ _).mono ?_; (first | rw [Ha1.out] | rw [Ha2.out] | rw [Hk13.out] | rw [Hk47.out] | rw [He01.out] | rw [Hs4.out] | rw [Hpl.out] | rw [Hmm.out]); rintro e w' ⟨rfl, rfl⟩) | (go_at_call 40; refine (flips_any _ _).mono ?_; rw [Hk47.out]; rintro e w' ⟨rfl, rfl⟩)); go_ret; exact ⟨ret_bool (by rw [HV.out]; rfl), HE.out⟩
    go_wp2_with (first | (go_at_call 39; refine (in_any _ _ _ _).mono ?_; (first | rw [Ha1.out] | rw [Ha2.out] | rw [Hk13.out] | rw [Hk47.out] | rw [He01.out] | rw [Hs4.out] | rw [Hpl.out] | rw [Hmm.out]); rintro e w' ⟨rfl, rfl⟩) | (go_at_call 40; refine (flips_any _ _).mono ?_; rw [Hk47.out]; rintro e w' ⟨rfl, rfl⟩)); go_ret; exact ⟨ret_bool (by rw [HV.out]; rfl), HE.out⟩
  cases k47
  rotate_left 1
  · skip
    cases e01
    · go_wp2_with (first | (go_at_call 39; refine (in_any _ _ _ _).mono ?_; (first | rw [Ha1.out] | rw [Ha2.out] | rw [Hk13.out] | rw [Hk47.out] | rw [He01.out] | rw [Hs4.out] | rw [Hpl.out] | rw [Hmm.out]); rintro e w' ⟨rfl, rfl⟩) | (go_at_call 40; refine (flips_any _ _).mono ?_; rw [Hk47.out]; rintro e w' ⟨rfl, rfl⟩)); go_ret; exact ⟨ret_bool (by rw [HV.out]; rfl), HE.out⟩
    cases s0
    · go_wp2_with (first | (go_at_call 39; refine (in_any _ _ _ _).mono ?_; (first | rw [Ha1.out] | rw [Ha2.out] | rw [Hk13.out] | rw [Hk47.out] | rw [He01.out] | rw [Hs4.out] | rw [Hpl.out] | rw [Hmm.out]); rintro e w' ⟨rfl, rfl⟩) | (go_at_call 40; refine (flips_any _ _).mono ?_; rw [Hk47.out]; rintro e w' ⟨rfl, rfl⟩)); go_ret; exact ⟨ret_bool (by rw [HV.out]; rfl), HE.out⟩
    cases pl
    · go_wp2_with (first | (go_at_call 39; refine (in_any _ _ _ _).mono ?_; (first | rw [Ha1.out] | rw [Ha2.out] | rw [Hk13.out] | rw [Hk47.out] | rw [He01.out] | rw [Hs4.out] | rw [Hpl.out] | rw [Hmm.out]); rintro e w' ⟨rfl, rfl⟩) | (go_at_call 40; refine (flips_any _ _).mono ?_; rw [Hk47.out]; rintro e w' ⟨rfl, rfl⟩)); go_ret; exact ⟨ret_bool (by rw [HV.out]; rfl), HE.out⟩
    go_wp2_with (first | (go_at_call 39; refine (in_any _ _ _ _).mono ?_; (first | rw [Ha1.out] | rw [Ha2.out] | rw [Hk13.out] | rw [Hk47.out] | rw [He01.out] | rw [Hs4.out] | rw [Hpl.out] | rw [Hmm.out]); rintro e w' ⟨rfl, rfl⟩) | (go_at_call 40; refine (flips_any _ _).mono ?_; rw [Hk47.out]; rintro e w' ⟨rfl, rfl⟩)); go_ret; exact ⟨ret_bool (by rw [HV.out]; rfl), HE.out⟩
  cases k8
  rotate_left 1
  · skip
    cases e0
    · go_wp2_with (first | (go_at_call 39; refine (in_any _ _ _ _).mono ?_; (first | rw [Ha1.out] | rw [Ha2.out] | rw [Hk13.out] | rw [Hk47.out] | rw [He01.out] | rw [Hs4.out] | rw [Hpl.out] | rw [Hmm.out]); rintro e w' ⟨rfl, rfl⟩) | (go_at_call 40; refine (flips_any _ _).mono ?_; rw [Hk47.out]; rintro e w' ⟨rfl, rfl⟩)); go_ret; exact ⟨ret_bool (by rw [HV.out]; rfl), HE.out⟩
    cases s4
    · go_wp2_with (first | (go_at_call 39; refine (in_any _ _ _ _).mono ?_; (first | rw [Ha1.out] | rw [Ha2.out] | rw [Hk13.out] | rw [Hk47.out] | rw [He01.out] | rw [Hs4.out] | rw [Hpl.out] | rw [Hmm.out]); rintro e w' ⟨rfl, rfl⟩) | (go_at_call 40; refine (flips_any _ _).mono ?_; rw [Hk47.out]; rintro e w' ⟨rfl, rfl⟩)); go_ret; exact ⟨ret_bool (by rw [HV.out]; rfl), HE.out⟩
    cases p0
    · go_wp2_with (first | (go_at_call 39; refine (in_any _ _ _ _).mono ?_; (first | rw [Ha1.out] | rw [Ha2.out] | rw [Hk13.out] | rw [Hk47.out] | rw [He01.out] | rw [Hs4.out] | rw [Hpl.out] | rw [Hmm.out]); rintro e w' ⟨rfl, rfl⟩) | (go_at_call 40; refine (flips_any _ _).mono ?_; rw [Hk47.out]; rintro e w' ⟨rfl, rfl⟩)); go_ret; exact ⟨ret_bool (by rw [HV.out]; rfl), HE.out⟩
    go_wp2_with (first | (go_at_call 39; refine (in_any _ _ _ _).mono ?_; (first | rw [Ha1.out] | rw [Ha2.out] | rw [Hk13.out] | rw [Hk47.out] | rw [He01.out] | rw [Hs4.out] | rw [Hpl.out] | rw [Hmm.out]); rintro e w' ⟨rfl, rfl⟩) | (go_at_call 40; refine (flips_any _ _).mono ?_; rw [Hk47.out]; rintro e w' ⟨rfl, rfl⟩)); go_ret; exact ⟨ret_bool (by rw [HV.out]; rfl), HE.out⟩
  cases k9
  · go_wp2_with (first | (go_at_call 39; refine (in_any _ _ _ _).mono ?_; (first | rw [Ha1.out] | rw [Ha2.out] | rw [Hk13.out] | rw [Hk47.out] | rw [He01.out] | rw [Hs4.out] | rw [Hpl.out] | rw [Hmm.out]); rintro e w' ⟨rfl, rfl⟩) | (go_at_call 40; refine (flips_any _ _).mono ?_; rw [Hk47.out]; rintro e w' ⟨rfl, rfl⟩)); go_ret; exact ⟨ret_bool (by rw [HV.out]; rfl), HE.out⟩
  cases e0
  · go_wp2_with (first | (go_at_call 39; refine (in_any _ _ _ _).mono ?_; (first | rw [Ha1.out] | rw [Ha2.out] | rw [Hk13.out] | rw [Hk47.out] | rw [He01.out] | rw [Hs4.out] | rw [Hpl.out] | rw [Hmm.out]); rintro e w' ⟨rfl, rfl⟩) | (go_at_call 40; refine (flips_any _ _).mono ?_; rw [Hk47.out]; rintro e w' ⟨rfl, rfl⟩)); go_ret; exact ⟨ret_bool (by rw [HV.out]; rfl), HE.out⟩
  cases s0
  · go_wp2_with (first | (go_at_call 39; refine (in_any _ _ _ _).mono ?_; (first | rw [Ha1.out] | rw [Ha2.out] | rw [Hk13.out] | rw [Hk47.out] | rw [He01.out] | rw [Hs4.out] | rw [Hpl.out] | rw [Hmm.out]); rintro e w' ⟨rfl, rfl⟩) | (go_at_call 40; refine (flips_any _ _).mono ?_; rw [Hk47.out]; rintro e w' ⟨rfl, rfl⟩)); go_ret; exact ⟨ret_bool (by rw [HV.out]; rfl), HE.out⟩
  cases p0
  · go_wp2_with (first | (go_at_call 39; refine (in_any _ _ _ _).mono ?_; (first | rw [Ha1.out] | rw [Ha2.out] | rw [Hk13.out] | rw [Hk47.out] | rw [He01.out] | rw [Hs4.out] | rw [Hpl.out] | rw [Hmm.out]); rintro e w' ⟨rfl, rfl⟩) | (go_at_call 40; refine (flips_any _ _).mono ?_; rw [Hk47.out]; rintro e w' ⟨rfl, rfl⟩)); go_ret; exact ⟨ret_bool (by rw [HV.out]; rfl), HE.out⟩
  go_wp2_with (first | (go_at_call 39; refine (in_any _ _ _ _).mono ?_; (first | rw [Ha1.out] | rw [Ha2.out] | rw [Hk13.out] | rw [Hk47.out] | rw [He01.out] | rw [Hs4.out] | rw [Hpl.out] | rw [Hmm.out]); rintro e w' ⟨rfl, rfl⟩) | (go_at_call 40; refine (flips_any _ _).mono ?_; rw [Hk47.out]; rintro e w' ⟨rfl, rfl⟩)); go_ret; exact ⟨ret_bool (by rw [HV.out]; rfl), HE.out⟩
end Go.Proofs.YtfjddphjjhhjpaaDoor
