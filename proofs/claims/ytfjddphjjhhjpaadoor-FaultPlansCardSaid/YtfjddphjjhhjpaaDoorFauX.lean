/-
  FaultPlans: Print of the reference.
-/
import Derived.Test.YtfjddphjjhhjpaaDoorFauW
namespace Go.Proofs.YtfjddphjjhhjpaaDoor
open Go.RowKit
set_option linter.unusedVariables false

theorem deci_any (v : Int) (h0 : 0 ≤ v) (h1 : v ≤ 9223372036854775807) (w : World) : Calls Tryd.prog 37 #[.int .i64 v] w fun e w' => e = .returned (.string (str (decI v))) ∧ w = w' := by
  obtain ⟨n, rfl⟩ := Int.eq_ofNat_of_zero_le h0
  have := decimal_any (n + 1) n (by omega) (by omega) w
  unfold decI
  rw [Int.toNat_natCast]
  exact this
theorem deci_len (v : Int) (h0 : 0 ≤ v) (h1 : v ≤ 1000000) : (decI v).length ≤ 8 := by
  unfold decI
  exact dec_length 7 v.toNat (by omega)
/-- The first three words. -/
def headL (x : Pl) : List UInt8 := decI x.c ++ [32] ++ decI x.n ++ [32] ++ nameK x.k
theorem name_len (q : Nat) : (nameK (q : Int)).length ≤ 12 := by
  unfold nameK
  rw [Int.toNat_natCast]
  by_cases h : q < 10
  · obtain rfl | rfl | rfl | rfl | rfl | rfl | rfl | rfl | rfl | rfl : q = 0 ∨ q = 1 ∨ q = 2 ∨ q = 3 ∨ q = 4 ∨ q = 5 ∨ q = 6 ∨ q = 7 ∨ q = 8 ∨ q = 9 := by omega
    all_goals decide
  · rw [List.getD_eq_getElem?_getD, List.getElem?_eq_none (show namesL.length ≤ q from by have : namesL.length = 10 := rfl; omega)]
    exact Nat.zero_le _
theorem names_at (q : Nat) (h : q < 10) : namesV[q]? = some (.string (str (nameK (q : Int)))) := by
  obtain rfl | rfl | rfl | rfl | rfl | rfl | rfl | rfl | rfl | rfl : q = 0 ∨ q = 1 ∨ q = 2 ∨ q = 3 ∨ q = 4 ∨ q = 5 ∨ q = 6 ∨ q = 7 ∨ q = 8 ∨ q = 9 := by omega
  all_goals rfl
theorem valid_head {x : Pl} (h : validPl x = true) (hk : x.k ≠ 0) : (1 ≤ x.c ∧ x.c ≤ 10) ∧ (1 ≤ x.n ∧ x.n ≤ 1000000) ∧ 1 ≤ x.k ∧ x.k ≤ 9 := by
  rcases valid_ways h with rfl | ⟨h1, h2, h3⟩
  · exact absurd rfl hk
  · refine ⟨h1, h2, ?_⟩
    rcases h3 with h3 | h3 | h3 | h3 <;> omega
set_option maxRecDepth 100000 in
set_option maxHeartbeats 800000 in
theorem rprint_any (x : Pl) (w : World) : Calls Tryd.prog 10 #[.agg #[.int .i64 x.c, .int .i64 x.n, .int .i64 x.e, .int .i64 x.k, .int .i64 x.s, .int .i64 x.p, .int .i64 x.m]] w fun e w' => e = .returned (.tuple #[.string (str (printS x)), .int .i64 (printE x)]) ∧ Ext w w' := by
  have HV := hide (rvalid_any x)
  have HB := hide (Blk.new w 23 #[.int .i64 x.c, .int .i64 x.n, .int .i64 x.e, .int .i64 x.k, .int .i64 x.s, .int .i64 x.p, .int .i64 x.m])
  have HX := hide (Ext.alloc w (.cells #[.int .i64 x.c, .int .i64 x.n, .int .i64 x.e, .int .i64 x.k, .int .i64 x.s, .int .i64 x.p, .int .i64 x.m] 23))
  cases hv : validPl x with
  | false =>
    have HS := hide (show printS x = [] by unfold printS; rw [hv]; rfl)
    have HE := hide (show printE x = 1 by unfold printE; rw [hv]; rfl)
    rw [hv] at HV
    clear hv
    go_enter Tryd.func10, Tryd.ntmps10
    go_wp2_with (go_at_call 14; refine (HV.out _).mono ?_; rintro e w1 ⟨rfl, hE1⟩; have HE1 := hide hE1; clear hE1)
    go_ret2
    exact ⟨by rw [HS.out, HE.out]; rfl, HX.out.trans HE1.out⟩
  | true =>
    have HS := hide (show printS x = printL x by unfold printS; rw [hv]; rfl)
    have HE := hide (show printE x = 0 by unfold printE; rw [hv]; rfl)
    rw [hv] at HV
    by_cases hk : x.k = 0
    · have hkb : (x.k == 0) = true := by simp [hk]
      have HP := hide (show printL x = [110, 111, 110, 101] by unfold printL; rw [if_pos hk])
      clear hv hk
      go_enter Tryd.func10, Tryd.ntmps10
      go_wp2_with (go_at_call 14; refine (HV.out _).mono ?_; rintro e w1 ⟨rfl, hE1⟩; have HE1 := hide (HX.out.trans hE1); have hbc := (HB.out.ext hE1).cell; clear hE1)
      go_ret2
      exact ⟨by rw [HS.out, HE.out, HP.out]; rfl, HE1.out⟩
    have hkb : (x.k == 0) = false := by simp [hk]
    obtain ⟨hc, hn, hk1, hk9⟩ := valid_head hv hk
    obtain ⟨c, n, pe, k, ps, p, m⟩ := x
    simp only at HV HB HX HS HE hkb hc hn hk1 hk9 hk ⊢
    obtain ⟨q, rfl⟩ := Int.eq_ofNat_of_zero_le (show 0 ≤ k by omega)
    have hq10 : q < 10 := by omega
    have hq10i : (q : Int) < 10 := by omega
    have HDC := hide (deci_any c (by omega) (by omega))
    have HDN := hide (deci_any n (by omega) (by omega))
    have hlc := deci_len c (by omega) (by omega)
    have hln := deci_len n (by omega) (by omega)
    have hlm := name_len q
    have HNA := hide (names_at q hq10)
    obtain ⟨C, hC⟩ : ∃ C, decI c = C := ⟨_, rfl⟩
    obtain ⟨N, hN⟩ : ∃ N, decI n = N := ⟨_, rfl⟩
    obtain ⟨M, hM⟩ : ∃ M, nameK (q : Int) = M := ⟨_, rfl⟩
    have HCNM := hide (And.intro hC (And.intro hN hM))
    rw [hC] at HDC hlc
    rw [hN] at HDN hln
    rw [hM] at HNA hlm
    clear hC hN hM
    have hs32 : (⟨#[32]⟩ : ByteArray).size = 1 := rfl
    have hsC : (str C).size = C.length := str_sizeT C
    have hsN : (str N).size = N.length := str_sizeT N
    have hsM : (str M).size = M.length := str_sizeT M
    obtain ⟨S1, e1⟩ : ∃ S, C ++ [32] = S := ⟨_, rfl⟩
    obtain ⟨S2, e2⟩ : ∃ S, S1 ++ N = S := ⟨_, rfl⟩
    obtain ⟨S3, e3⟩ : ∃ S, S2 ++ [32] = S := ⟨_, rfl⟩
    obtain ⟨S4, e4⟩ : ∃ S, S3 ++ M = S := ⟨_, rfl⟩
    have l1 : S1.length = C.length + 1 := by rw [← e1]; simp
    have l2 : S2.length = S1.length + N.length := by rw [← e2]; simp
    have l3 : S3.length = S2.length + 1 := by rw [← e3]; simp
    have l4 : S4.length = S3.length + M.length := by rw [← e4]; simp
    have hx1 : str C ++ (⟨#[32]⟩ : ByteArray) = str S1 := by rw [← e1]; exact str_appT C [32]
    have hx2 : str S1 ++ str N = str S2 := by rw [← e2]; exact str_appT _ _
    have hx3 : str S2 ++ (⟨#[32]⟩ : ByteArray) = str S3 := by rw [← e3]; exact str_appT _ [32]
    have hx4 : str S3 ++ str M = str S4 := by rw [← e4]; exact str_appT _ _
    have hs1 : (str S1).size = S1.length := str_sizeT S1
    have hs2 : (str S2).size = S2.length := str_sizeT S2
    have hs3 : (str S3).size = S3.length := str_sizeT S3
    have hs4 : (str S4).size = S4.length := str_sizeT S4
    have hz1 : ¬ 9223372036854775807 < C.length + 1 := by omega
    have hz2 : ¬ 9223372036854775807 < S1.length + N.length := by omega
    have hz3 : ¬ 9223372036854775807 < S2.length + 1 := by omega
    have hz4 : ¬ 9223372036854775807 < S3.length + M.length := by omega
    have HSS := hide (And.intro e1 (And.intro e2 (And.intro e3 e4)))
    have hl4 : S4.length ≤ 60 := by omega
    clear e1 e2 e3 e4 l1 l2 l3 l4
    go_enter Tryd.func10, Tryd.ntmps10
    go_wp2_with (go_at_call 14; refine (HV.out _).mono ?_; rintro e w1 ⟨rfl, hE1⟩; have HE1 := hide (HX.out.trans hE1); have HB1 := hide (HB.out.ext hE1); have hbc := (HB.out.ext hE1).cell; clear hE1)
    clear hbc
    refine wp_region_ext 16 9 [(2, fun v => v = .string (str C), fun _ _ => True), (6, fun v => v = .string (str N), fun _ _ => True), (9, fun v => ∃ g, v = .slice (some ⟨g, 0, none⟩) 10 10, fun v w => ∀ g, v = .slice (some ⟨g, 0, none⟩) 10 10 → Blk w g 9 namesV), (13, fun v => v = .string (str M), fun _ _ => True)] mixed (by kernel_rfl)
      ⟨fun _ _ _ _ _ => trivial, fun _ _ _ _ _ => trivial, fun _ _ _ h hx g e => (h g e).ext hx, fun _ _ _ _ _ => trivial, trivial⟩ ?_
    repeat ((refine seq_exact ?_ (by rfl) (by rfl) (fun w1 hU => ?_) ?_); (rotate_left 1); (focus (have f1 := (HB1.out.ext hU.un).cell; clear hU; go_simp <;> with_reducible rfl)); (simp only [Act.put, List.setIfInBounds_toArray, List.set_cons_zero, List.set_cons_succ]))
    refine seq_opaque _ _ (by rfl) rfl ⟨_, rfl⟩ (by simp) (fun w5 hU hp K hK => ?_) ?_
    · have hc := HDC.out w5
      clear hp
      go_simp
      refine hc.mono ?_
      rintro e w6 ⟨rfl, rfl⟩
      exact hK _ _ (Ext.refl _) rfl trivial
    rintro _ rfl
    simp only [Act.put, List.setIfInBounds_toArray, List.set_cons_zero, List.set_cons_succ]
    repeat ((refine seq_exact ?_ (by rfl) (by rfl) (fun w1 hU => ?_) ?_); (rotate_left 1); (focus (have f1 := (HB1.out.ext hU.un).cell; clear hU; go_simp <;> with_reducible rfl)); (simp only [Act.put, List.setIfInBounds_toArray, List.set_cons_zero, List.set_cons_succ]))
    refine seq_opaque _ _ (by rfl) rfl ⟨_, rfl⟩ (by simp) (fun w5 hU hp K hK => ?_) ?_
    · have hc := HDN.out w5
      clear hp
      go_simp
      refine hc.mono ?_
      rintro e w6 ⟨rfl, rfl⟩
      exact hK _ _ (Ext.refl _) rfl trivial
    rintro _ rfl
    simp only [Act.put, List.setIfInBounds_toArray, List.set_cons_zero, List.set_cons_succ]
    repeat ((refine seq_exact ?_ (by rfl) (by rfl) (fun w1 hU => ?_) ?_); (rotate_left 1); (focus (have f1 := (HB1.out.ext hU.un).cell; clear hU; go_simp <;> with_reducible rfl)); (simp only [Act.put, List.setIfInBounds_toArray, List.set_cons_zero, List.set_cons_succ]))
    refine seq_opaque _ _ (by rfl) rfl ⟨_, 0, rfl⟩ (by simp) (fun w5 hU hp K hK => ?_) ?_
    · have hc := rnames_any w5
      clear hp
      go_simp
      refine hc.mono ?_
      rintro e w6 ⟨rfl, h1, h2⟩
      exact hK _ _ h2 ⟨_, rfl⟩ (fun g e => by injection e with e; injection e with e; injection e with e; rw [← e]; exact h1)
    rintro _ ⟨g, rfl⟩
    simp only [Act.put, List.setIfInBounds_toArray, List.set_cons_zero, List.set_cons_succ]
    repeat ((refine seq_exact ?_ (by rfl) (by rfl) (fun w1 hU => ?_) ?_); (rotate_left 1); (focus (have f1 := (HB1.out.ext hU.un).cell; clear hU; go_simp <;> with_reducible rfl)); (simp only [Act.put, List.setIfInBounds_toArray, List.set_cons_zero, List.set_cons_succ]))
    refine seq_opaque _ _ (by rfl) rfl ⟨_, rfl⟩ (by simp) (fun w5 hU hp K hK => ?_) ?_
    · have hbl := (hp _ (.head _) (by kernel_rfl)) g rfl
      have hcl := hbl.cell q
      rw [HNA.out] at hcl
      clear hp hbl
      go_simp
      exact hK _ _ (Ext.refl _) rfl trivial
    rintro _ rfl
    simp only [Act.put, List.setIfInBounds_toArray, List.set_cons_zero, List.set_cons_succ]
    repeat ((refine seq_exact ?_ (by rfl) (by rfl) (fun w1 hU => ?_) ?_); (rotate_left 1); (focus (have f1 := (HB1.out.ext hU.un).cell; clear hU; go_simp <;> with_reducible rfl)); (simp only [Act.put, List.setIfInBounds_toArray, List.set_cons_zero, List.set_cons_succ]))
    intro w7 hw7 hp
    clear hp
    simp only [List.drop_succ_cons, List.drop_nil]
    have HB7 := hide (HB1.out.ext hw7.un)
    have HE7 := hide (HE1.out.trans hw7.un)
    have hbc := HB7.out.cell
    clear hw7 HB1 HE1 hx1 hx2 hx3 hx4 hz1 hz2 hz3 hz4 hs1 hs2 hs3 hsC hsN hsM HDC HDN HNA
    have hway := valid_ways hv
    simp only at hway
    rcases hway with hway | ⟨_, _, hway⟩
    · injection hway with _ _ _ hway; exact absurd hway hk
    rcases hway with ⟨ka, ea, sa, pa, ma⟩ | ⟨ka, ea, sa, pa, ma⟩ | ⟨ka, ea, sa, pa, ma⟩ | ⟨ka, ea, sa, pa, ma⟩
    · have HK1 := hide (show inB (q : Int) 1 3 = true by rw [inB_iff]; omega)
      have HK2 := hide (show inB (q : Int) 4 7 = false by cases hb : inB (q : Int) 4 7 with | false => rfl | true => (have := inB_iff.1 hb; omega))
      have hk8 : ((q : Int) == 8) = false := by simp; omega
      have HDP1 := hide (deci_any pe (by omega) (by omega))
      have hlP1 := deci_len pe (by omega) (by omega)
      obtain ⟨P1, hP1⟩ : ∃ X, decI pe = X := ⟨_, rfl⟩
      rw [hP1] at HDP1 hlP1
      have hsP1 : (str P1).size = P1.length := str_sizeT P1
      have HDP2 := hide (deci_any ps (by omega) (by omega))
      have hlP2 := deci_len ps (by omega) (by omega)
      obtain ⟨P2, hP2⟩ : ∃ X, decI ps = X := ⟨_, rfl⟩
      rw [hP2] at HDP2 hlP2
      have hsP2 : (str P2).size = P2.length := str_sizeT P2
      obtain ⟨S5, e5⟩ : ∃ S, S4 ++ [32] = S := ⟨_, rfl⟩
      have l5 : S5.length = S4.length + 1 := by rw [← e5]; simp
      have hx5 : str S4 ++ (⟨#[32]⟩ : ByteArray) = str S5 := by rw [← e5]; exact str_appT _ [32]
      have hz5 : ¬ 9223372036854775807 < S4.length + 1 := by omega
      have hs5 : (str S5).size = S5.length := str_sizeT S5
      obtain ⟨S6, e6⟩ : ∃ S, S5 ++ P1 = S := ⟨_, rfl⟩
      have l6 : S6.length = S5.length + P1.length := by rw [← e6]; simp
      have hx6 : str S5 ++ str P1 = str S6 := by rw [← e6]; exact str_appT _ _
      have hz6 : ¬ 9223372036854775807 < S5.length + P1.length := by omega
      have hs6 : (str S6).size = S6.length := str_sizeT S6
      obtain ⟨S7, e7⟩ : ∃ S, S6 ++ [32] = S := ⟨_, rfl⟩
      have l7 : S7.length = S6.length + 1 := by rw [← e7]; simp
      have hx7 : str S6 ++ (⟨#[32]⟩ : ByteArray) = str S7 := by rw [← e7]; exact str_appT _ [32]
      have hz7 : ¬ 9223372036854775807 < S6.length + 1 := by omega
      have hs7 : (str S7).size = S7.length := str_sizeT S7
      obtain ⟨S8, e8⟩ : ∃ S, S7 ++ P2 = S := ⟨_, rfl⟩
      have l8 : S8.length = S7.length + P2.length := by rw [← e8]; simp
      have hx8 : str S7 ++ str P2 = str S8 := by rw [← e8]; exact str_appT _ _
      have hz8 : ¬ 9223372036854775807 < S7.length + P2.length := by omega
      have hs8 : (str S8).size = S8.length := str_sizeT S8
      have HF := hide (show printL ⟨c, n, pe, (q : Int), ps, p, m⟩ = S8 from by
        obtain ⟨g1, g2, g3, g4⟩ := HSS.out
        obtain ⟨hC, hN, hM⟩ := HCNM.out
        skip
        unfold printL
        rw [if_neg hk]
        unfold wordsP usedL
        simp only [HK1.out, if_true, Lib.join_cons, List.map_cons, List.map_nil, Lib.joinTail, hC, hN, hM, hP1, hP2]
        rw [← e8, ← e7, ← e6, ← e5, ← g4, ← g3, ← g2, ← g1]
        simp)
      clear ka ea sa pa ma
      clear e5 l5 e6 l6 e7 l7 e8 l8
      go_wp2_with (first | (go_at_call 39; refine (in_any _ _ _ _).mono ?_; rw [HK1.out]; rintro e w' ⟨rfl, rfl⟩) | (go_at_call 40; refine (flips_any _ _).mono ?_; rw [HK2.out]; rintro e w' ⟨rfl, rfl⟩))
      refine wp_region_ext 11 9 [(4, fun v => v = .string (str P1), fun _ _ => True), (9, fun v => v = .string (str P2), fun _ _ => True)] mixed (by kernel_rfl) ⟨fun _ _ _ _ _ => trivial, fun _ _ _ _ _ => trivial, trivial⟩ ?_
      repeat ((refine seq_exact ?_ (by rfl) (by rfl) (fun w1 hU => ?_) ?_); (rotate_left 1); (focus (have f1 := (HB7.out.ext hU.un).cell; clear hU; go_simp <;> with_reducible rfl)); (simp only [Act.put, List.setIfInBounds_toArray, List.set_cons_zero, List.set_cons_succ]))
      refine seq_opaque _ _ (by rfl) rfl ⟨_, rfl⟩ (by simp) (fun w5 hU hp K hK => ?_) ?_
      · have hc := HDP1.out w5
        clear hp
        go_simp
        refine hc.mono ?_
        rintro e w6 ⟨rfl, rfl⟩
        exact hK _ _ (Ext.refl _) rfl trivial
      rintro _ rfl
      simp only [Act.put, List.setIfInBounds_toArray, List.set_cons_zero, List.set_cons_succ]
      repeat ((refine seq_exact ?_ (by rfl) (by rfl) (fun w1 hU => ?_) ?_); (rotate_left 1); (focus (have f1 := (HB7.out.ext hU.un).cell; clear hU; go_simp <;> with_reducible rfl)); (simp only [Act.put, List.setIfInBounds_toArray, List.set_cons_zero, List.set_cons_succ]))
      refine seq_opaque _ _ (by rfl) rfl ⟨_, rfl⟩ (by simp) (fun w5 hU hp K hK => ?_) ?_
      · have hc := HDP2.out w5
        clear hp
        go_simp
        refine hc.mono ?_
        rintro e w6 ⟨rfl, rfl⟩
        exact hK _ _ (Ext.refl _) rfl trivial
      rintro _ rfl
      simp only [Act.put, List.setIfInBounds_toArray, List.set_cons_zero, List.set_cons_succ]
      repeat ((refine seq_exact ?_ (by rfl) (by rfl) (fun w1 hU => ?_) ?_); (rotate_left 1); (focus (have f1 := (HB7.out.ext hU.un).cell; clear hU; go_simp <;> with_reducible rfl)); (simp only [Act.put, List.setIfInBounds_toArray, List.set_cons_zero, List.set_cons_succ]))
      intro w8 hw8 hp
      clear hp hbc
      simp only [List.drop_succ_cons, List.drop_zero]
      have HE8 := hide (HE7.out.trans hw8.un)
      have hbc := (HB7.out.ext hw8.un).cell
      clear hw8
      go_wp2_with (first | (go_at_call 39; refine (in_any _ _ _ _).mono ?_; rw [HK1.out]; rintro e w' ⟨rfl, rfl⟩) | (go_at_call 40; refine (flips_any _ _).mono ?_; rw [HK2.out]; rintro e w' ⟨rfl, rfl⟩))
      go_ret2
      exact ⟨by rw [HS.out, HE.out, HF.out]; rfl, HE8.out⟩
    · have HK1 := hide (show inB (q : Int) 1 3 = false by cases hb : inB (q : Int) 1 3 with | false => rfl | true => (have := inB_iff.1 hb; omega))
      have HK2 := hide (show inB (q : Int) 4 7 = true by rw [inB_iff]; omega)
      have hk8 : ((q : Int) == 8) = false := by simp; omega
      have HDP1 := hide (deci_any pe (by omega) (by omega))
      have hlP1 := deci_len pe (by omega) (by omega)
      obtain ⟨P1, hP1⟩ : ∃ X, decI pe = X := ⟨_, rfl⟩
      rw [hP1] at HDP1 hlP1
      have hsP1 : (str P1).size = P1.length := str_sizeT P1
      have HDP2 := hide (deci_any p (by omega) (by omega))
      have hlP2 := deci_len p (by omega) (by omega)
      obtain ⟨P2, hP2⟩ : ∃ X, decI p = X := ⟨_, rfl⟩
      rw [hP2] at HDP2 hlP2
      have hsP2 : (str P2).size = P2.length := str_sizeT P2
      have HDP3 := hide (deci_any m (by omega) (by omega))
      have hlP3 := deci_len m (by omega) (by omega)
      obtain ⟨P3, hP3⟩ : ∃ X, decI m = X := ⟨_, rfl⟩
      rw [hP3] at HDP3 hlP3
      have hsP3 : (str P3).size = P3.length := str_sizeT P3
      obtain ⟨S5, e5⟩ : ∃ S, S4 ++ [32] = S := ⟨_, rfl⟩
      have l5 : S5.length = S4.length + 1 := by rw [← e5]; simp
      have hx5 : str S4 ++ (⟨#[32]⟩ : ByteArray) = str S5 := by rw [← e5]; exact str_appT _ [32]
      have hz5 : ¬ 9223372036854775807 < S4.length + 1 := by omega
      have hs5 : (str S5).size = S5.length := str_sizeT S5
      obtain ⟨S6, e6⟩ : ∃ S, S5 ++ P1 = S := ⟨_, rfl⟩
      have l6 : S6.length = S5.length + P1.length := by rw [← e6]; simp
      have hx6 : str S5 ++ str P1 = str S6 := by rw [← e6]; exact str_appT _ _
      have hz6 : ¬ 9223372036854775807 < S5.length + P1.length := by omega
      have hs6 : (str S6).size = S6.length := str_sizeT S6
      obtain ⟨S7, e7⟩ : ∃ S, S6 ++ [32] = S := ⟨_, rfl⟩
      have l7 : S7.length = S6.length + 1 := by rw [← e7]; simp
      have hx7 : str S6 ++ (⟨#[32]⟩ : ByteArray) = str S7 := by rw [← e7]; exact str_appT _ [32]
      have hz7 : ¬ 9223372036854775807 < S6.length + 1 := by omega
      have hs7 : (str S7).size = S7.length := str_sizeT S7
      obtain ⟨S8, e8⟩ : ∃ S, S7 ++ P2 = S := ⟨_, rfl⟩
      have l8 : S8.length = S7.length + P2.length := by rw [← e8]; simp
      have hx8 : str S7 ++ str P2 = str S8 := by rw [← e8]; exact str_appT _ _
      have hz8 : ¬ 9223372036854775807 < S7.length + P2.length := by omega
      have hs8 : (str S8).size = S8.length := str_sizeT S8
      obtain ⟨S9, e9⟩ : ∃ S, S8 ++ [32] = S := ⟨_, rfl⟩
      have l9 : S9.length = S8.length + 1 := by rw [← e9]; simp
      have hx9 : str S8 ++ (⟨#[32]⟩ : ByteArray) = str S9 := by rw [← e9]; exact str_appT _ [32]
      have hz9 : ¬ 9223372036854775807 < S8.length + 1 := by omega
      have hs9 : (str S9).size = S9.length := str_sizeT S9
      obtain ⟨S10, e10⟩ : ∃ S, S9 ++ P3 = S := ⟨_, rfl⟩
      have l10 : S10.length = S9.length + P3.length := by rw [← e10]; simp
      have hx10 : str S9 ++ str P3 = str S10 := by rw [← e10]; exact str_appT _ _
      have hz10 : ¬ 9223372036854775807 < S9.length + P3.length := by omega
      have hs10 : (str S10).size = S10.length := str_sizeT S10
      have HF := hide (show printL ⟨c, n, pe, (q : Int), ps, p, m⟩ = S10 from by
        obtain ⟨g1, g2, g3, g4⟩ := HSS.out
        obtain ⟨hC, hN, hM⟩ := HCNM.out
        skip
        unfold printL
        rw [if_neg hk]
        unfold wordsP usedL
        simp only [HK1.out, HK2.out, if_true, Bool.false_eq_true, if_false, Lib.join_cons, List.map_cons, List.map_nil, Lib.joinTail, hC, hN, hM, hP1, hP2, hP3]
        rw [← e10, ← e9, ← e8, ← e7, ← e6, ← e5, ← g4, ← g3, ← g2, ← g1]
        simp)
      clear ka ea sa pa ma
      clear e5 l5 e6 l6 e7 l7 e8 l8 e9 l9 e10 l10
      go_wp2_with (first | (go_at_call 39; refine (in_any _ _ _ _).mono ?_; rw [HK1.out]; rintro e w' ⟨rfl, rfl⟩) | (go_at_call 40; refine (flips_any _ _).mono ?_; rw [HK2.out]; rintro e w' ⟨rfl, rfl⟩))
      refine wp_region_ext 16 9 [(4, fun v => v = .string (str P1), fun _ _ => True), (9, fun v => v = .string (str P2), fun _ _ => True), (14, fun v => v = .string (str P3), fun _ _ => True)] mixed (by kernel_rfl) ⟨fun _ _ _ _ _ => trivial, fun _ _ _ _ _ => trivial, fun _ _ _ _ _ => trivial, trivial⟩ ?_
      repeat ((refine seq_exact ?_ (by rfl) (by rfl) (fun w1 hU => ?_) ?_); (rotate_left 1); (focus (have f1 := (HB7.out.ext hU.un).cell; clear hU; go_simp <;> with_reducible rfl)); (simp only [Act.put, List.setIfInBounds_toArray, List.set_cons_zero, List.set_cons_succ]))
      refine seq_opaque _ _ (by rfl) rfl ⟨_, rfl⟩ (by simp) (fun w5 hU hp K hK => ?_) ?_
      · have hc := HDP1.out w5
        clear hp
        go_simp
        refine hc.mono ?_
        rintro e w6 ⟨rfl, rfl⟩
        exact hK _ _ (Ext.refl _) rfl trivial
      rintro _ rfl
      simp only [Act.put, List.setIfInBounds_toArray, List.set_cons_zero, List.set_cons_succ]
      repeat ((refine seq_exact ?_ (by rfl) (by rfl) (fun w1 hU => ?_) ?_); (rotate_left 1); (focus (have f1 := (HB7.out.ext hU.un).cell; clear hU; go_simp <;> with_reducible rfl)); (simp only [Act.put, List.setIfInBounds_toArray, List.set_cons_zero, List.set_cons_succ]))
      refine seq_opaque _ _ (by rfl) rfl ⟨_, rfl⟩ (by simp) (fun w5 hU hp K hK => ?_) ?_
      · have hc := HDP2.out w5
        clear hp
        go_simp
        refine hc.mono ?_
        rintro e w6 ⟨rfl, rfl⟩
        exact hK _ _ (Ext.refl _) rfl trivial
      rintro _ rfl
      simp only [Act.put, List.setIfInBounds_toArray, List.set_cons_zero, List.set_cons_succ]
      repeat ((refine seq_exact ?_ (by rfl) (by rfl) (fun w1 hU => ?_) ?_); (rotate_left 1); (focus (have f1 := (HB7.out.ext hU.un).cell; clear hU; go_simp <;> with_reducible rfl)); (simp only [Act.put, List.setIfInBounds_toArray, List.set_cons_zero, List.set_cons_succ]))
      refine seq_opaque _ _ (by rfl) rfl ⟨_, rfl⟩ (by simp) (fun w5 hU hp K hK => ?_) ?_
      · have hc := HDP3.out w5
        clear hp
        go_simp
        refine hc.mono ?_
        rintro e w6 ⟨rfl, rfl⟩
        exact hK _ _ (Ext.refl _) rfl trivial
      rintro _ rfl
      simp only [Act.put, List.setIfInBounds_toArray, List.set_cons_zero, List.set_cons_succ]
      repeat ((refine seq_exact ?_ (by rfl) (by rfl) (fun w1 hU => ?_) ?_); (rotate_left 1); (focus (have f1 := (HB7.out.ext hU.un).cell; clear hU; go_simp <;> with_reducible rfl)); (simp only [Act.put, List.setIfInBounds_toArray, List.set_cons_zero, List.set_cons_succ]))
      intro w8 hw8 hp
      clear hp hbc
      simp only [List.drop_succ_cons, List.drop_zero]
      have HE8 := hide (HE7.out.trans hw8.un)
      have hbc := (HB7.out.ext hw8.un).cell
      clear hw8
      go_wp2_with (first | (go_at_call 39; refine (in_any _ _ _ _).mono ?_; rw [HK1.out]; rintro e w' ⟨rfl, rfl⟩) | (go_at_call 40; refine (flips_any _ _).mono ?_; rw [HK2.out]; rintro e w' ⟨rfl, rfl⟩))
      go_ret2
      exact ⟨by rw [HS.out, HE.out, HF.out]; rfl, HE8.out⟩
    · have HK1 := hide (show inB (q : Int) 1 3 = false by cases hb : inB (q : Int) 1 3 with | false => rfl | true => (have := inB_iff.1 hb; omega))
      have HK2 := hide (show inB (q : Int) 4 7 = false by cases hb : inB (q : Int) 4 7 with | false => rfl | true => (have := inB_iff.1 hb; omega))
      have hk8 : ((q : Int) == 8) = true := by simp; omega
      have HDP1 := hide (deci_any ps (by omega) (by omega))
      have hlP1 := deci_len ps (by omega) (by omega)
      obtain ⟨P1, hP1⟩ : ∃ X, decI ps = X := ⟨_, rfl⟩
      rw [hP1] at HDP1 hlP1
      have hsP1 : (str P1).size = P1.length := str_sizeT P1
      obtain ⟨S5, e5⟩ : ∃ S, S4 ++ [32] = S := ⟨_, rfl⟩
      have l5 : S5.length = S4.length + 1 := by rw [← e5]; simp
      have hx5 : str S4 ++ (⟨#[32]⟩ : ByteArray) = str S5 := by rw [← e5]; exact str_appT _ [32]
      have hz5 : ¬ 9223372036854775807 < S4.length + 1 := by omega
      have hs5 : (str S5).size = S5.length := str_sizeT S5
      obtain ⟨S6, e6⟩ : ∃ S, S5 ++ P1 = S := ⟨_, rfl⟩
      have l6 : S6.length = S5.length + P1.length := by rw [← e6]; simp
      have hx6 : str S5 ++ str P1 = str S6 := by rw [← e6]; exact str_appT _ _
      have hz6 : ¬ 9223372036854775807 < S5.length + P1.length := by omega
      have hs6 : (str S6).size = S6.length := str_sizeT S6
      have HF := hide (show printL ⟨c, n, pe, (q : Int), ps, p, m⟩ = S6 from by
        obtain ⟨g1, g2, g3, g4⟩ := HSS.out
        obtain ⟨hC, hN, hM⟩ := HCNM.out
        skip
        unfold printL
        rw [if_neg hk]
        unfold wordsP usedL
        simp only [HK1.out, HK2.out, Bool.false_eq_true, if_false, if_pos ka, Lib.join_cons, List.map_cons, List.map_nil, Lib.joinTail, hC, hN, hM, hP1]
        rw [← e6, ← e5, ← g4, ← g3, ← g2, ← g1]
        simp)
      clear ka ea sa pa ma
      clear e5 l5 e6 l6
      go_wp2_with (first | (go_at_call 37; refine (HDP1.out _).mono ?_; rintro e w' ⟨rfl, rfl⟩; clear HDP1) | (go_at_call 39; refine (in_any _ _ _ _).mono ?_; rw [HK1.out]; rintro e w' ⟨rfl, rfl⟩) | (go_at_call 40; refine (flips_any _ _).mono ?_; rw [HK2.out]; rintro e w' ⟨rfl, rfl⟩))
      go_ret2
      exact ⟨by rw [HS.out, HE.out, HF.out]; rfl, HE7.out⟩
    · have HK1 := hide (show inB (q : Int) 1 3 = false by cases hb : inB (q : Int) 1 3 with | false => rfl | true => (have := inB_iff.1 hb; omega))
      have HK2 := hide (show inB (q : Int) 4 7 = false by cases hb : inB (q : Int) 4 7 with | false => rfl | true => (have := inB_iff.1 hb; omega))
      have hk8 : ((q : Int) == 8) = false := by simp; omega
      have HF := hide (show printL ⟨c, n, pe, (q : Int), ps, p, m⟩ = S4 from by
        obtain ⟨g1, g2, g3, g4⟩ := HSS.out
        obtain ⟨hC, hN, hM⟩ := HCNM.out
        skip
        unfold printL
        rw [if_neg hk]
        unfold wordsP usedL
        simp only [HK1.out, HK2.out, Bool.false_eq_true, if_false, if_neg (show ¬ (q : Int) = 8 by omega), Lib.join_cons, List.map_cons, List.map_nil, Lib.joinTail, hC, hN, hM]
        rw [← g4, ← g3, ← g2, ← g1]
        simp)
      clear ka ea sa pa ma
      go_wp2_with (first | (go_at_call 39; refine (in_any _ _ _ _).mono ?_; rw [HK1.out]; rintro e w' ⟨rfl, rfl⟩) | (go_at_call 40; refine (flips_any _ _).mono ?_; rw [HK2.out]; rintro e w' ⟨rfl, rfl⟩))
      go_ret2
      exact ⟨by rw [HS.out, HE.out, HF.out]; rfl, HE7.out⟩
end Go.Proofs.YtfjddphjjhhjpaaDoor
