/-
  FaultPlans: the statement.
-/
import Derived.Test.YtfjddphjjhhjpaaDoorFauZ
import Derived.Test.YtfjddphjjhhjpaaDoorFauF
namespace Go.Proofs.YtfjddphjjhhjpaaDoor
open Go.RowKit
set_option linter.unusedVariables false

theorem dec_len8 (v : Int) (h1 : v ≤ 1000000) : (decI v).length ≤ 7 := by
  unfold decI
  exact dec_length 6 v.toNat (by omega)
theorem printL_length {x : Pl} (h : validPl x = true) : (printL x).length ≤ 100 := by
  by_cases hk : x.k = 0
  · unfold printL; rw [if_pos hk]; decide
  have gk := valid_kind h hk
  have hw := valid_ways h
  obtain ⟨c, n, e, k, s, p, m⟩ := x
  simp only at hk gk hw
  simp only [Pl.mk.injEq] at hw
  rcases hw with hw | ⟨hc, hn, hw⟩
  · exact absurd hw.2.2.2.1 hk
  have l1 := dec_len8 c (by omega)
  have l2 := dec_len8 n (by omega)
  have l3 := dec_len8 e (by omega)
  have l4 := dec_len8 s (by omega)
  have l5 := dec_len8 p (by omega)
  have l6 := dec_len8 m (by omega)
  have l7 : (nameK k).length ≤ 12 := by
    obtain ⟨q, rfl⟩ := Int.eq_ofNat_of_zero_le (show 0 ≤ k by omega)
    exact name_len q
  unfold printL wordsP usedL
  rw [if_neg hk]
  simp only [Lib.join_cons, List.map_cons, Lib.joinTail]
  by_cases k1 : inB k 1 3 = true
  · rw [if_pos k1]; simp; omega
  · rw [if_neg k1]
    by_cases k2 : inB k 4 7 = true
    · rw [if_pos k2]; simp; omega
    · rw [if_neg k2]
      by_cases k3 : k = 8
      · rw [if_pos k3]; simp; omega
      · rw [if_neg k3]; simp; omega
def eq7 (p q : Pl) : Bool := (p.c == q.c) && ((p.n == q.n) && ((p.e == q.e) && ((p.k == q.k) && ((p.s == q.s) && ((p.p == q.p) && (p.m == q.m))))))
theorem eq7_iff {p q : Pl} : eq7 p q = true ↔ p = q := by
  obtain ⟨c, n, e, k, s, p, m⟩ := p
  obtain ⟨c', n', e', k', s', p', m'⟩ := q
  simp [eq7]
theorem print_eq7 {p q : Pl} (hp : validPl p = true) (hq : validPl q = true) : (printL p == printL q) = eq7 p q := by
  cases h : eq7 p q with
  | true => rw [eq7_iff.1 h]; simp
  | false =>
    rw [beq_eq_false_iff_ne]
    intro e
    have := eq7_iff.2 (print_inj hp hq e)
    rw [h] at this; cases this
def aggP (x : Pl) : Array Value := #[.int .i64 x.c, .int .i64 x.n, .int .i64 x.e, .int .i64 x.k, .int .i64 x.s, .int .i64 x.p, .int .i64 x.m]
theorem printE_ways (x : Pl) : (printE x = 0 ∧ validPl x = true ∧ printS x = printL x) ∨ printE x = 1 := by
  unfold printE printS
  cases validPl x with
  | true => exact .inl ⟨rfl, rfl, rfl⟩
  | false => exact .inr rfl
set_option maxRecDepth 100000 in
set_option maxHeartbeats 4000000 in
theorem fplans_law (p q : Pl) (s : List UInt8) (w : World) (ht : Tabs w) : Calls Tryd.prog 3 #[.agg #[.int .i64 p.c, .int .i64 p.n, .int .i64 p.e, .int .i64 p.k, .int .i64 p.s, .int .i64 p.p, .int .i64 p.m], .agg #[.int .i64 q.c, .int .i64 q.n, .int .i64 q.e, .int .i64 q.k, .int .i64 q.s, .int .i64 q.p, .int .i64 q.m], .string (str s)] w fun e w' => e = .returned (.bool true) ∧ Ext w w' := by
  have HT := hide ht
  clear ht
  have hsz : (str s).size = s.length := str_sizeT s
  have HPB := hide ((Blk.new w 23 #[.int .i64 p.c, .int .i64 p.n, .int .i64 p.e, .int .i64 p.k, .int .i64 p.s, .int .i64 p.p, .int .i64 p.m]).alloc (.cells #[.int .i64 q.c, .int .i64 q.n, .int .i64 q.e, .int .i64 q.k, .int .i64 q.s, .int .i64 q.p, .int .i64 q.m] 23))
  have HQB := hide (Blk.new (w.alloc (.cells #[.int .i64 p.c, .int .i64 p.n, .int .i64 p.e, .int .i64 p.k, .int .i64 p.s, .int .i64 p.p, .int .i64 p.m] 23)) 23 #[.int .i64 q.c, .int .i64 q.n, .int .i64 q.e, .int .i64 q.k, .int .i64 q.s, .int .i64 q.p, .int .i64 q.m])
  have HXB := hide ((Ext.alloc w (.cells #[.int .i64 p.c, .int .i64 p.n, .int .i64 p.e, .int .i64 p.k, .int .i64 p.s, .int .i64 p.p, .int .i64 p.m] 23)).alloc' (.cells #[.int .i64 q.c, .int .i64 q.n, .int .i64 q.e, .int .i64 q.k, .int .i64 q.s, .int .i64 q.p, .int .i64 q.m] 23))
  rw [World.size_alloc] at HQB
  have HVP := hide (printE_ways p)
  have HVQ := hide (printE_ways q)
  have HV1 := hide (fvalid_any p)
  have HV2 := hide (rvalid_any p)
  have HH1 := hide (hits_any p q.c q.n q.s)
  have HH2 := hide (rhits_any p q.c q.n q.s)
  have HPA := hide (fun w h => print_any p w h)
  have HPR := hide (fun w => rprint_any p w)
  have HQA := hide (fun w h => print_any q w h)
  have HPE := hide (fun (h1 : validPl p = true) (h2 : validPl q = true) => print_eq7 h1 h2)
  have HE7 := hide (show eq7 p q = ((p.c == q.c) && ((p.n == q.n) && ((p.e == q.e) && ((p.k == q.k) && ((p.s == q.s) && ((p.p == q.p) && (p.m == q.m))))))) from rfl)
  have HLP := hide (fun (h1 : validPl p = true) => printL_length h1)
  have HUN := hide (fun (h1 : validPl p = true) (v : Pl) (e : Int) (h : ParseP (printL p) v e) => h.unique (.inl ⟨h1, rfl, rfl⟩))
  go_enter Tryd.func3, Tryd.ntmps3
  by_cases hl : s.length ≤ 100
  rotate_left
  · have hl1 : 100 < s.length := by omega
    have hl2 : (100 : Int) < s.length := by omega
    go_wp2_with (go_at_call 8; refine (awake27_any _ (HT.out.ext HXB.out)).mono ?_; rintro e w1 ⟨rfl, hE1⟩; have HX1 := hide (HXB.out.trans hE1); clear hE1)
    go_ret
    exact ⟨rfl, HX1.out⟩
  have hl1 : ¬ 100 < s.length := by omega
  have hl2 : ¬ (100 : Int) < s.length := by omega
  have HPS := hide (parse_any s (by omega))
  have HRS := hide (rparse_any s hl)
  obtain ⟨A, hA⟩ : ∃ A, printS p = A := ⟨_, rfl⟩
  obtain ⟨E, hE⟩ : ∃ E, printE p = E := ⟨_, rfl⟩
  obtain ⟨C, hC⟩ : ∃ C, printS q = C := ⟨_, rfl⟩
  obtain ⟨F, hF⟩ : ∃ F, printE q = F := ⟨_, rfl⟩
  rw [hA, hE] at HPA HPR HVP
  rw [hC, hF] at HQA HVQ
  clear hA hE hC hF
  go_wp2_with (first
    | (go_at_call 8; refine (awake27_any _ (HT.out.ext HXB.out)).mono ?_; rintro e w1 ⟨rfl, hE1⟩; have HX1 := hide (HXB.out.trans hE1); have HP1 := hide (HPB.out.ext hE1); have HQ1 := hide (HQB.out.ext hE1); have hc1 := HP1.out.cell; clear hE1 HXB HPB HQB)
    | (go_at_call 9; refine (HPA.out _ (HT.out.ext HX1.out)).mono ?_; rintro e w2 ⟨rfl, hE2⟩; have HX2 := hide (HX1.out.trans hE2); have HP2 := hide (HP1.out.ext hE2); have HQ2 := hide (HQ1.out.ext hE2); clear hc1; have hc2 := HP2.out.cell; clear hE2 HX1 HP1 HQ1 HPA)
    | (go_at_call 10; refine (HPR.out _).mono ?_; rintro e w3 ⟨rfl, hE3⟩; have HX3 := hide (HX2.out.trans hE3); have HP3 := hide (HP2.out.ext hE3); have HQ3 := hide (HQ2.out.ext hE3); clear hc2 hE3 HX2 HP2 HQ2 HPR)
    | (go_at_call 11; refine (HPS.out _ (HT.out.ext HX3.out)).mono ?_; rintro e w4 ⟨⟨x, xe, rfl, hpp⟩, hE4⟩; have HPP := hide hpp; have HA4 := hide (Blk.new w4 28 #[.int .i64 x.c, .int .i64 x.n, .int .i64 x.e, .int .i64 x.k, .int .i64 x.s, .int .i64 x.p, .int .i64 x.m]); have HX4 := hide ((HX3.out.trans hE4).alloc' (.cells #[.int .i64 x.c, .int .i64 x.n, .int .i64 x.e, .int .i64 x.k, .int .i64 x.s, .int .i64 x.p, .int .i64 x.m] 28)); have HP4 := hide ((HP3.out.ext hE4).alloc (.cells #[.int .i64 x.c, .int .i64 x.n, .int .i64 x.e, .int .i64 x.k, .int .i64 x.s, .int .i64 x.p, .int .i64 x.m] 28)); have HQ4 := hide ((HQ3.out.ext hE4).alloc (.cells #[.int .i64 x.c, .int .i64 x.n, .int .i64 x.e, .int .i64 x.k, .int .i64 x.s, .int .i64 x.p, .int .i64 x.m] 28)); clear hpp hE4 HX3 HP3 HQ3 HPS)
    | (go_at_call 12; refine (HRS.out _).mono ?_; rintro e w5 ⟨⟨y, ye, rfl, hpp⟩, hE5⟩; obtain ⟨hy, hye⟩ := HPP.out.unique hpp; subst y; subst ye; have HA5 := hide ((HA4.out.ext hE5).alloc (.cells #[.int .i64 x.c, .int .i64 x.n, .int .i64 x.e, .int .i64 x.k, .int .i64 x.s, .int .i64 x.p, .int .i64 x.m] 23)); have HB5 := hide (Blk.new w5 23 #[.int .i64 x.c, .int .i64 x.n, .int .i64 x.e, .int .i64 x.k, .int .i64 x.s, .int .i64 x.p, .int .i64 x.m]); have HX5 := hide ((HX4.out.trans hE5).alloc' (.cells #[.int .i64 x.c, .int .i64 x.n, .int .i64 x.e, .int .i64 x.k, .int .i64 x.s, .int .i64 x.p, .int .i64 x.m] 23)); have HP5 := hide ((HP4.out.ext hE5).alloc (.cells #[.int .i64 x.c, .int .i64 x.n, .int .i64 x.e, .int .i64 x.k, .int .i64 x.s, .int .i64 x.p, .int .i64 x.m] 23)); have HQ5 := hide ((HQ4.out.ext hE5).alloc (.cells #[.int .i64 x.c, .int .i64 x.n, .int .i64 x.e, .int .i64 x.k, .int .i64 x.s, .int .i64 x.p, .int .i64 x.m] 23)); clear hpp hE5 HX4 HP4 HQ4 HA4 HPP HRS))
  refine wp_region_ext 44 9 [(20, fun v => v = .bool (validPl p), fun _ _ => True), (22, fun v => v = .bool (validPl p), fun _ _ => True), (33, fun v => v = .bool (hitsB p q.c q.n q.s), fun _ _ => True), (41, fun v => v = .bool (hitsB p q.c q.n q.s), fun _ _ => True)] mixed (by kernel_rfl)
    ⟨fun _ _ _ _ _ => trivial, fun _ _ _ _ _ => trivial, fun _ _ _ _ _ => trivial, fun _ _ _ _ _ => trivial, trivial⟩ ?_
  repeat ((refine seq_exact ?_ (by rfl) (by rfl) (fun w1 hU => ?_) ?_); (rotate_left 1); (focus (have f1 := (HP5.out.ext hU.un).cell; have f2 := (HQ5.out.ext hU.un).cell; have f3 := (HA5.out.ext hU.un).cell; have f4 := (HB5.out.ext hU.un).cell; clear hU; go_simp <;> with_reducible rfl)); (simp only [Act.put, List.setIfInBounds_toArray, List.set_cons_zero, List.set_cons_succ]))
  refine seq_opaque _ _ (by rfl) rfl ⟨_, rfl⟩ (by simp) (fun w5 hU hp K hK => ?_) ?_
  · have hc := HV1.out w5
    clear hp
    go_simp
    refine hc.mono ?_
    rintro e w6 ⟨rfl, h2⟩
    exact hK _ _ h2 rfl trivial
  rintro _ rfl
  simp only [Act.put, List.setIfInBounds_toArray, List.set_cons_zero, List.set_cons_succ]
  repeat ((refine seq_exact ?_ (by rfl) (by rfl) (fun w1 hU => ?_) ?_); (rotate_left 1); (focus (have f1 := (HP5.out.ext hU.un).cell; have f2 := (HQ5.out.ext hU.un).cell; have f3 := (HA5.out.ext hU.un).cell; have f4 := (HB5.out.ext hU.un).cell; clear hU; go_simp <;> with_reducible rfl)); (simp only [Act.put, List.setIfInBounds_toArray, List.set_cons_zero, List.set_cons_succ]))
  refine seq_opaque _ _ (by rfl) rfl ⟨_, rfl⟩ (by simp) (fun w5 hU hp K hK => ?_) ?_
  · have hc := HV2.out w5
    clear hp
    go_simp
    refine hc.mono ?_
    rintro e w6 ⟨rfl, h2⟩
    exact hK _ _ h2 rfl trivial
  rintro _ rfl
  simp only [Act.put, List.setIfInBounds_toArray, List.set_cons_zero, List.set_cons_succ]
  repeat ((refine seq_exact ?_ (by rfl) (by rfl) (fun w1 hU => ?_) ?_); (rotate_left 1); (focus (have f1 := (HP5.out.ext hU.un).cell; have f2 := (HQ5.out.ext hU.un).cell; have f3 := (HA5.out.ext hU.un).cell; have f4 := (HB5.out.ext hU.un).cell; clear hU; go_simp <;> with_reducible rfl)); (simp only [Act.put, List.setIfInBounds_toArray, List.set_cons_zero, List.set_cons_succ]))
  refine seq_opaque _ _ (by rfl) rfl ⟨_, rfl⟩ (by simp) (fun w5 hU hp K hK => ?_) ?_
  · have hc := HH1.out w5
    clear hp
    go_simp
    refine hc.mono ?_
    rintro e w6 ⟨rfl, h2⟩
    exact hK _ _ h2 rfl trivial
  rintro _ rfl
  simp only [Act.put, List.setIfInBounds_toArray, List.set_cons_zero, List.set_cons_succ]
  repeat ((refine seq_exact ?_ (by rfl) (by rfl) (fun w1 hU => ?_) ?_); (rotate_left 1); (focus (have f1 := (HP5.out.ext hU.un).cell; have f2 := (HQ5.out.ext hU.un).cell; have f3 := (HA5.out.ext hU.un).cell; have f4 := (HB5.out.ext hU.un).cell; clear hU; go_simp <;> with_reducible rfl)); (simp only [Act.put, List.setIfInBounds_toArray, List.set_cons_zero, List.set_cons_succ]))
  refine seq_opaque _ _ (by rfl) rfl ⟨_, rfl⟩ (by simp) (fun w5 hU hp K hK => ?_) ?_
  · have hc := HH2.out w5
    clear hp
    go_simp
    refine hc.mono ?_
    rintro e w6 ⟨rfl, h2⟩
    exact hK _ _ h2 rfl trivial
  rintro _ rfl
  simp only [Act.put, List.setIfInBounds_toArray, List.set_cons_zero, List.set_cons_succ]
  repeat ((refine seq_exact ?_ (by rfl) (by rfl) (fun w1 hU => ?_) ?_); (rotate_left 1); (focus (have f1 := (HP5.out.ext hU.un).cell; have f2 := (HQ5.out.ext hU.un).cell; have f3 := (HA5.out.ext hU.un).cell; have f4 := (HB5.out.ext hU.un).cell; clear hU; go_simp <;> with_reducible rfl)); (simp only [Act.put, List.setIfInBounds_toArray, List.set_cons_zero, List.set_cons_succ]))
  intro w6 hw6 hp
  clear hp
  simp only [List.drop_succ_cons, List.drop_nil]
  have HX6 := hide (HX5.out.trans hw6.un)
  have HP6 := hide (HP5.out.ext hw6.un)
  have HQ6 := hide (HQ5.out.ext hw6.un)
  have hq6 := HQ6.out.cell
  clear hw6 HX5 HP5 HQ5 HA5 HB5 HV1 HV2 HH1 HH2
  rcases HVP.out with ⟨rfl, hvp, hAP⟩ | rfl
  rotate_left
  · go_wp2_with (go_at_call 9; refine (HQA.out _ (HT.out.ext HX6.out)).mono ?_; rintro e w7 ⟨rfl, hE7⟩; have HX7 := hide (HX6.out.trans hE7); clear hE7 HQA)
    go_ret
    exact ⟨rfl, HX7.out⟩
  have HPA := hide hAP
  have HVP2 := hide hvp
  clear hAP hvp
  rcases HVQ.out with ⟨rfl, hvq, hCQ⟩ | rfl
  rotate_left
  · go_wp2_with (go_at_call 9; refine (HQA.out _ (HT.out.ext HX6.out)).mono ?_; rintro e w7 ⟨rfl, hE7⟩; have HX7 := hide (HX6.out.trans hE7); clear hE7 HQA)
    go_ret
    exact ⟨rfl, HX7.out⟩
  have HPS2 := hide (parse_any A (by rw [HPA.out]; exact Nat.le_trans (HLP.out HVP2.out) (by omega)))
  have HU2 := hide (fun (v : Pl) (e : Int) (h : ParseP A v e) => HUN.out HVP2.out v e (by rw [← HPA.out]; exact h))
  have hz := HPE.out HVP2.out hvq
  rw [← HPA.out, ← hCQ, HE7.out] at hz
  clear HVP HVQ HPE HE7 HLP HUN hCQ hvq HPA HVP2
  obtain ⟨b0, e0⟩ : ∃ t, (p.c == q.c) = t := ⟨_, rfl⟩
  obtain ⟨b1, e1⟩ : ∃ t, (p.n == q.n) = t := ⟨_, rfl⟩
  obtain ⟨b2, e2⟩ : ∃ t, (p.e == q.e) = t := ⟨_, rfl⟩
  obtain ⟨b3, e3⟩ : ∃ t, (p.k == q.k) = t := ⟨_, rfl⟩
  obtain ⟨b4, e4⟩ : ∃ t, (p.s == q.s) = t := ⟨_, rfl⟩
  obtain ⟨b5, e5⟩ : ∃ t, (p.p == q.p) = t := ⟨_, rfl⟩
  obtain ⟨b6, e6⟩ : ∃ t, (p.m == q.m) = t := ⟨_, rfl⟩
  rw [e0, e1, e2, e3, e4, e5, e6] at hz
  obtain ⟨z, hzz⟩ : ∃ z, (b0 && (b1 && (b2 && (b3 && (b4 && (b5 && b6)))))) = z := ⟨_, rfl⟩
  rw [hzz] at hz
  cases z with
  | true =>
    obtain ⟨rfl, rfl, rfl, rfl, rfl, rfl, rfl⟩ : b0 = true ∧ b1 = true ∧ b2 = true ∧ b3 = true ∧ b4 = true ∧ b5 = true ∧ b6 = true := by simpa using hzz
    go_wp2_with (first
      | (go_at_call 9; refine (HQA.out _ (HT.out.ext HX6.out)).mono ?_; rintro e w7 ⟨rfl, hE7⟩; have HX7 := hide (HX6.out.trans hE7); have HP7 := hide (HP6.out.ext hE7); have HQ7 := hide (HQ6.out.ext hE7); clear hE7 HQA)
      | (go_at_call 11; refine (HPS2.out _ (HT.out.ext HX7.out)).mono ?_; rintro e w8 ⟨⟨y, ye, rfl, hpp⟩, hE8⟩; obtain ⟨hy, hye⟩ := HU2.out _ _ hpp; subst y; subst ye; have HX8 := hide ((HX7.out.trans hE8).alloc' (.cells #[.int .i64 p.c, .int .i64 p.n, .int .i64 p.e, .int .i64 p.k, .int .i64 p.s, .int .i64 p.p, .int .i64 p.m] 28)); have HP8 := hide ((HP7.out.ext hE8).alloc (.cells #[.int .i64 p.c, .int .i64 p.n, .int .i64 p.e, .int .i64 p.k, .int .i64 p.s, .int .i64 p.p, .int .i64 p.m] 28)); have HQ8 := hide ((HQ7.out.ext hE8).alloc (.cells #[.int .i64 p.c, .int .i64 p.n, .int .i64 p.e, .int .i64 p.k, .int .i64 p.s, .int .i64 p.p, .int .i64 p.m] 28)); have hp8 := HP8.out.cell; have hq8 := HQ8.out.cell; clear hpp hE8 HPS2))
    all_goals (go_ret; exact ⟨ret_bool' (by simp), HX8.out⟩)
  | false =>
    go_wp2_with (first
      | (go_at_call 9; refine (HQA.out _ (HT.out.ext HX6.out)).mono ?_; rintro e w7 ⟨rfl, hE7⟩; have HX7 := hide (HX6.out.trans hE7); have HP7 := hide (HP6.out.ext hE7); have HQ7 := hide (HQ6.out.ext hE7); clear hE7 HQA)
      | (go_at_call 11; refine (HPS2.out _ (HT.out.ext HX7.out)).mono ?_; rintro e w8 ⟨⟨y, ye, rfl, hpp⟩, hE8⟩; obtain ⟨hy, hye⟩ := HU2.out _ _ hpp; subst y; subst ye; have HX8 := hide ((HX7.out.trans hE8).alloc' (.cells #[.int .i64 p.c, .int .i64 p.n, .int .i64 p.e, .int .i64 p.k, .int .i64 p.s, .int .i64 p.p, .int .i64 p.m] 28)); have HP8 := hide ((HP7.out.ext hE8).alloc (.cells #[.int .i64 p.c, .int .i64 p.n, .int .i64 p.e, .int .i64 p.k, .int .i64 p.s, .int .i64 p.p, .int .i64 p.m] 28)); have HQ8 := hide ((HQ7.out.ext hE8).alloc (.cells #[.int .i64 p.c, .int .i64 p.n, .int .i64 p.e, .int .i64 p.k, .int .i64 p.s, .int .i64 p.p, .int .i64 p.m] 28)); have hp8 := HP8.out.cell; have hq8 := HQ8.out.cell; clear hpp hE8 HPS2))
    all_goals (go_ret; exact ⟨ret_bool' (by simp_all), HX8.out⟩)
theorem str_of (s : ByteArray) : str s.data.toList = s := by
  apply ByteArray.ext
  simp [str]
theorem fplans_law' (p q : Pl) (s : ByteArray) (w : World) (ht : Tabs w) : Calls Tryd.prog 3 #[.agg #[.int .i64 p.c, .int .i64 p.n, .int .i64 p.e, .int .i64 p.k, .int .i64 p.s, .int .i64 p.p, .int .i64 p.m], .agg #[.int .i64 q.c, .int .i64 q.n, .int .i64 q.e, .int .i64 q.k, .int .i64 q.s, .int .i64 q.p, .int .i64 q.m], .string s] w fun e w' => e = .returned (.bool true) ∧ Ext w w' := by
  have := fplans_law p q s.data.toList w ht
  rwa [str_of] at this
end Go.Proofs.YtfjddphjjhhjpaaDoor
