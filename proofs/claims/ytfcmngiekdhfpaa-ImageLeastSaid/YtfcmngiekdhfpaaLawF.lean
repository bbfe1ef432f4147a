/-
  The walk of ImageBack.
-/
import Derived.Test.YtfcmngiekdhfpaaLawC
import Derived.Test.YtfcmngiekdhfpaaImgH
import Derived.Test.YtfcmngiekdhfpaaLawE
namespace Go.Proofs.Ytfcmngiekdhfpaa
open Go.RowKit
set_option linter.unusedVariables false

theorem pageL_takeN (a : List UInt8) (n k : Nat) : pageL (a.take n) k = (pageL a k).take (n - k * 128) := by
  unfold pageL
  rw [List.drop_take, List.take_take, List.take_take, Nat.min_comm]
theorem diffL_nil {a b : List UInt8} : (diffL a b).length = 0 ↔ ∀ k, k < cntN b.length → pageL a k = pageL b k := by
  have : ∀ m, (diffTo a b m).length = 0 ↔ ∀ k, k < m → pageL a k = pageL b k := by
    intro m
    induction m with
    | zero => simp [diffTo]
    | succ m ih =>
      simp only [diffTo]
      by_cases h : pageL a m = pageL b m
      · rw [if_pos h, ih]
        exact ⟨fun q k hk => by
          by_cases e : k = m
          · rw [e]; exact h
          · exact q k (by omega), fun q k hk => q k (by omega)⟩
      · rw [if_neg h]
        simp only [List.length_append, List.length_singleton]
        exact ⟨fun q => by omega, fun q => absurd (q m (by omega)) h⟩
  exact this _
theorem back_plain (a b : List UInt8) : (diffL a b).length = 0 ↔ b.length ≤ a.length ∧ a.take b.length = b ∧ (b.length = a.length ∨ b.length % 128 = 0) := by
  rw [diffL_nil]
  constructor
  · intro h
    by_cases h0 : b.length = 0
    · have hb : b = [] := List.eq_nil_of_length_eq_zero h0
      subst hb
      simp
    have hc : cntN b.length = (b.length - 1) / 128 + 1 := by unfold cntN cnt; rw [if_neg (by omega)]; omega
    have hlast := congrArg List.length (h ((b.length - 1) / 128) (by omega))
    rw [pageL_length, pageL_length] at hlast
    have hle : b.length ≤ a.length := by omega
    refine ⟨hle, ?_, by omega⟩
    refine eq_of_pages (by rw [List.length_take]; omega) fun k hk => ?_
    rw [List.length_take, Nat.min_eq_left hle] at hk
    rw [pageL_takeN, h k hk]
    refine List.take_of_length_le ?_
    rw [pageL_length]
    omega
  · rintro ⟨h1, h2, h3⟩ k hk
    rcases h3 with h3 | h3
    · rw [h3, List.take_length] at h2
      rw [h2]
    · have : pageL (a.take b.length) k = pageL b k := by rw [h2]
      rw [pageL_takeN] at this
      rw [← this]
      refine (List.take_of_length_le ?_).symm
      rw [pageL_length]
      unfold cntN cnt at hk
      split at hk <;> omega

set_option maxRecDepth 100000 in
set_option maxHeartbeats 1000000 in
theorem back_law (A B : Option Addr) (ca cb : Nat) (a b : List UInt8) (w : World) (ha : Sl w A ca a) (hb : Sl w B cb b) :
    Calls Try.prog 7 #[.slice A a.length ca, .slice B b.length cb] w fun e w' => e = .returned (.bool true) ∧ Ext w w' := by
  have HA := hide ha
  have HB := hide hb
  have hma := ha.max
  have hla := ha.le
  have hmb := hb.max
  have hlb := hb.le
  unfold maxLen at hma hmb
  clear ha hb
  by_cases hl : 2000 < a.length
  · have hl' : (2000 : Int) < a.length := by omega
    go_enter Try.func7, Try.ntmps7
    go_wp2_with (go_at_call 14; refine (awake_any _).mono ?_; rintro e w1 ⟨rfl, hE1⟩)
    go_ret
    exact ⟨rfl, hE1⟩
  by_cases hm : 2000 < b.length
  · have hl' : ¬ (2000 : Int) < a.length := by omega
    have hm' : (2000 : Int) < b.length := by omega
    go_enter Try.func7, Try.ntmps7
    go_wp2_with (go_at_call 14; refine (awake_any _).mono ?_; rintro e w1 ⟨rfl, hE1⟩)
    go_ret
    exact ⟨rfl, hE1⟩
  have hl' : ¬ (2000 : Int) < a.length := by omega
  have hm' : ¬ (2000 : Int) < b.length := by omega
  have hdl := diffL_length a b
  have HDD := hide (diffL_data a b)
  have HVD := hide (valid_diff a b (by omega))
  have HAD := hide (applied_diff a b (by omega))
  have HBP := hide (back_plain a b)
  go_enter Try.func7, Try.ntmps7
  go_wp2_with (go_at_call 14; refine (awake_any _).mono ?_; rintro e w1 ⟨rfl, hE1⟩; have HE1 := hide hE1; clear hE1)
  refine (diff_any _ _ _ _ _ _ _ (HA.out.ext HE1.out) (HB.out.ext HE1.out) (by omega) (by omega)).mono ?_
  rintro e w2 ⟨C, c, rfl, hc, he⟩
  have HC := hide hc
  have HE2 := hide (HE1.out.trans he)
  clear hc he
  go_wp2_with fail
  have hb1 := Blk.new w2 29 #[.int .i64 b.length, .slice C (diffL a b).length c]
  have he1 := Ext.alloc w2 (.cells #[.int .i64 b.length, .slice C (diffL a b).length c] 29)
  refine (apply_good _ _ _ a _ _ _ _ ((HA.out.ext HE2.out).ext he1) (HC.out.ext he1) (by omega) HDD.out HVD.out).mono ?_
  rintro e w3 ⟨D, rfl, hd, he3⟩
  rw [HAD.out] at hd
  have HX := hide (HE2.out.trans (he1.trans he3))
  have HB3 := hide (HB.out.ext HX.out)
  have HA3 := hide (HA.out.ext HX.out)
  have HD3 := hide hd
  have HP3 := hide (hb1.ext he3)
  have hz3 := (hb1.ext he3).lt
  clear hb1 he1 hd he3 HC HA HB HVD HAD HE1 HE2
  go_wp2_with fail
  obtain ⟨t1, ht1⟩ : ∃ t, decide (b.length ≤ a.length) = t := ⟨_, rfl⟩
  obtain ⟨t2, ht2⟩ : ∃ t, (a.take b.length == b) = t := ⟨_, rfl⟩
  obtain ⟨t3, ht3⟩ : ∃ t, ((b.length : Int) == a.length) = t := ⟨_, rfl⟩
  obtain ⟨t4, ht4⟩ : ∃ t, ((b.length : Int).tmod 128 == 0) = t := ⟨_, rfl⟩
  have HZ := hide (show ((((diffL a b).length : Nat) : Int) == 0) = (t1 && (t2 && (t3 || t4))) by
    rw [← ht1, ← ht2, ← ht3, ← ht4, Bool.eq_iff_iff]
    simp only [beq_iff_eq, Bool.and_eq_true, Bool.or_eq_true, decide_eq_true_eq]
    have := HBP.out
    have e4 : (b.length : Int).tmod 128 = 0 ↔ b.length % 128 = 0 := by
      rw [Int.tmod_eq_emod_of_nonneg (by omega)]
      omega
    rw [e4]
    constructor
    · intro h
      obtain ⟨q1, q2, q3⟩ := this.1 (by omega)
      exact ⟨by omega, q2, by omega⟩
    · rintro ⟨q1, q2, q3⟩
      have := this.2 ⟨by omega, q2, by omega⟩
      omega)
  have HT1 := hide ht1
  have HT2 := hide ht2
  have HT3 := hide ht3
  have HT4 := hide ht4
  have h1 : t1 = true → b.length ≤ a.length := fun h => by rw [← ht1] at h; simp only [decide_eq_true_eq] at h; omega
  have H2 := hide fun (w : World) (h : Ext w3 w) => (HB3.out.ext h).convert (P := Try.prog) (src := 22) (dst := 9) Try.underlying22 Try.underlying5 Try.underlying9
  have H3 := hide fun (w : World) (h : Ext w3 w) => (HD3.out.ext h).convert (P := Try.prog) (src := 22) (dst := 9) Try.underlying22 Try.underlying5 Try.underlying9
  have H1 := hide fun (w : World) (h : Ext w3 w) => ((HA3.out.ext h).take b.length).convert (P := Try.prog) (src := 22) (dst := 9) Try.underlying22 Try.underlying5 Try.underlying9
  clear ht1 ht2 ht3 ht4 HBP HA3
  have hcases : t1 = false ∨ (t1 = true ∧ t2 = false) ∨ (t1 = true ∧ t2 = true ∧ t3 = true) ∨ (t1 = true ∧ t2 = true ∧ t3 = false ∧ t4 = true) ∨ (t1 = true ∧ t2 = true ∧ t3 = false ∧ t4 = false) := by
    cases t1 <;> cases t2 <;> cases t3 <;> cases t4 <;> simp
  rcases hcases with rfl | ⟨rfl, rfl⟩ | ⟨rfl, rfl, rfl⟩ | ⟨rfl, rfl, rfl, rfl⟩ | ⟨rfl, rfl, rfl, rfl⟩
  · clear h1 H1
    refine wp_region_ext 28 3 [] mixed (by kernel_rfl) trivial ?_
    repeat (first | ((refine seq_skip (by rfl) ?_); (simp only [Act.put, List.setIfInBounds_toArray, List.set_cons_zero, List.set_cons_succ])) | ((refine seq_exact ?_ (by rfl) (by rfl) (fun w1 hU => ?_) ?_); (rotate_left 1); (focus (have ht1 := HT1.out; have ht2 := HT2.out; have ht3 := HT3.out; have ht4 := HT4.out; clear hU; go_simp; with_reducible rfl)); (simp only [Act.put, List.setIfInBounds_toArray, List.set_cons_zero, List.set_cons_succ])))
    intro w7 hw7 _
    simp only [List.drop_succ_cons, List.drop_zero]
    have hw7 := hw7.un
    have hk2 := H2.out w7 hw7
    have hk3 := H3.out w7 hw7
    have hp7 := (HP3.out.ext hw7).cell
    have hz7 := HZ.out
    have HX7 := hide (HX.out.trans hw7)
    clear hw7
    go_wp2
    go_ret
    exact ⟨ret_bool (by simp), HX7.out⟩
  all_goals
    have h1' := h1 rfl
    have H1 := hide fun (w : World) (h : Ext w3 w) => (show (Go.convert 22 9 (.slice A b.length ca)).run Try.prog w = .ok (.string (str (a.take b.length))) w from by
      have := H1.out w h
      rw [List.length_take, Nat.min_eq_left h1'] at this
      exact this)
    clear h1
    refine wp_region_ext 28 3 [] mixed (by kernel_rfl) trivial ?_
    repeat (first | ((refine seq_skip (by rfl) ?_); (simp only [Act.put, List.setIfInBounds_toArray, List.set_cons_zero, List.set_cons_succ])) | ((refine seq_exact ?_ (by rfl) (by rfl) (fun w1 hU => ?_) ?_); (rotate_left 1); (focus (have ht1 := HT1.out; have ht2 := HT2.out; have ht3 := HT3.out; have ht4 := HT4.out; have hc1 := H1.out w1 hU.un; have hc2 := H2.out w1 hU.un; clear hU; go_simp; with_reducible rfl)); (simp only [Act.put, List.setIfInBounds_toArray, List.set_cons_zero, List.set_cons_succ])))
    refine seq_exact (.slice A b.length ca) (by rfl) (by rfl) (fun w5 hU => ?_) ?_
    · clear hU
      go_simp
      intro h
      omega
    simp only [Act.put, List.setIfInBounds_toArray, List.set_cons_zero, List.set_cons_succ]
    repeat (first | ((refine seq_skip (by rfl) ?_); (simp only [Act.put, List.setIfInBounds_toArray, List.set_cons_zero, List.set_cons_succ])) | ((refine seq_exact ?_ (by rfl) (by rfl) (fun w1 hU => ?_) ?_); (rotate_left 1); (focus (have ht1 := HT1.out; have ht2 := HT2.out; have ht3 := HT3.out; have ht4 := HT4.out; have hc1 := H1.out w1 hU.un; have hc2 := H2.out w1 hU.un; clear hU; go_simp; with_reducible rfl)); (simp only [Act.put, List.setIfInBounds_toArray, List.set_cons_zero, List.set_cons_succ])))
    intro w7 hw7 _
    simp only [List.drop_succ_cons, List.drop_zero]
    have hw7 := hw7.un
    have hk2 := H2.out w7 hw7
    have hk3 := H3.out w7 hw7
    have hp7 := (HP3.out.ext hw7).cell
    have hz7 := HZ.out
    have HX7 := hide (HX.out.trans hw7)
    clear hw7
    go_wp2
    go_ret
    exact ⟨ret_bool (by simp), HX7.out⟩
end Go.Proofs.Ytfcmngiekdhfpaa
