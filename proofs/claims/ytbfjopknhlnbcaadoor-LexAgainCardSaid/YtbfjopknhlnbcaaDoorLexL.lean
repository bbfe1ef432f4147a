/-
  The reference's token (word, number).
-/
import Derived.Test.YtbfjopknhlnbcaaDoorLexK
namespace Go.Proofs.YtbfjopknhlnbcaaDoor
open Go.RowKit
set_option linter.unusedVariables false


theorem word_spec (l : List UInt8) {n : Nat} {x : List UInt8} (hn : spanN prtB l = n) (hx : l.take n = x) : wordT l = if kwB x then .ok ((2, x, 0), n) else if 14 < n then .error 6 else .ok ((1, x, 0), n) := by
  subst hn
  subst hx
  rfl

set_option maxRecDepth 100000 in
set_option maxHeartbeats 4000000 in
theorem rtok_word (c : UInt8) (m : List UInt8) (hc : letB c = true) (hl : (c :: m).length ≤ 100000) (w : World) : Calls Tryd.prog 22 #[.string (str (c :: m))] w fun e w' => e = .returned (tokV (wordT (c :: m))) ∧ Ext w w' := by
  have hsz : (str (c :: m)).size = m.length + 1 := by rw [str_size]; rfl
  have h0 : 0 < (str (c :: m)).size := by rw [hsz]; omega
  have hg0 : (str (c :: m))[0] = c := rfl
  have hl1 : m.length ≤ 99999 := by simpa using hl
  have HX0 := hide (Ext.alloc w (.cells #[.int .i64 0, .string ⟨#[]⟩, .int .i64 0, .int .i64 0] 37))
  have HB0 := hide (Blk.new w 37 #[.int .i64 0, .string ⟨#[]⟩, .int .i64 0, .int .i64 0])
  have HL := hide (rletter_any c)
  have HD := hide (rdigit_any c)
  have hs1 := hide (show 1 ≤ spanN prtB (c :: m) by simp [spanN, prtB, hc])
  rw [hc] at HL
  clear hc
  go_enter Tryd.func22, Tryd.ntmps22
  go_wp2_with (first
      | (go_at_call 29; refine (HL.out _).mono ?_; rintro e w' ⟨rfl, rfl⟩))
  go_loop [5] (fun vi => ∃ j : Nat, vi = .int .i64 (j : Int) ∧ Hid (j ≤ spanN prtB (c :: m))) (fun vi => m.length + 1 - (intOf vi).toNat)
  case atStart => exact ⟨1, rfl, hs1⟩
  case round =>
    obtain ⟨j, rfl, HJ⟩ := hrel
    have hjl : j ≤ m.length + 1 := by have := HJ.out; have := spanN_le prtB (c :: m); simp at this; omega
    by_cases hlt : j < m.length + 1
    · have hns : j < (str (c :: m)).size := by rw [hsz]; exact hlt
      have hg : (str (c :: m))[j] = (c :: m)[j]'hlt := rfl
      have hlt' : (j : Int) < m.length + 1 := by omega
      have HI := hide (inner_any ((c :: m)[j]'hlt))
      have HSP := hide (fun h => spanN_at_stop (p := prtB) (l := c :: m) HJ.out hlt h)
      have hdr := spanN_drop prtB (c :: m) j HJ.out
      have hst := spanN_step prtB (l := c :: m) (j := j) hlt
      generalize (c :: m)[j]'hlt = d at *
      cases hp : prtB d with
      | true =>
        have HJ2 := hide (show j + 1 ≤ spanN prtB (c :: m) by rw [hp, if_pos rfl] at hst; omega)
        rw [hp] at HI
        clear HSP hp hst hdr
        go_wp2_with (first
      | (go_at_call 31; refine (HI.out _).mono ?_; rintro e w' ⟨rfl, rfl⟩))
        go_round
        case rel => exact ⟨j + 1, by go_num, HJ2⟩
        case measure => simp [intOf]; omega
      | false =>
        have hn := HSP.out hp
        rw [hp] at HI
        clear HSP hp hst hdr
        have HT := hide (word_spec (c :: m) hn rfl)
        have hex := str_extract (c :: m) 0 j
        simp only [List.drop_zero] at hex
        have HK := hide (rkeyword_any ((c :: m).take j))
        generalize (c :: m).take j = x at *
        clear hn
        cases hk : kwB x with
        | true =>
          rw [hk] at HK
          have HR := hide (show wordT (c :: m) = .ok ((2, x, 0), j) by rw [HT.out, hk, if_pos rfl])
          clear hk HT
          go_wp2_with (first
              | (go_at_call 31; refine (HI.out _).mono ?_; rintro e w' ⟨rfl, rfl⟩)
              | (go_at_call 30; refine (HK.out _).mono ?_; rintro e w1 ⟨rfl, hE⟩; have HB := hide (HB0.out.ext hE); have HX := hide (HX0.out.trans hE); clear hE; have hbc := HB.out.cell; have hbf := HB.out.frozen))
          have hset := (HB.out.put4 (.int .i64 2) (.string (str x)) (.int .i64 0) (.int .i64 0)).cell
          exact bodyPost_ret (v := tokV (.ok ((2, x, 0), j))) (by first | (simp [results, Tryd.results22, go_sem, tokV, hset]; done) | (simp [results, Tryd.results22, go_sem, tokV, hset]; rfl)) rfl ⟨by rw [HR.out], HX.out.put4 (Nat.le_refl _) _ _ _ _⟩
        | false =>
          rw [hk] at HK
          by_cases h14 : 14 < j
          · have h14' : (14 : Int) < j := by omega
            have HR := hide (show wordT (c :: m) = .error 6 by rw [HT.out, hk, if_neg (by simp), if_pos h14])
            clear hk HT
            go_wp2_with (first
              | (go_at_call 31; refine (HI.out _).mono ?_; rintro e w' ⟨rfl, rfl⟩)
              | (go_at_call 30; refine (HK.out _).mono ?_; rintro e w1 ⟨rfl, hE⟩; have HB := hide (HB0.out.ext hE); have HX := hide (HX0.out.trans hE); clear hE; have hbc := HB.out.cell; have hbf := HB.out.frozen))
            have hset := (HB.out.put4 (.int .i64 0) (.string ⟨#[]⟩) (.int .i64 0) (.int .i64 0)).cell
            exact bodyPost_ret (v := tokV (.error 6)) (by first | (simp [results, Tryd.results22, go_sem, tokV, hset]; done) | (simp [results, Tryd.results22, go_sem, tokV, hset]; rfl)) rfl ⟨by rw [HR.out], HX.out.put4 (Nat.le_refl _) _ _ _ _⟩
          · have h14' : ¬ (14 : Int) < j := by omega
            have HR := hide (show wordT (c :: m) = .ok ((1, x, 0), j) by rw [HT.out, hk, if_neg (by simp), if_neg h14])
            clear hk HT
            go_wp2_with (first
              | (go_at_call 31; refine (HI.out _).mono ?_; rintro e w' ⟨rfl, rfl⟩)
              | (go_at_call 30; refine (HK.out _).mono ?_; rintro e w1 ⟨rfl, hE⟩; have HB := hide (HB0.out.ext hE); have HX := hide (HX0.out.trans hE); clear hE; have hbc := HB.out.cell; have hbf := HB.out.frozen))
            have hset := (HB.out.put4 (.int .i64 1) (.string (str x)) (.int .i64 0) (.int .i64 0)).cell
            exact bodyPost_ret (v := tokV (.ok ((1, x, 0), j))) (by first | (simp [results, Tryd.results22, go_sem, tokV, hset]; done) | (simp [results, Tryd.results22, go_sem, tokV, hset]; rfl)) rfl ⟨by rw [HR.out], HX.out.put4 (Nat.le_refl _) _ _ _ _⟩
    · have hlt' : ¬ (j : Int) < m.length + 1 := by omega
      have HI := hide (inner_any 0)
      have hn := spanN_at_len HJ.out hlt
      have HT := hide (word_spec (c :: m) hn rfl)
      have hex := str_extract (c :: m) 0 j
      simp only [List.drop_zero] at hex
      have HK := hide (rkeyword_any ((c :: m).take j))
      generalize (c :: m).take j = x at *
      clear hn
      cases hk : kwB x with
      | true =>
        rw [hk] at HK
        have HR := hide (show wordT (c :: m) = .ok ((2, x, 0), j) by rw [HT.out, hk, if_pos rfl])
        clear hk HT
        go_wp2_with (first
            | (go_at_call 31; refine (HI.out _).mono ?_; rintro e w' ⟨rfl, rfl⟩)
            | (go_at_call 30; refine (HK.out _).mono ?_; rintro e w1 ⟨rfl, hE⟩; have HB := hide (HB0.out.ext hE); have HX := hide (HX0.out.trans hE); clear hE; have hbc := HB.out.cell; have hbf := HB.out.frozen))
        have hset := (HB.out.put4 (.int .i64 2) (.string (str x)) (.int .i64 0) (.int .i64 0)).cell
        exact bodyPost_ret (v := tokV (.ok ((2, x, 0), j))) (by first | (simp [results, Tryd.results22, go_sem, tokV, hset]; done) | (simp [results, Tryd.results22, go_sem, tokV, hset]; rfl)) rfl ⟨by rw [HR.out], HX.out.put4 (Nat.le_refl _) _ _ _ _⟩
      | false =>
        rw [hk] at HK
        by_cases h14 : 14 < j
        · have h14' : (14 : Int) < j := by omega
          have HR := hide (show wordT (c :: m) = .error 6 by rw [HT.out, hk, if_neg (by simp), if_pos h14])
          clear hk HT
          go_wp2_with (first
            | (go_at_call 31; refine (HI.out _).mono ?_; rintro e w' ⟨rfl, rfl⟩)
            | (go_at_call 30; refine (HK.out _).mono ?_; rintro e w1 ⟨rfl, hE⟩; have HB := hide (HB0.out.ext hE); have HX := hide (HX0.out.trans hE); clear hE; have hbc := HB.out.cell; have hbf := HB.out.frozen))
          have hset := (HB.out.put4 (.int .i64 0) (.string ⟨#[]⟩) (.int .i64 0) (.int .i64 0)).cell
          exact bodyPost_ret (v := tokV (.error 6)) (by first | (simp [results, Tryd.results22, go_sem, tokV, hset]; done) | (simp [results, Tryd.results22, go_sem, tokV, hset]; rfl)) rfl ⟨by rw [HR.out], HX.out.put4 (Nat.le_refl _) _ _ _ _⟩
        · have h14' : ¬ (14 : Int) < j := by omega
          have HR := hide (show wordT (c :: m) = .ok ((1, x, 0), j) by rw [HT.out, hk, if_neg (by simp), if_neg h14])
          clear hk HT
          go_wp2_with (first
            | (go_at_call 31; refine (HI.out _).mono ?_; rintro e w' ⟨rfl, rfl⟩)
            | (go_at_call 30; refine (HK.out _).mono ?_; rintro e w1 ⟨rfl, hE⟩; have HB := hide (HB0.out.ext hE); have HX := hide (HX0.out.trans hE); clear hE; have hbc := HB.out.cell; have hbf := HB.out.frozen))
          have hset := (HB.out.put4 (.int .i64 1) (.string (str x)) (.int .i64 0) (.int .i64 0)).cell
          exact bodyPost_ret (v := tokV (.ok ((1, x, 0), j))) (by first | (simp [results, Tryd.results22, go_sem, tokV, hset]; done) | (simp [results, Tryd.results22, go_sem, tokV, hset]; rfl)) rfl ⟨by rw [HR.out], HX.out.put4 (Nat.le_refl _) _ _ _ _⟩

set_option maxRecDepth 100000 in
set_option maxHeartbeats 4000000 in
theorem rtok_num (c : UInt8) (m : List UInt8) (hL : letB c = false) (hD : digB c = true) (hl : (c :: m).length ≤ 100000) (w : World) : Calls Tryd.prog 22 #[.string (str (c :: m))] w fun e w' => e = .returned (tokV (numT (c :: m))) ∧ Ext w w' := by
  have hsz : (str (c :: m)).size = m.length + 1 := by rw [str_size]; rfl
  have h0 : 0 < (str (c :: m)).size := by rw [hsz]; omega
  have hg0 : (str (c :: m))[0] = c := rfl
  have hl1 : m.length ≤ 99999 := by simpa using hl
  have HX0 := hide (Ext.alloc w (.cells #[.int .i64 0, .string ⟨#[]⟩, .int .i64 0, .int .i64 0] 37))
  have HB0 := hide (Blk.new w 37 #[.int .i64 0, .string ⟨#[]⟩, .int .i64 0, .int .i64 0])
  have HL := hide (rletter_any c)
  have HD := hide (rdigit_any c)
  obtain ⟨k, s, v, n, e, hr⟩ := tokV_shape (numT (c :: m))
  have HF := hide (rnumber_any c m hD hl)
  rw [hr] at HF
  have HR := hide hr
  rw [hL] at HL
  rw [hD] at HD
  clear hL hD hr
  go_enter Tryd.func22, Tryd.ntmps22
  go_wp2_with (first
      | (go_at_call 29; refine (HL.out _).mono ?_; rintro e w' ⟨rfl, rfl⟩)
      | (go_at_call 40; refine (HD.out _).mono ?_; rintro e w' ⟨rfl, rfl⟩)
      | (go_at_call 41; refine (HF.out _).mono ?_; rintro e' w1 ⟨rfl, hE⟩; have HB := hide (HB0.out.ext hE); have HX := hide (HX0.out.trans hE); clear hE; have hbc := HB.out.cell; have hbf := HB.out.frozen))
  have hset := (HB.out.put4 (.int .i64 k) (.string s) (.int .i64 v) (.int .i64 0)).cell
  exact bodyPost_ret (v := .tuple #[.agg #[.int .i64 k, .string s, .int .i64 v, .int .i64 0], .int .i64 n, .int .i64 e]) (by first | (simp [results, Tryd.results22, go_sem, hset]; done) | (simp [results, Tryd.results22, go_sem, hset]; rfl)) rfl ⟨by rw [HR.out], HX.out.put4 (Nat.le_refl _) _ _ _ _⟩

end Go.Proofs.YtbfjopknhlnbcaaDoor
