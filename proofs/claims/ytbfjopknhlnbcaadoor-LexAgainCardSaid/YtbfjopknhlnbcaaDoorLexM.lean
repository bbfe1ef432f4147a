/-
  The reference's token (character, text, mark).
-/
import Derived.Test.YtbfjopknhlnbcaaDoorLexL
namespace Go.Proofs.YtbfjopknhlnbcaaDoor
open Go.RowKit
set_option linter.unusedVariables false


theorem elem_39 {m : List UInt8} : (elemL m).2 = 1 ∧ (elemL m).1 = 39 ↔ m.head? = some 39 := by
  match m with
  | [] => simp [elemL]
  | c :: r =>
    constructor
    · rintro ⟨h1, h2⟩
      simp only [elemL] at h1 h2
      split at h1
      · cases h1
      · rename_i q
        rw [if_neg q] at h2
        split at h1
        · rename_i q2
          rw [if_pos q2] at h2
          have h2 : c = 39 := h2
          rw [h2]; rfl
        · exfalso
          split at h1
          · cases h1
          · split at h1
            · cases h1
            · cases h1
    · intro h
      have h : c = 39 := by simpa using h
      subst h
      simp [elemL]

set_option maxRecDepth 100000 in
set_option maxHeartbeats 4000000 in
theorem rtok_char (c : UInt8) (m : List UInt8) (hL : letB c = false) (hD : digB c = false) (hb39 : ((c.toNat : Int) == 39) = true) (hl : (c :: m).length ≤ 100000) (w : World) : Calls Tryd.prog 22 #[.string (str (c :: m))] w fun e w' => e = .returned (tokV (charT (c :: m))) ∧ Ext w w' := by
  have hsz : (str (c :: m)).size = m.length + 1 := by rw [str_size]; rfl
  have h0 : 0 < (str (c :: m)).size := by rw [hsz]; omega
  have hg0 : (str (c :: m))[0] = c := rfl
  have hl1 : m.length ≤ 99999 := by simpa using hl
  have HX0 := hide (Ext.alloc w (.cells #[.int .i64 0, .string ⟨#[]⟩, .int .i64 0, .int .i64 0] 37))
  have HB0 := hide (Blk.new w 37 #[.int .i64 0, .string ⟨#[]⟩, .int .i64 0, .int .i64 0])
  have HL := hide (rletter_any c)
  have HD := hide (rdigit_any c)
  rw [hL] at HL
  rw [hD] at HD
  clear hL hD
  have hex : (str (c :: m)).extract 1 (m.length + 1) = str m := by
    have := str_extract (c :: m) 1 (m.length + 1)
    rw [List.take_of_length_le (by simp)] at this
    exact this
  have HEL := hide (fun w => relem_any m w (by omega))
  obtain ⟨hle1, hle2⟩ := elemL_le m
  have HT := hide (char_spec c m)
  have H39 := hide (elem_39 (m := m))
  generalize hv : (elemL m).1 = v at *
  generalize hn : (elemL m).2 = n at *
  have hvb := v.toNat_lt
  have hvb' : (v.toNat : Int) < 256 := by omega
  clear hv hn
  go_enter Tryd.func22, Tryd.ntmps22
  by_cases hn0 : n = 0
  · have HR := hide (show charT (c :: m) = .error 3 by rw [HT.out, if_pos (.inl hn0)])
    subst hn0
    clear HT H39
    go_wp2_with (first
      | (go_at_call 29; refine (HL.out _).mono ?_; rintro e w' ⟨rfl, rfl⟩)
      | (go_at_call 40; refine (HD.out _).mono ?_; rintro e w' ⟨rfl, rfl⟩)
      | (go_at_call 42; refine (HEL.out _).mono ?_; rintro e w1 ⟨rfl, hE⟩; have HB := hide (HB0.out.ext hE); have HX := hide (HX0.out.trans hE); clear hE; have hbc := HB.out.cell; have hbf := HB.out.frozen))
    have hset := (HB.out.put4 (.int .i64 0) (.string ⟨#[]⟩) (.int .i64 0) (.int .i64 0)).cell
    exact bodyPost_ret (v := tokV (.error 3)) (by first | (simp [results, Tryd.results22, go_sem, tokV, hset]; done) | (simp [results, Tryd.results22, go_sem, tokV, hset]; rfl)) rfl ⟨by rw [HR.out], HX.out.put4 (Nat.le_refl _) _ _ _ _⟩
  · have hnb : ((n : Int) == 0) = false := by simp [hn0]
    by_cases hn1 : n = 1
    · have hnb1 : ((n : Int) == 1) = true := by simp [hn1]
      by_cases hv39 : v = 39
      · have HR := hide (show charT (c :: m) = .error 3 by rw [HT.out, if_pos (.inr (.inl (H39.out.1 ⟨hn1, hv39⟩)))])
        have hvb39 : ((v.toNat : Int) == 39) = true := by rw [hv39]; rfl
        clear HT H39 hv39 hn1
        go_wp2_with (first
      | (go_at_call 29; refine (HL.out _).mono ?_; rintro e w' ⟨rfl, rfl⟩)
      | (go_at_call 40; refine (HD.out _).mono ?_; rintro e w' ⟨rfl, rfl⟩)
      | (go_at_call 42; refine (HEL.out _).mono ?_; rintro e w1 ⟨rfl, hE⟩; have HB := hide (HB0.out.ext hE); have HX := hide (HX0.out.trans hE); clear hE; have hbc := HB.out.cell; have hbf := HB.out.frozen))
        have hset := (HB.out.put4 (.int .i64 0) (.string ⟨#[]⟩) (.int .i64 0) (.int .i64 0)).cell
        exact bodyPost_ret (v := tokV (.error 3)) (by first | (simp [results, Tryd.results22, go_sem, tokV, hset]; done) | (simp [results, Tryd.results22, go_sem, tokV, hset]; rfl)) rfl ⟨by rw [HR.out], HX.out.put4 (Nat.le_refl _) _ _ _ _⟩
      · have hvb39 : ((v.toNat : Int) == 39) = false := (u8_eqI v 39 (by omega)).trans (beq_eq_false_iff_ne.2 hv39)
        by_cases hlt : n < m.length
        · have hlt' : ¬ (m.length : Int) + 1 < (n : Int) + 2 := by omega
          have hns : n + 1 < (str (c :: m)).size := by rw [hsz]; omega
          have hg : (str (c :: m))[n + 1] = m[n]'hlt := rfl
          by_cases hd39 : m[n]'hlt = 39
          · have HR := hide (show charT (c :: m) = .ok ((3, [], (v.toNat : Int)), n + 2) by rw [HT.out, if_neg (by rintro (h | h | h); exact hn0 h; exact (fun h => hv39 (H39.out.2 h).2) h; exact h (by rw [head_drop _ _ hlt, hd39]))])
            rw [hd39] at hg
            clear hd39
            clear HT H39 hv39 hn1
            go_wp2_with (first
      | (go_at_call 29; refine (HL.out _).mono ?_; rintro e w' ⟨rfl, rfl⟩)
      | (go_at_call 40; refine (HD.out _).mono ?_; rintro e w' ⟨rfl, rfl⟩)
      | (go_at_call 42; refine (HEL.out _).mono ?_; rintro e w1 ⟨rfl, hE⟩; have HB := hide (HB0.out.ext hE); have HX := hide (HX0.out.trans hE); clear hE; have hbc := HB.out.cell; have hbf := HB.out.frozen))
            have hset := (HB.out.put4 (.int .i64 3) (.string ⟨#[]⟩) (.int .i64 (v.toNat : Int)) (.int .i64 0)).cell
            exact bodyPost_ret (v := tokV (.ok ((3, [], (v.toNat : Int)), n + 2))) (by first | (simp [results, Tryd.results22, go_sem, tokV, hset]; done) | (simp [results, Tryd.results22, go_sem, tokV, hset]; rfl)) rfl ⟨by rw [HR.out], HX.out.put4 (Nat.le_refl _) _ _ _ _⟩
          · have HR := hide (show charT (c :: m) = .error 3 by rw [HT.out, if_pos (.inr (.inr (by rw [head_drop _ _ hlt]; intro h; exact hd39 (Option.some.inj h))))])
            have hb : ((m[n].toNat : Int) == 39) = false := (u8_eqI m[n] 39 (by omega)).trans (beq_eq_false_iff_ne.2 hd39)
            have hbn : ((m[n].toNat : Int) != 39) = true := by rw [bne, hb]; rfl
            generalize m[n]'hlt = d at *
            clear hd39
            clear HT H39 hv39 hn1
            go_wp2_with (first
      | (go_at_call 29; refine (HL.out _).mono ?_; rintro e w' ⟨rfl, rfl⟩)
      | (go_at_call 40; refine (HD.out _).mono ?_; rintro e w' ⟨rfl, rfl⟩)
      | (go_at_call 42; refine (HEL.out _).mono ?_; rintro e w1 ⟨rfl, hE⟩; have HB := hide (HB0.out.ext hE); have HX := hide (HX0.out.trans hE); clear hE; have hbc := HB.out.cell; have hbf := HB.out.frozen))
            have hset := (HB.out.put4 (.int .i64 0) (.string ⟨#[]⟩) (.int .i64 0) (.int .i64 0)).cell
            exact bodyPost_ret (v := tokV (.error 3)) (by first | (simp [results, Tryd.results22, go_sem, tokV, hset]; done) | (simp [results, Tryd.results22, go_sem, tokV, hset]; rfl)) rfl ⟨by rw [HR.out], HX.out.put4 (Nat.le_refl _) _ _ _ _⟩
        · have hlt' : (m.length : Int) + 1 < (n : Int) + 2 := by omega
          have HR := hide (show charT (c :: m) = .error 3 by rw [HT.out, if_pos (.inr (.inr (by rw [head_drop_none _ _ (by omega)]; intro h; cases h)))])
          clear HT H39 hv39 hn1
          go_wp2_with (first
      | (go_at_call 29; refine (HL.out _).mono ?_; rintro e w' ⟨rfl, rfl⟩)
      | (go_at_call 40; refine (HD.out _).mono ?_; rintro e w' ⟨rfl, rfl⟩)
      | (go_at_call 42; refine (HEL.out _).mono ?_; rintro e w1 ⟨rfl, hE⟩; have HB := hide (HB0.out.ext hE); have HX := hide (HX0.out.trans hE); clear hE; have hbc := HB.out.cell; have hbf := HB.out.frozen))
          have hset := (HB.out.put4 (.int .i64 0) (.string ⟨#[]⟩) (.int .i64 0) (.int .i64 0)).cell
          exact bodyPost_ret (v := tokV (.error 3)) (by first | (simp [results, Tryd.results22, go_sem, tokV, hset]; done) | (simp [results, Tryd.results22, go_sem, tokV, hset]; rfl)) rfl ⟨by rw [HR.out], HX.out.put4 (Nat.le_refl _) _ _ _ _⟩
    · have hnb1 : ((n : Int) == 1) = false := by simp; omega
      by_cases hlt : n < m.length
      · have hlt' : ¬ (m.length : Int) + 1 < (n : Int) + 2 := by omega
        have hns : n + 1 < (str (c :: m)).size := by rw [hsz]; omega
        have hg : (str (c :: m))[n + 1] = m[n]'hlt := rfl
        by_cases hd39 : m[n]'hlt = 39
        · have HR := hide (show charT (c :: m) = .ok ((3, [], (v.toNat : Int)), n + 2) by rw [HT.out, if_neg (by rintro (h | h | h); exact hn0 h; exact (fun h => hn1 (H39.out.2 h).1) h; exact h (by rw [head_drop _ _ hlt, hd39]))])
          rw [hd39] at hg
          clear hd39
          clear HT H39 hn1
          go_wp2_with (first
      | (go_at_call 29; refine (HL.out _).mono ?_; rintro e w' ⟨rfl, rfl⟩)
      | (go_at_call 40; refine (HD.out _).mono ?_; rintro e w' ⟨rfl, rfl⟩)
      | (go_at_call 42; refine (HEL.out _).mono ?_; rintro e w1 ⟨rfl, hE⟩; have HB := hide (HB0.out.ext hE); have HX := hide (HX0.out.trans hE); clear hE; have hbc := HB.out.cell; have hbf := HB.out.frozen))
          have hset := (HB.out.put4 (.int .i64 3) (.string ⟨#[]⟩) (.int .i64 (v.toNat : Int)) (.int .i64 0)).cell
          exact bodyPost_ret (v := tokV (.ok ((3, [], (v.toNat : Int)), n + 2))) (by first | (simp [results, Tryd.results22, go_sem, tokV, hset]; done) | (simp [results, Tryd.results22, go_sem, tokV, hset]; rfl)) rfl ⟨by rw [HR.out], HX.out.put4 (Nat.le_refl _) _ _ _ _⟩
        · have HR := hide (show charT (c :: m) = .error 3 by rw [HT.out, if_pos (.inr (.inr (by rw [head_drop _ _ hlt]; intro h; exact hd39 (Option.some.inj h))))])
          have hb : ((m[n].toNat : Int) == 39) = false := (u8_eqI m[n] 39 (by omega)).trans (beq_eq_false_iff_ne.2 hd39)
          have hbn : ((m[n].toNat : Int) != 39) = true := by rw [bne, hb]; rfl
          generalize m[n]'hlt = d at *
          clear hd39
          clear HT H39 hn1
          go_wp2_with (first
      | (go_at_call 29; refine (HL.out _).mono ?_; rintro e w' ⟨rfl, rfl⟩)
      | (go_at_call 40; refine (HD.out _).mono ?_; rintro e w' ⟨rfl, rfl⟩)
      | (go_at_call 42; refine (HEL.out _).mono ?_; rintro e w1 ⟨rfl, hE⟩; have HB := hide (HB0.out.ext hE); have HX := hide (HX0.out.trans hE); clear hE; have hbc := HB.out.cell; have hbf := HB.out.frozen))
          have hset := (HB.out.put4 (.int .i64 0) (.string ⟨#[]⟩) (.int .i64 0) (.int .i64 0)).cell
          exact bodyPost_ret (v := tokV (.error 3)) (by first | (simp [results, Tryd.results22, go_sem, tokV, hset]; done) | (simp [results, Tryd.results22, go_sem, tokV, hset]; rfl)) rfl ⟨by rw [HR.out], HX.out.put4 (Nat.le_refl _) _ _ _ _⟩
      · have hlt' : (m.length : Int) + 1 < (n : Int) + 2 := by omega
        have HR := hide (show charT (c :: m) = .error 3 by rw [HT.out, if_pos (.inr (.inr (by rw [head_drop_none _ _ (by omega)]; intro h; cases h)))])
        clear HT H39 hn1
        go_wp2_with (first
      | (go_at_call 29; refine (HL.out _).mono ?_; rintro e w' ⟨rfl, rfl⟩)
      | (go_at_call 40; refine (HD.out _).mono ?_; rintro e w' ⟨rfl, rfl⟩)
      | (go_at_call 42; refine (HEL.out _).mono ?_; rintro e w1 ⟨rfl, hE⟩; have HB := hide (HB0.out.ext hE); have HX := hide (HX0.out.trans hE); clear hE; have hbc := HB.out.cell; have hbf := HB.out.frozen))
        have hset := (HB.out.put4 (.int .i64 0) (.string ⟨#[]⟩) (.int .i64 0) (.int .i64 0)).cell
        exact bodyPost_ret (v := tokV (.error 3)) (by first | (simp [results, Tryd.results22, go_sem, tokV, hset]; done) | (simp [results, Tryd.results22, go_sem, tokV, hset]; rfl)) rfl ⟨by rw [HR.out], HX.out.put4 (Nat.le_refl _) _ _ _ _⟩

set_option maxRecDepth 100000 in
set_option maxHeartbeats 4000000 in
theorem rtok_text (c : UInt8) (m : List UInt8) (hL : letB c = false) (hD : digB c = false) (hb39 : ((c.toNat : Int) == 39) = false) (hb34 : ((c.toNat : Int) == 34) = true) (hl : (c :: m).length ≤ 100000) (w : World) : Calls Tryd.prog 22 #[.string (str (c :: m))] w fun e w' => e = .returned (tokV (textT (c :: m))) ∧ Ext w w' := by
  have hsz : (str (c :: m)).size = m.length + 1 := by rw [str_size]; rfl
  have h0 : 0 < (str (c :: m)).size := by rw [hsz]; omega
  have hg0 : (str (c :: m))[0] = c := rfl
  have hl1 : m.length ≤ 99999 := by simpa using hl
  have HX0 := hide (Ext.alloc w (.cells #[.int .i64 0, .string ⟨#[]⟩, .int .i64 0, .int .i64 0] 37))
  have HB0 := hide (Blk.new w 37 #[.int .i64 0, .string ⟨#[]⟩, .int .i64 0, .int .i64 0])
  have HL := hide (rletter_any c)
  have HD := hide (rdigit_any c)
  rw [hL] at HL
  rw [hD] at HD
  clear hL hD
  have hex : (str (c :: m)).extract 1 (m.length + 1) = str m := by
    have := str_extract (c :: m) 1 (m.length + 1)
    rw [List.take_of_length_le (by simp)] at this
    exact this
  have HLT := hide (fun w => rlit_any m (by omega) w)
  have HT := hide (text_spec c m)
  cases hlit : litL m with
  | none =>
    rw [hlit, show litV none = .tuple #[.string ⟨#[]⟩, .int .i64 0] from rfl] at HLT
    have HR := hide (show textT (c :: m) = .error 3 by rw [HT.out, hlit])
    clear HT hlit
    go_enter Tryd.func22, Tryd.ntmps22
    go_wp2_with (first
      | (go_at_call 29; refine (HL.out _).mono ?_; rintro e w' ⟨rfl, rfl⟩)
      | (go_at_call 40; refine (HD.out _).mono ?_; rintro e w' ⟨rfl, rfl⟩)
      | (go_at_call 43; refine (HLT.out _).mono ?_; rintro e w1 ⟨rfl, hE⟩; have HB := hide (HB0.out.ext hE); have HX := hide (HX0.out.trans hE); clear hE; have hbc := HB.out.cell; have hbf := HB.out.frozen))
    have hset := (HB.out.put4 (.int .i64 0) (.string ⟨#[]⟩) (.int .i64 0) (.int .i64 0)).cell
    exact bodyPost_ret (v := tokV (.error 3)) (by first | (simp [results, Tryd.results22, go_sem, tokV, hset]; done) | (simp [results, Tryd.results22, go_sem, tokV, hset]; rfl)) rfl ⟨by rw [HR.out], HX.out.put4 (Nat.le_refl _) _ _ _ _⟩
  | some x =>
    obtain ⟨t, k⟩ := x
    obtain ⟨hk1, hk2⟩ := litF_pos _ _ _ _ hlit
    rw [hlit, show litV (some (t, k)) = .tuple #[.string (str t), .int .i64 (k : Int)] from rfl] at HLT
    have hkb : ((k : Int) == 0) = false := by simp; omega
    have hts : (str t).size = t.length := str_size t
    by_cases h128 : 128 < t.length
    · have HR := hide (show textT (c :: m) = .error 6 by rw [HT.out, hlit]; simp only; rw [if_pos h128])
      have h128' : (128 : Int) < t.length := by omega
      clear HT hlit
      go_enter Tryd.func22, Tryd.ntmps22
      go_wp2_with (first
      | (go_at_call 29; refine (HL.out _).mono ?_; rintro e w' ⟨rfl, rfl⟩)
      | (go_at_call 40; refine (HD.out _).mono ?_; rintro e w' ⟨rfl, rfl⟩)
      | (go_at_call 43; refine (HLT.out _).mono ?_; rintro e w1 ⟨rfl, hE⟩; have HB := hide (HB0.out.ext hE); have HX := hide (HX0.out.trans hE); clear hE; have hbc := HB.out.cell; have hbf := HB.out.frozen))
      have hset := (HB.out.put4 (.int .i64 0) (.string ⟨#[]⟩) (.int .i64 0) (.int .i64 0)).cell
      exact bodyPost_ret (v := tokV (.error 6)) (by first | (simp [results, Tryd.results22, go_sem, tokV, hset]; done) | (simp [results, Tryd.results22, go_sem, tokV, hset]; rfl)) rfl ⟨by rw [HR.out], HX.out.put4 (Nat.le_refl _) _ _ _ _⟩
    · have HR := hide (show textT (c :: m) = .ok ((4, t, 0), k + 1) by rw [HT.out, hlit]; simp only; rw [if_neg h128])
      have h128' : ¬ (128 : Int) < t.length := by omega
      clear HT hlit
      go_enter Tryd.func22, Tryd.ntmps22
      go_wp2_with (first
      | (go_at_call 29; refine (HL.out _).mono ?_; rintro e w' ⟨rfl, rfl⟩)
      | (go_at_call 40; refine (HD.out _).mono ?_; rintro e w' ⟨rfl, rfl⟩)
      | (go_at_call 43; refine (HLT.out _).mono ?_; rintro e w1 ⟨rfl, hE⟩; have HB := hide (HB0.out.ext hE); have HX := hide (HX0.out.trans hE); clear hE; have hbc := HB.out.cell; have hbf := HB.out.frozen))
      have hset := (HB.out.put4 (.int .i64 4) (.string (str t)) (.int .i64 0) (.int .i64 0)).cell
      exact bodyPost_ret (v := tokV (.ok ((4, t, 0), k + 1))) (by first | (simp [results, Tryd.results22, go_sem, tokV, hset]; done) | (simp [results, Tryd.results22, go_sem, tokV, hset]; rfl)) rfl ⟨by rw [HR.out], HX.out.put4 (Nat.le_refl _) _ _ _ _⟩

end Go.Proofs.YtbfjopknhlnbcaaDoor
