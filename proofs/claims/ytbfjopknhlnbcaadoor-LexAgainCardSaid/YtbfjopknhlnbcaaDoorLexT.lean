/-
  Plain: a prefix of a program, cut at a token's place, has the tokens before that token.
-/
import Derived.Test.YtbfjopknhlnbcaaDoorLexI
namespace Go.Proofs.YtbfjopknhlnbcaaDoor
set_option linter.unusedVariables false

theorem skipC_take : ∀ (b : Bool) (m : List UInt8) (k : Nat), skipC b m ≤ k → skipC b (m.take k) = skipC b m
  | b, [], k, _ => by simp
  | b, c :: l, 0, h => by
    have h0 : skipC b (c :: l) = 0 := by omega
    rw [h0, List.take_zero]
    cases b <;> rfl
  | false, c :: l, k + 1, h => by
    rw [List.take_succ_cons]
    simp only [skipC] at h ⊢
    by_cases hw : wsB c = true
    · rw [if_pos hw] at h ⊢
      rw [if_pos hw, skipC_take false l k (by omega)]
    · rw [if_neg hw] at h ⊢
      rw [if_neg hw]
      by_cases hc : c = 47 ∧ l.head? = some 47
      · rw [if_pos hc] at h ⊢
        obtain ⟨h1, h2⟩ := hc
        cases l with
        | nil => cases h2
        | cons d r =>
          have hk : 1 ≤ skipC true (d :: r) := by
            simp only [skipC]; split <;> omega
          obtain ⟨k, rfl⟩ : ∃ q, k = q + 1 := ⟨k - 1, by omega⟩
          have h3 : ((d :: r).take (k + 1)).head? = some 47 := by rw [List.take_succ_cons]; exact h2
          rw [if_pos ⟨h1, h3⟩, skipC_take true (d :: r) (k + 1) (by omega)]
      · rw [if_neg hc, if_neg]
        rintro ⟨h1, h2⟩
        cases l with
        | nil => simp at h2
        | cons d r =>
          cases k with
          | zero => simp at h2
          | succ k => exact hc ⟨h1, by rw [List.take_succ_cons] at h2; exact h2⟩
  | true, c :: l, k + 1, h => by
    rw [List.take_succ_cons]
    simp only [skipC] at h ⊢
    split
    · rename_i hc
      rw [if_pos hc] at h
      rw [skipC_take false l k (by omega)]
    · rename_i hc
      rw [if_neg hc] at h
      rw [skipC_take true l k (by omega)]
theorem spanN_take (p : UInt8 → Bool) : ∀ (l : List UInt8) (k : Nat), spanN p l ≤ k → spanN p (l.take k) = spanN p l
  | [], k, _ => by simp
  | c :: l, 0, h => by
    have h0 : spanN p (c :: l) = 0 := by omega
    rw [h0]; rfl
  | c :: l, k + 1, h => by
    rw [List.take_succ_cons]
    simp only [spanN] at h ⊢
    split
    · rename_i hc
      rw [if_pos hc] at h
      rw [spanN_take p l k (by omega)]
    · rfl
theorem head_take {l : List UInt8} {j : Nat} (h : 1 ≤ j) : (l.take j).head? = l.head? := by
  cases l with
  | nil => simp
  | cons c r =>
    obtain ⟨q, rfl⟩ : ∃ q, j = q + 1 := ⟨j - 1, by omega⟩
    rw [List.take_succ_cons]; rfl
theorem head_take_any {l : List UInt8} {j : Nat} (p : UInt8 → Bool) (h : l.head?.any p = false) : (l.take j).head?.any p = false := by
  cases j with
  | zero => rw [List.take_zero]; rfl
  | succ j => rw [head_take (by omega)]; exact h
theorem elemL_take {m : List UInt8} {j : Nat} (h : (elemL m).2 ≤ j) (h0 : (elemL m).2 ≠ 0) : elemL (m.take j) = elemL m := by
  match m with
  | [] => simp
  | c :: r =>
    obtain ⟨q, rfl⟩ : ∃ q, j = q + 1 := ⟨j - 1, by omega⟩
    rw [List.take_succ_cons]
    simp only [elemL] at h h0 ⊢
    split
    · rfl
    · rename_i q1
      rw [if_neg q1] at h h0
      split
      · rfl
      · rename_i q2
        rw [if_neg q2] at h h0
        match r with
        | [] => simp
        | d :: s =>
          simp only at h h0 ⊢
          have hq : 1 ≤ q := by
            cases hv : escV d with
            | none => rw [hv] at h0; simp at h0
            | some v => rw [hv] at h; simp at h; omega
          obtain ⟨q, rfl⟩ : ∃ t, q = t + 1 := ⟨q - 1, by omega⟩
          rw [List.take_succ_cons]
theorem litL_take : ∀ (N : Nat) (m : List UInt8) (t : List UInt8) (n j : Nat), m.length ≤ N → litL m = some (t, n) → n ≤ j → litL (m.take j) = some (t, n)
  | N, [], t, n, j, _, h, _ => by cases h
  | 0, c :: r, t, n, j, hN, _, _ => by simp at hN
  | N + 1, c :: r, t, n, j, hN, h, hj => by
    by_cases h34 : c = 34
    · subst h34
      rw [litL_end] at h
      cases h
      obtain ⟨q, rfl⟩ : ∃ q, j = q + 1 := ⟨j - 1, by omega⟩
      rw [List.take_succ_cons, litL_end]
    · by_cases h0 : (elemL (c :: r)).2 = 0
      · rw [litL_bad h34 h0] at h; cases h
      · rw [litL_step h34 h0] at h
        obtain ⟨⟨t', n'⟩, h1, h2⟩ := Option.map_eq_some_iff.1 h
        cases h2
        have hle := elemL_le (c :: r)
        have ih := litL_take N ((c :: r).drop (elemL (c :: r)).2) t' n' (j - (elemL (c :: r)).2) (by rw [List.length_drop]; simp only [List.length_cons] at hN ⊢; omega) h1 (by simp only at hj; omega)
        have he := elemL_take (m := c :: r) (j := j) (by simp only at hj; omega) h0
        obtain ⟨q, rfl⟩ : ∃ q, j = q + 1 := ⟨j - 1, by simp only at hj; omega⟩
        rw [List.take_succ_cons] at he ⊢
        rw [litL_step h34 (by rw [he]; exact h0), he]
        have hd : (c :: List.take q r).drop (elemL (c :: r)).2 = ((c :: r).drop (elemL (c :: r)).2).take (q + 1 - (elemL (c :: r)).2) := by
          rw [← List.take_succ_cons, List.drop_take]
        rw [hd, ih]
        rfl
theorem tokT_take {c : UInt8} {r : List UInt8} {x : Int × List UInt8 × Int} {n k : Nat} (h : tokT (c :: r) = .ok (x, n)) (hk : n ≤ k) : tokT ((c :: r).take k) = .ok (x, n) := by
  have hn := tokT_len h
  obtain ⟨k, rfl⟩ : ∃ q, k = q + 1 := ⟨k - 1, by omega⟩
  have hcons : (c :: r).take (k + 1) = c :: r.take k := List.take_succ_cons
  simp only [tokT] at h
  rw [hcons]
  simp only [tokT]
  rw [← hcons]
  split at h
  · rename_i hL
    rw [if_pos hL]
    unfold wordT at h ⊢
    have hsp : spanN prtB (c :: r) = n := by
      split at h
      · cases h; rfl
      · split at h
        · cases h
        · cases h; rfl
    have hs2 := spanN_take prtB (c :: r) (k + 1) (by omega)
    rw [hs2, List.take_take, Nat.min_eq_left (by omega)]
    exact h
  · rename_i hL
    rw [if_neg hL]
    split at h
    · rename_i hD
      rw [if_pos hD]
      unfold numT at h ⊢
      have hsp : spanN digB (c :: r) = n := by
        split at h
        · cases h
        · split at h
          · cases h
          · cases h; rfl
      have hs2 := spanN_take digB (c :: r) (k + 1) (by omega)
      rw [hs2, List.take_take, Nat.min_eq_left (by omega), List.drop_take, head_take (l := c :: r) (by omega)]
      split at h
      · cases h
      · rename_i hh
        rw [if_neg (by rw [head_take_any _ (by simpa using hh)]; simp)]
        exact h
    · rename_i hD
      rw [if_neg hD]
      split at h
      · rename_i h39
        rw [if_pos h39]
        unfold charT at h ⊢
        rw [List.drop_take]
        split at h
        · cases h
        · rename_i hh
          cases h
          have h0 : (elemL ((c :: r).drop 1)).2 ≠ 0 := fun e => hh (.inl e)
          rw [elemL_take (m := (c :: r).drop 1) (by omega) h0, head_take (by omega), List.drop_take, head_take (by omega), if_neg hh]
      · rename_i h39
        rw [if_neg h39]
        split at h
        · rename_i h34
          rw [if_pos h34]
          unfold textT at h ⊢
          rw [List.drop_take]
          split at h
          · cases h
          · rename_i t n' hl
            split at h
            · cases h
            · rename_i h128
              cases h
              rw [litL_take _ _ t n' (k + 1 - 1) (Nat.le_refl _) hl (by omega)]
              simp only
              rw [if_neg h128]
        · rename_i h34
          rw [if_neg h34]
          unfold markT at h ⊢
          split at h
          · rename_i hc
            cases h
            rw [List.take_take, Nat.min_eq_left (by omega), if_pos hc]
          · rename_i hc
            split at h
            · rename_i h1
              cases h
              rw [List.take_take, if_neg, head_take (by omega), if_pos h1, List.take_take, Nat.min_eq_left (by omega)]
              intro h2
              have hl : ∀ t ∈ two, t.length = 2 := by decide
              have h3 := hl _ (List.contains_iff_mem.1 h2)
              rw [List.length_take] at h3
              exact hc (by rw [show min 2 (k + 1) = 2 by omega] at h2; exact h2)
            · cases h
/-- The tokens' places: within the program, one behind the other. -/
theorem toksF_inc : ∀ (f : Nat) (m : List UInt8) (a : Nat) (ts : List Tok), toksF f m a = .ok ts → (∀ t ∈ ts, (a : Int) ≤ t.f ∧ t.f < a + m.length) ∧ ts.Pairwise (fun x y => x.f < y.f)
  | 0, m, a, ts, h => by cases h; simp
  | f + 1, m, a, ts, h => by
    simp only [toksF] at h
    split at h
    · cases h; simp
    · rename_i c r hd
      split at h
      · cases h
      · rename_i k t v n ht
        have hn := tokT_len ht
        split at h
        · cases h
        · rename_i us hu
          cases h
          obtain ⟨h1, h2⟩ := toksF_inc f _ _ us hu
          have hl : (c :: r).length = m.length - skipC false m := by rw [← hd, List.length_drop]
          have hs := skipC_le false m
          refine ⟨fun x hx => ?_, List.pairwise_cons.2 ⟨fun x hx => ?_, h2⟩⟩
          · rcases List.mem_cons.1 hx with rfl | hx
            · simp only at hn ⊢; constructor <;> omega
            · have := h1 x hx
              rw [List.length_drop] at this
              constructor <;> omega
          · have := (h1 x hx).1
            simp only
            omega
theorem toksF_take : ∀ (f : Nat) (m : List UInt8) (a : Nat) (ts : List Tok), toksF f m a = .ok ts → ∀ i, (h : i < ts.length) → ∃ j : Nat, ts[i].f = ((a + j : Nat) : Int) ∧ j < m.length ∧ ∀ g, j < g → toksF g (m.take j) a = .ok (ts.take i)
  | 0, m, a, ts, h, i, hi => by cases h; simp at hi
  | f + 1, m, a, ts, h, i, hi => by
    simp only [toksF] at h
    split at h
    · cases h; simp at hi
    · rename_i c r hd
      split at h
      · cases h
      · rename_i k t v n ht
        have hn := tokT_len ht
        split at h
        · cases h
        · rename_i us hu
          cases h
          have hl : (c :: r).length = m.length - skipC false m := by rw [← hd, List.length_drop]
          have hs := skipC_le false m
          cases i with
          | zero =>
            refine ⟨skipC false m, rfl, by omega, fun g hg => ?_⟩
            obtain ⟨g, rfl⟩ : ∃ q, g = q + 1 := ⟨g - 1, by omega⟩
            simp only [toksF]
            rw [skipC_take false m _ (Nat.le_refl _), List.drop_of_length_le (by rw [List.length_take]; omega)]
            rfl
          | succ i =>
            obtain ⟨j, h1, h2, h3⟩ := toksF_take f _ _ us hu i (by simpa using hi)
            rw [List.length_drop] at h2
            refine ⟨skipC false m + n + j, by rw [List.getElem_cons_succ, h1]; omega, by omega, fun g hg => ?_⟩
            obtain ⟨g, rfl⟩ : ∃ q, g = q + 1 := ⟨g - 1, by omega⟩
            have hd2 : (m.take (skipC false m + n + j)).drop (skipC false m) = (c :: r).take (n + j) := by
              rw [List.drop_take, hd]
              congr 1
              omega
            have hcons : ∃ r', (c :: r).take (n + j) = c :: r' := by
              obtain ⟨q, hq⟩ : ∃ q, n + j = q + 1 := ⟨n + j - 1, by omega⟩
              exact ⟨_, by rw [hq]; exact List.take_succ_cons⟩
            obtain ⟨r', hr'⟩ := hcons
            have htk := tokT_take (k := n + j) ht (by omega)
            have hrest : ((c :: r).take (n + j)).drop n = ((c :: r).drop n).take j := by
              rw [List.drop_take]
              congr 1
              omega
            have h4 := h3 g (by omega)
            simp only [toksF]
            rw [skipC_take false m _ (by omega), hd2, hr']
            rw [hr'] at htk hrest
            simp only [htk]
            rw [hrest, h4]
            rfl
theorem toks_take {l : List UInt8} {ts : List Tok} (h : toks l = .ok ts) (i : Nat) (hi : i < ts.length) : ∃ j : Nat, ts[i].f = (j : Int) ∧ j < l.length ∧ toks (l.take j) = .ok (ts.take i) := by
  obtain ⟨j, h1, h2, h3⟩ := toksF_take _ _ _ _ h i hi
  refine ⟨j, by simpa using h1, h2, ?_⟩
  have := h3 (j + 1) (by omega)
  unfold toks
  rw [List.length_take, Nat.min_eq_left (by omega)]
  exact this
end Go.Proofs.YtbfjopknhlnbcaaDoor
