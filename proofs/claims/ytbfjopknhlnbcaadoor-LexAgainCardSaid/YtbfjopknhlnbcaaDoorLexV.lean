/-
  Plain: a line feed parts a program.
-/
import Derived.Test.YtbfjopknhlnbcaaDoorLexT
namespace Go.Proofs.YtbfjopknhlnbcaaDoor
set_option linter.unusedVariables false

theorem spanN_sep (p : UInt8 → Bool) (s : UInt8) (y : List UInt8) (hp : p s = false) : ∀ l : List UInt8, spanN p (l ++ s :: y) = spanN p l
  | [] => by simp [spanN, hp]
  | c :: l => by
    rw [List.cons_append]
    simp only [spanN]
    rw [spanN_sep p s y hp l]
theorem elemL_sep (y : List UInt8) : ∀ m : List UInt8, elemL (m ++ 10 :: y) = elemL m
  | [] => by simp [elemL]
  | [c] => by
    show elemL (c :: 10 :: y) = elemL [c]
    simp only [elemL]
    rw [show escV 10 = none by decide]
  | c :: d :: r => rfl
theorem head_sep (y : List UInt8) (m : List UInt8) (v : UInt8) (hv : v ≠ 10) : (m ++ 10 :: y).head? = some v ↔ m.head? = some v := by
  cases m with
  | nil => simp [Ne.symm hv]
  | cons c r => simp
theorem drop_sep (y m : List UInt8) (k : Nat) (h : k ≤ m.length) : (m ++ 10 :: y).drop k = m.drop k ++ 10 :: y := by
  rw [List.drop_append, show k - m.length = 0 by omega, List.drop_zero]
theorem litL_sep (y : List UInt8) : ∀ (N : Nat) (m : List UInt8), m.length ≤ N → litL (m ++ 10 :: y) = litL m
  | N, [], _ => by
    show litL (10 :: y) = none
    exact litL_bad (by decide) (by simp [elemL])
  | 0, c :: r, h => by simp at h
  | N + 1, c :: r, h => by
    by_cases h34 : c = 34
    · subst h34; rw [litL_end]; exact litL_end _
    · have he := elemL_sep y (c :: r)
      rw [List.cons_append] at he ⊢
      have hle := elemL_le (c :: r)
      by_cases h0 : (elemL (c :: r)).2 = 0
      · rw [litL_bad h34 h0, litL_bad h34 (by rw [he]; exact h0)]
      · rw [litL_step h34 h0, litL_step h34 (by rw [he]; exact h0), he, ← List.cons_append, drop_sep _ _ _ hle.1,
          litL_sep y N ((c :: r).drop (elemL (c :: r)).2) (by rw [List.length_drop]; simp only [List.length_cons] at h ⊢; omega)]
theorem char_eq (c : UInt8) (m : List UInt8) : charT (c :: m) = if (elemL m).2 = 0 ∨ m.head? = some 39 ∨ (m.drop (elemL m).2).head? ≠ some 39 then .error 3 else .ok ((3, [], ((elemL m).1.toNat : Int)), (elemL m).2 + 2) := rfl
theorem tokT_sep (c : UInt8) (r y : List UInt8) : tokT (c :: (r ++ 10 :: y)) = tokT (c :: r) := by
  have hcons : c :: (r ++ 10 :: y) = (c :: r) ++ 10 :: y := rfl
  have hp := spanN_sep prtB 10 y (by decide) (c :: r)
  have hd := spanN_sep digB 10 y (by decide) (c :: r)
  have hp2 := spanN_le prtB (c :: r)
  have hd2 := spanN_le digB (c :: r)
  have hw : wordT (c :: (r ++ 10 :: y)) = wordT (c :: r) := by
    unfold wordT
    rw [hcons, hp, List.take_append_of_le_length hp2]
  have hnum : numT (c :: (r ++ 10 :: y)) = numT (c :: r) := by
    unfold numT
    rw [hcons, hd, List.take_append_of_le_length hd2, drop_sep _ _ _ hd2]
    have h1 : ((c :: r).drop (spanN digB (c :: r)) ++ 10 :: y).head?.any prtB = ((c :: r).drop (spanN digB (c :: r))).head?.any prtB := by
      cases (c :: r).drop (spanN digB (c :: r)) with
      | nil => show prtB 10 = false; decide
      | cons d s => rfl
    rw [h1]
    rfl
  have hc : charT (c :: (r ++ 10 :: y)) = charT (c :: r) := by
    rw [char_eq, char_eq, elemL_sep]
    have hle := elemL_le r
    rw [drop_sep _ _ _ hle.1]
    simp only [head_sep y _ 39 (by decide), ne_eq]
  have ht : textT (c :: (r ++ 10 :: y)) = textT (c :: r) := by
    show (match litL (r ++ 10 :: y) with | none => _ | some (t, n) => _) = _
    rw [litL_sep y _ r (Nat.le_refl _)]
    rfl
  have hm : markT (c :: (r ++ 10 :: y)) = markT (c :: r) := by
    cases r with
    | nil =>
      unfold markT
      have h1 : two.contains ((c :: ([] ++ 10 :: y)).take 2) = false := by
        rw [Bool.eq_false_iff]
        intro h
        have hl : ∀ t ∈ two, t.getLast? ≠ some 10 := by decide
        exact hl _ (List.contains_iff_mem.1 h) rfl
      have h2 : two.contains (([c] : List UInt8).take 2) = false := by
        rw [Bool.eq_false_iff]
        intro h
        have hl : ∀ t ∈ two, t.length = 2 := by decide
        have := hl _ (List.contains_iff_mem.1 h)
        simp at this
      rw [h1, h2]
      rfl
    | cons d s => rfl
  simp only [tokT]
  rw [hw, hnum, hc, ht, hm]
end Go.Proofs.YtbfjopknhlnbcaaDoor
