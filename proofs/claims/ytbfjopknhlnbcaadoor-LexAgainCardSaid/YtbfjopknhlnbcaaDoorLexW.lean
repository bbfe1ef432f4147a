/-
  Plain: the tokens of two programs parted by a line feed.
-/
import Derived.Test.YtbfjopknhlnbcaaDoorLexV
import Derived.Test.YtbfjopknhlnbcaaDoorLexQ
namespace Go.Proofs.YtbfjopknhlnbcaaDoor
set_option linter.unusedVariables false

theorem skipF (c : UInt8) (l : List UInt8) : skipC false (c :: l) = if wsB c then skipC false l + 1 else if c = 47 ∧ l.head? = some 47 then skipC true l + 1 else 0 := rfl
theorem skipL (c : UInt8) (l : List UInt8) : skipC true (c :: l) = if c = 10 then skipC false l + 1 else skipC true l + 1 := rfl
theorem skipC_sep' (y : List UInt8) : ∀ (b : Bool) (m : List UInt8), (skipC b m < m.length → skipC b (m ++ 10 :: y) = skipC b m) ∧ (¬ skipC b m < m.length → skipC b (m ++ 10 :: y) = m.length + 1 + skipC false y)
  | false, [] => by
    refine ⟨fun h => by simp at h, fun _ => ?_⟩
    show skipC false (10 :: y) = _
    rw [skipF, if_pos (by decide)]
    simp
    omega
  | true, [] => by
    refine ⟨fun h => by simp at h, fun _ => ?_⟩
    show skipC true (10 :: y) = _
    rw [skipL, if_pos rfl]
    simp
    omega
  | false, c :: l => by
    rw [List.cons_append, skipF, skipF, List.length_cons]
    obtain ⟨f1, f2⟩ := skipC_sep' y false l
    obtain ⟨t1, t2⟩ := skipC_sep' y true l
    by_cases hw : wsB c = true
    · rw [if_pos hw, if_pos hw]
      by_cases h : skipC false l < l.length
      · rw [f1 h]; constructor <;> intro q <;> omega
      · rw [f2 h]; constructor <;> intro q <;> omega
    · rw [if_neg hw, if_neg hw]
      by_cases hc : c = 47 ∧ l.head? = some 47
      · rw [if_pos hc, if_pos ⟨hc.1, (head_sep y l 47 (by decide)).2 hc.2⟩]
        by_cases h : skipC true l < l.length
        · rw [t1 h]; constructor <;> intro q <;> omega
        · rw [t2 h]; constructor <;> intro q <;> omega
      · rw [if_neg hc, if_neg (fun h => hc ⟨h.1, (head_sep y l 47 (by decide)).1 h.2⟩)]
        constructor <;> intro q <;> omega
  | true, c :: l => by
    rw [List.cons_append, skipL, skipL, List.length_cons]
    obtain ⟨f1, f2⟩ := skipC_sep' y false l
    obtain ⟨t1, t2⟩ := skipC_sep' y true l
    by_cases hc : c = 10
    · rw [if_pos hc, if_pos hc]
      by_cases h : skipC false l < l.length
      · rw [f1 h]; constructor <;> intro q <;> omega
      · rw [f2 h]; constructor <;> intro q <;> omega
    · rw [if_neg hc, if_neg hc]
      by_cases h : skipC true l < l.length
      · rw [t1 h]; constructor <;> intro q <;> omega
      · rw [t2 h]; constructor <;> intro q <;> omega
theorem skipC_sep (y : List UInt8) (b : Bool) (m : List UInt8) : skipC b (m ++ 10 :: y) = if skipC b m < m.length then skipC b m else m.length + 1 + skipC false y := by
  split
  · rename_i h; exact (skipC_sep' y b m).1 h
  · rename_i h; exact (skipC_sep' y b m).2 h
theorem toksF_more : ∀ (f g : Nat) (m : List UInt8) (a : Nat), m.length < f → m.length < g → toksF f m a = toksF g m a
  | 0, g, m, a, h, _ => by omega
  | f + 1, 0, m, a, _, h => by omega
  | f + 1, g + 1, m, a, h1, h2 => by
    simp only [toksF]
    cases hd : m.drop (skipC false m) with
    | nil => rfl
    | cons c r =>
      simp only
      have hl : (c :: r).length ≤ m.length := by rw [← hd, List.length_drop]; omega
      cases ht : tokT (c :: r) with
      | error e => rfl
      | ok x =>
        obtain ⟨⟨k, t, v⟩, n⟩ := x
        have hn := tokT_len ht
        simp only
        rw [toksF_more f g _ _ (by rw [List.length_drop]; omega) (by rw [List.length_drop]; omega)]
theorem toksF_sep (y : List UInt8) : ∀ (f : Nat) (m : List UInt8) (a g : Nat), m.length < f → m.length + 1 + y.length < g → toksF g (m ++ 10 :: y) a = match toksF f m a with
    | .error e => .error e
    | .ok ts => joinE ts (toksF (y.length + 1) y (a + m.length + 1))
  | 0, m, a, g, h, _ => by omega
  | f + 1, m, a, 0, _, h => by omega
  | f + 1, m, a, g + 1, h1, h2 => by
    have hs := skipC_le false m
    have hsep := skipC_sep y false m
    obtain ⟨R, hR⟩ : ∃ R, toksF (y.length + 1) y (a + m.length + 1) = R := ⟨_, rfl⟩
    rw [hR]
    by_cases hlt : skipC false m < m.length
    · rw [if_pos hlt] at hsep
      obtain ⟨c, r, hcr⟩ : ∃ c r, m.drop (skipC false m) = c :: r := by
        cases h : m.drop (skipC false m) with
        | nil => have := congrArg List.length h; rw [List.length_drop] at this; simp at this; omega
        | cons c r => exact ⟨c, r, rfl⟩
      have hl : (c :: r).length = m.length - skipC false m := by rw [← hcr, List.length_drop]
      have hdr : (m ++ 10 :: y).drop (skipC false m) = c :: (r ++ 10 :: y) := by rw [drop_sep _ _ _ hs, hcr]; rfl
      simp only [toksF, hsep, hdr, hcr, tokT_sep]
      cases ht : tokT (c :: r) with
      | error e => rfl
      | ok x =>
        obtain ⟨⟨k, t, v⟩, n⟩ := x
        have hn := tokT_len ht
        have hd2 : (c :: (r ++ 10 :: y)).drop n = (c :: r).drop n ++ 10 :: y := drop_sep y (c :: r) n hn.2
        have ih := toksF_sep y f ((c :: r).drop n) (a + skipC false m + n) g (by rw [List.length_drop]; omega) (by rw [List.length_drop]; omega)
        rw [List.length_drop, show a + skipC false m + n + ((c :: r).length - n) + 1 = a + m.length + 1 by omega, hR] at ih
        simp only
        rw [hd2, ih]
        cases toksF f ((c :: r).drop n) (a + skipC false m + n) with
        | error e => rfl
        | ok us => simp only; cases R <;> simp [joinE]
    · rw [if_neg hlt] at hsep
      have hm0 : m.drop (skipC false m) = [] := List.drop_of_length_le (by omega)
      have hQ : toksF (f + 1) m a = .ok [] := by simp only [toksF, hm0]
      rw [hQ]
      simp only
      have hE : toksF (g + 1) (m ++ 10 :: y) a = toksF (g + 1) y (a + m.length + 1) := by
        have hd : (m ++ 10 :: y).drop (m.length + 1 + skipC false y) = y.drop (skipC false y) := by
          rw [show m.length + 1 + skipC false y = m.length + (skipC false y + 1) by omega, List.drop_append]
          simp
        simp only [toksF, hsep, hd]
        rw [show a + (m.length + 1 + skipC false y) = a + m.length + 1 + skipC false y by omega]
      rw [hE, toksF_more (g + 1) (y.length + 1) y _ (by omega) (by omega), hR]
      cases R <;> simp [joinE]
def sh (b : Nat) (t : Tok) : Tok := ⟨t.k, t.t, t.v, t.f + b⟩
theorem toksF_shift (b : Nat) : ∀ (f : Nat) (m : List UInt8) (a : Nat), toksF f m (a + b) = match toksF f m a with
    | .error (p, e) => .error (p + b, e)
    | .ok ts => .ok (ts.map (sh b))
  | 0, m, a => rfl
  | f + 1, m, a => by
    simp only [toksF]
    cases hd : m.drop (skipC false m) with
    | nil => rfl
    | cons c r =>
      simp only
      cases ht : tokT (c :: r) with
      | error e => simp only; rw [show a + b + skipC false m = a + skipC false m + b by omega]
      | ok x =>
        obtain ⟨⟨k, t, v⟩, n⟩ := x
        have ih := toksF_shift b f ((c :: r).drop n) (a + skipC false m + n)
        simp only
        rw [show a + b + skipC false m + n = a + skipC false m + n + b by omega, ih]
        cases toksF f ((c :: r).drop n) (a + skipC false m + n) with
        | error x => rfl
        | ok us =>
          simp only [List.map_cons, sh]
          congr 3
          omega
theorem toks_parts (l m : List UInt8) : toks (l ++ 10 :: m) = match toks l with
    | .error x => .error x
    | .ok xs => match toks m with
      | .error (p, e) => .error (p + (l.length + 1), e)
      | .ok ys => .ok (xs ++ ys.map (sh (l.length + 1))) := by
  unfold toks
  rw [toksF_sep m (l.length + 1) l 0 _ (by omega) (by simp; omega)]
  cases toksF (l.length + 1) l 0 with
  | error e => rfl
  | ok xs =>
    simp only
    have := toksF_shift (l.length + 1) (m.length + 1) m 0
    rw [show 0 + l.length + 1 = 0 + (l.length + 1) by omega, this]
    cases toksF (m.length + 1) m 0 <;> rfl
theorem sameL_parts (b : Nat) : ∀ xs ys : List Tok, sameL false (xs ++ ys.map (sh b)) (xs ++ ys) = true
  | [], [] => rfl
  | [], y :: ys => by
    have := sameL_parts b [] ys
    simp only [List.nil_append] at this
    show (sameT false (sh b y) y && sameL false (ys.map (sh b)) ys) = true
    rw [this]
    simp [sameT, sh]
  | x :: xs, ys => by
    show (sameT false x x && sameL false (xs ++ ys.map (sh b)) (xs ++ ys)) = true
    rw [sameL_parts b xs ys]
    simp [sameT]
end Go.Proofs.YtbfjopknhlnbcaaDoor
