/-
  Plain: strings are read from their quotes; tokens written with blanks are read again.
-/
import Derived.Test.YtbfjopknhlnbcaaDoorLexX
namespace Go.Proofs.YtbfjopknhlnbcaaDoor
set_option linter.unusedVariables false

/-! ### strings from their quotes -/
def okC (c : UInt8) : Bool := decide (32 ≤ c.toNat ∧ c.toNat ≤ 126) || c == 10 || c == 9 || c == 0
def escQ (c : UInt8) : List UInt8 := if c = 10 then [92, 110] else if c = 9 then [92, 116] else if c = 0 then [92, 48] else if c = 92 then [92, 92] else if c = 39 then [92, 39] else if c = 34 then [92, 34] else [c]
def qescL : List UInt8 → List UInt8
  | [] => []
  | c :: l => escQ c ++ qescL l
theorem qescL_app (l m : List UInt8) : qescL (l ++ m) = qescL l ++ qescL m := by
  induction l with
  | nil => rfl
  | cons c l ih => simp [qescL, ih]
theorem escQ_length (c : UInt8) : 1 ≤ (escQ c).length ∧ (escQ c).length ≤ 2 := by
  unfold escQ; (repeat' split) <;> simp
theorem qescL_length : ∀ l : List UInt8, l.length ≤ (qescL l).length ∧ (qescL l).length ≤ 2 * l.length
  | [] => by simp [qescL]
  | c :: l => by have := qescL_length l; have := escQ_length c; simp only [qescL, List.length_append, List.length_cons]; omega
/-- The string token of some bytes. -/
def quoteL (l : List UInt8) : List UInt8 := 34 :: (qescL l ++ [34])
theorem quoteL_length (l : List UInt8) : (quoteL l).length ≤ 2 * l.length + 2 := by have := qescL_length l; simp [quoteL]; omega
theorem elem_two (d v : UInt8) (y : List UInt8) (h : escV d = some v) : elemL (92 :: d :: y) = (v, 2) := by
  have h1 : ¬ ((92 : UInt8).toNat < 32 ∨ 126 < (92 : UInt8).toNat) := by decide
  simp only [elemL]
  rw [if_neg h1, if_neg (by simp), h]
theorem elem_escQ (c : UInt8) (h : okC c = true) (y : List UInt8) : elemL (escQ c ++ y) = (c, (escQ c).length) ∧ (∃ d r, escQ c ++ y = d :: r ∧ d ≠ 34) := by
  unfold escQ
  by_cases h1 : c = 10
  · subst h1; exact ⟨elem_two 110 10 y (by decide), 92, _, rfl, by decide⟩
  rw [if_neg h1]
  by_cases h2 : c = 9
  · subst h2; exact ⟨elem_two 116 9 y (by decide), 92, _, rfl, by decide⟩
  rw [if_neg h2]
  by_cases h3 : c = 0
  · subst h3; exact ⟨elem_two 48 0 y (by decide), 92, _, rfl, by decide⟩
  rw [if_neg h3]
  by_cases h4 : c = 92
  · subst h4; exact ⟨elem_two 92 92 y (by decide), 92, _, rfl, by decide⟩
  rw [if_neg h4]
  by_cases h5 : c = 39
  · subst h5; exact ⟨elem_two 39 39 y (by decide), 92, _, rfl, by decide⟩
  rw [if_neg h5]
  by_cases h6 : c = 34
  · subst h6; exact ⟨elem_two 34 34 y (by decide), 92, _, rfl, by decide⟩
  rw [if_neg h6]
  refine ⟨?_, c, y, rfl, h6⟩
  have hk : 32 ≤ c.toNat ∧ c.toNat ≤ 126 := by
    unfold okC at h
    simp only [Bool.or_eq_true, decide_eq_true_eq, beq_iff_eq] at h
    rcases h with ((h | h) | h) | h
    · exact h
    · exact absurd h h1
    · exact absurd h h2
    · exact absurd h h3
  show elemL (c :: y) = _
  simp only [elemL]
  rw [if_neg (by omega), if_pos h4]
  rfl
theorem litL_quote (y : List UInt8) : ∀ l : List UInt8, l.all okC = true → litL (qescL l ++ 34 :: y) = some (l, (qescL l).length + 1)
  | [], _ => litL_end y
  | c :: l, h => by
    simp only [List.all_cons, Bool.and_eq_true] at h
    obtain ⟨h1, d, r, h2, h3⟩ := elem_escQ c h.1 (qescL l ++ 34 :: y)
    have hl := escQ_length c
    have e : qescL (c :: l) ++ 34 :: y = d :: r := by rw [← h2]; simp [qescL]
    rw [h2] at h1
    rw [e, litL_step h3 (by rw [h1]; simp only; omega), h1, ← h2, List.drop_left, litL_quote y l h.2]
    simp only [Option.map_some, qescL, List.length_append, Nat.add_assoc]
theorem letB_34 : letB 34 = false := by decide
theorem digB_34 : digB 34 = false := by decide
theorem tokT_quote (l y : List UInt8) (h : l.all okC = true) (hl : l.length ≤ 128) : tokT (quoteL l ++ y) = .ok ((4, l, 0), (quoteL l).length) := by
  have e : quoteL l ++ y = 34 :: (qescL l ++ 34 :: y) := by simp [quoteL]
  rw [e]
  simp only [tokT, letB_34, digB_34]
  rw [if_neg (by simp), if_neg (by simp), if_neg (by decide), if_pos trivial]
  unfold textT
  rw [List.drop_succ_cons, List.drop_zero, litL_quote y l h]
  simp only
  rw [if_neg (by omega)]
  simp [quoteL]
theorem skip_char {c : UInt8} {l : List UInt8} (h1 : wsB c = false) (h2 : ¬ (c = 47 ∧ l.head? = some 47)) : skipC false (c :: l) = 0 := by
  simp only [skipC]
  rw [if_neg (by simp [h1]), if_neg h2]
theorem toks_quote (l : List UInt8) (h : l.all okC = true) (hl : l.length ≤ 128) : toks (quoteL l) = .ok [⟨4, l, 0, 0⟩] := by
  have ht := tokT_quote l [] h hl
  rw [List.append_nil] at ht
  obtain ⟨q, hq⟩ : ∃ q, (quoteL l).length = q + 1 := ⟨_, rfl⟩
  have hs : skipC false (quoteL l) = 0 := skip_char (by decide) (fun g => absurd g.1 (by decide))
  unfold toks
  simp only [toksF, hs, List.drop_zero]
  obtain ⟨r, hr⟩ : ∃ r, quoteL l = 34 :: r := ⟨_, rfl⟩
  rw [hr] at ht hq ⊢
  simp only [ht, List.drop_length, Nat.add_zero, Nat.zero_add]
  rw [hq]
  simp [toksF, skipC]
theorem toksR_quote (l : List UInt8) (h : l.all okC = true) (hl : l.length ≤ 128) : toksR (quoteL l) = ([⟨4, l, 0, 0⟩], 0, 0) := by
  have := quoteL_length l
  unfold toksR
  rw [if_neg (by omega), toks_quote l h hl]

/-! ### tokens written and read again -/
def decL (n : Nat) : List UInt8 := if n < 10 then [UInt8.ofNat (48 + n)] else decL (n / 10) ++ [UInt8.ofNat (48 + n % 10)]
termination_by n
decreasing_by omega
def writeT (t : Tok) : List UInt8 := if t.k = 3 then decL t.v.toNat else if t.k = 4 then quoteL t.t else t.t
def writeL : List Tok → List UInt8
  | [] => []
  | t :: ts => writeT t ++ 32 :: writeL ts
theorem dig_ofNat {d : Nat} (h : d < 10) : (UInt8.ofNat (48 + d)).toNat = 48 + d := by
  rw [UInt8.toNat_ofNat']; omega
theorem decL_spec : ∀ (N n : Nat), n < N → (decL n).all digB = true ∧ decL n ≠ [] ∧ decV (decL n) = n ∧ (n ≠ 0 → (decL n).head? ≠ some 48) ∧ (n < 10 → (decL n).length = 1)
  | 0, n, h => by omega
  | N + 1, n, h => by
    rw [decL]
    by_cases hn : n < 10
    · rw [if_pos hn]
      have hd := dig_ofNat hn
      refine ⟨?_, by simp, ?_, ?_, fun _ => rfl⟩
      · simp [digB]; omega
      · simp [decV]; omega
      · intro h0 h1
        simp only [List.head?_cons, Option.some.injEq] at h1
        have := congrArg UInt8.toNat h1
        rw [hd] at this
        have : 48 + n = 48 := this
        omega
    · rw [if_neg hn]
      obtain ⟨i1, i2, i3, i4, _⟩ := decL_spec N (n / 10) (by omega)
      have hd := dig_ofNat (Nat.mod_lt n (by omega : 10 > 0))
      refine ⟨?_, by simp, ?_, ?_, fun h => by omega⟩
      · rw [List.all_append, i1]
        simp [digB]; omega
      · unfold decV at i3 ⊢
        rw [List.foldl_append, i3]
        simp only [List.foldl_cons, List.foldl_nil, hd]
        omega
      · intro _
        have := i4 (by omega)
        cases hc : decL (n / 10) with
        | nil => exact absurd hc i2
        | cons c r => rw [hc] at this; simpa using this
theorem decL_length : ∀ (k n : Nat), n < 10 ^ (k + 1) → (decL n).length ≤ k + 1
  | 0, n, h => by rw [decL, if_pos (by simpa using h)]; simp
  | k + 1, n, h => by
    rw [decL]
    split
    · simp
    · have := decL_length k (n / 10) (by rw [Nat.pow_succ] at h; omega)
      simp only [List.length_append, List.length_cons, List.length_nil]
      omega
theorem decL_one (n : Nat) (h : 1 < (decL n).length) : (decL n).head? ≠ some 48 := by
  have hs := decL_spec (n + 1) n (by omega)
  by_cases h0 : n < 10
  · have := hs.2.2.2.2 h0; omega
  · exact hs.2.2.2.1 (by omega)
/-- A token that the lexer may return. -/
def wfT (t : Tok) : Prop :=
  (t.k = 1 ∧ t.t.all prtB = true ∧ t.t.head?.any letB = true ∧ t.t.length ≤ 14 ∧ kwB t.t = false ∧ t.v = 0) ∨
  (t.k = 2 ∧ kwB t.t = true ∧ t.v = 0) ∨
  (t.k = 3 ∧ t.t = [] ∧ 0 ≤ t.v ∧ t.v ≤ 2147483647) ∨
  (t.k = 4 ∧ t.t.all okC = true ∧ t.t.length ≤ 128 ∧ t.v = 0) ∨
  (t.k = 5 ∧ t.v = 0 ∧ (two.contains t.t = true ∨ ∃ c, t.t = [c] ∧ ones.contains c = true))
theorem spanN_allB (p : UInt8 → Bool) : ∀ l : List UInt8, (l.take (spanN p l)).all p = true
  | [] => rfl
  | c :: l => by
    simp only [spanN]
    split
    · rename_i h
      rw [List.take_succ_cons, List.all_cons, h, spanN_allB p l]; rfl
    · rfl
theorem spanN_one {p : UInt8 → Bool} {c : UInt8} {l : List UInt8} (h : p c = true) : spanN p (c :: l) = spanN p l + 1 := by
  simp only [spanN]; rw [if_pos h]
theorem kw_cases {l : List UInt8} (h : kwB l = true) : l = [118, 97, 114] ∨ l = [102, 117, 110, 99] ∨ l = [105, 102] ∨ l = [101, 108, 115, 101] ∨ l = [119, 104, 105, 108, 101] ∨ l = [114, 101, 116, 117, 114, 110] := by
  have := List.contains_iff_mem.1 h
  simpa [kws] using this
theorem escV_ok {c v : UInt8} (h : escV c = some v) : okC v = true := by
  unfold escV at h
  (repeat' split at h) <;> first | (cases h; decide) | cases h
theorem elem_ok {m : List UInt8} (h : (elemL m).2 ≠ 0) : okC (elemL m).1 = true := by
  match m with
  | [] => exact absurd rfl h
  | c :: r =>
    simp only [elemL] at h ⊢
    split
    · rename_i q; rw [if_pos q] at h; exact absurd rfl h
    · rename_i q
      rw [if_neg q] at h
      split
      · simp [okC]; left; left; left; omega
      · rename_i q2
        rw [if_neg q2] at h
        match r with
        | [] => exact absurd rfl h
        | d :: s =>
          simp only at h ⊢
          cases hv : escV d with
          | none => rw [hv] at h; exact absurd rfl h
          | some v => exact escV_ok hv
theorem litL_ok : ∀ (N : Nat) (m t : List UInt8) (n : Nat), m.length ≤ N → litL m = some (t, n) → t.all okC = true
  | N, [], t, n, _, h => by cases h
  | 0, c :: r, t, n, hN, _ => by simp at hN
  | N + 1, c :: r, t, n, hN, h => by
    by_cases h34 : c = 34
    · subst h34; rw [litL_end] at h; cases h; rfl
    · by_cases h0 : (elemL (c :: r)).2 = 0
      · rw [litL_bad h34 h0] at h; cases h
      · rw [litL_step h34 h0] at h
        obtain ⟨⟨t', n'⟩, h1, h2⟩ := Option.map_eq_some_iff.1 h
        cases h2
        have := litL_ok N _ t' n' (by rw [List.length_drop]; simp only [List.length_cons] at hN ⊢; omega) h1
        simp only [List.all_cons, elem_ok h0, this, Bool.and_self]
theorem tokT_wf {l : List UInt8} {k v : Int} {t : List UInt8} {n : Nat} (f : Int) (h : tokT l = .ok ((k, t, v), n)) : wfT ⟨k, t, v, f⟩ := by
  cases l with
  | nil => cases h
  | cons c r =>
    simp only [tokT] at h
    split at h
    · rename_i hc
      have hp : prtB c = true := by simp [prtB, hc]
      unfold wordT at h
      split at h
      · rename_i hk; cases h; exact .inr (.inl ⟨rfl, hk, rfl⟩)
      · rename_i hk
        split at h
        · cases h
        · rename_i h14
          cases h
          refine .inl ⟨rfl, spanN_allB _ _, ?_, ?_, by simpa using hk, rfl⟩
          · rw [spanN_one hp, List.take_succ_cons]; exact hc
          · rw [List.length_take]; omega
    · split at h
      · unfold numT at h
        split at h
        · cases h
        · split at h
          · cases h
          · rename_i hb
            cases h
            exact .inr (.inr (.inl ⟨rfl, rfl, by simp only; omega, by simp only; omega⟩))
      · split at h
        · unfold charT at h
          split at h
          · cases h
          · cases h
            refine .inr (.inr (.inl ⟨rfl, rfl, by simp only; omega, ?_⟩))
            have := (elemL ((c :: r).drop 1)).1.toNat_lt
            simp only; omega
        · split at h
          · unfold textT at h
            split at h
            · cases h
            · rename_i t' n' ht
              split at h
              · cases h
              · cases h
                exact .inr (.inr (.inr (.inl ⟨rfl, litL_ok _ _ _ _ (Nat.le_refl _) ht, by simp only; omega, rfl⟩)))
          · unfold markT at h
            split at h
            · rename_i h2; cases h; exact .inr (.inr (.inr (.inr ⟨rfl, rfl, .inl h2⟩)))
            · split at h
              · rename_i h1; cases h; exact .inr (.inr (.inr (.inr ⟨rfl, rfl, .inr ⟨c, rfl, h1⟩⟩)))
              · cases h
theorem toksF_wf : ∀ (f : Nat) (m : List UInt8) (a : Nat) (ts : List Tok), toksF f m a = .ok ts → ∀ t ∈ ts, wfT t
  | 0, m, a, ts, h => by cases h; simp
  | f + 1, m, a, ts, h => by
    simp only [toksF] at h
    split at h
    · cases h; simp
    · split at h
      · cases h
      · rename_i k t v n ht
        split at h
        · cases h
        · rename_i us hu
          cases h
          intro x hx
          rcases List.mem_cons.1 hx with rfl | hx
          · exact tokT_wf _ ht
          · exact toksF_wf f _ _ us hu x hx
theorem spanN_stop (p : UInt8 → Bool) (s : UInt8) (y : List UInt8) (hs : p s = false) : ∀ l : List UInt8, l.all p = true → spanN p (l ++ s :: y) = l.length
  | [], _ => by simp [spanN, hs]
  | c :: l, h => by
    simp only [List.all_cons, Bool.and_eq_true] at h
    rw [List.cons_append, spanN_one h.1, spanN_stop p s y hs l h.2]; rfl
theorem word_write (l y : List UInt8) (h1 : l.all prtB = true) (h2 : l.head?.any letB = true) : tokT (l ++ 32 :: y) = (if kwB l then .ok ((2, l, 0), l.length) else if 14 < l.length then .error 6 else .ok ((1, l, 0), l.length)) := by
  cases l with
  | nil => cases h2
  | cons c r =>
    have hc : letB c = true := h2
    have hs := spanN_stop prtB 32 y (by decide) (c :: r) h1
    rw [List.cons_append] at hs ⊢
    simp only [tokT]
    rw [if_pos hc]
    unfold wordT
    rw [hs, ← List.cons_append, List.take_left]
theorem dig_not_let {c : UInt8} (h : digB c = true) : letB c = false ∧ c ≠ 39 ∧ c ≠ 34 ∧ wsB c = false ∧ c ≠ 47 := by
  have key : ∀ n : Fin 256, digB (UInt8.ofNat n.val) = true → letB (UInt8.ofNat n.val) = false ∧ UInt8.ofNat n.val ≠ 39 ∧ UInt8.ofNat n.val ≠ 34 ∧ wsB (UInt8.ofNat n.val) = false ∧ UInt8.ofNat n.val ≠ 47 := by decide +kernel
  have := key ⟨c.toNat, c.toNat_lt⟩
  rw [UInt8.ofNat_toNat] at this
  exact this h
theorem let_not {c : UInt8} (h : letB c = true) : wsB c = false ∧ c ≠ 47 := by
  have key : ∀ n : Fin 256, letB (UInt8.ofNat n.val) = true → wsB (UInt8.ofNat n.val) = false ∧ UInt8.ofNat n.val ≠ 47 := by decide +kernel
  have := key ⟨c.toNat, c.toNat_lt⟩
  rw [UInt8.ofNat_toNat] at this
  exact this h
theorem num_write (n : Nat) (y : List UInt8) (hn : n ≤ 2147483647) : tokT (decL n ++ 32 :: y) = .ok ((3, [], n), (decL n).length) := by
  obtain ⟨h1, h2, h3, _, _⟩ := decL_spec (n + 1) n (by omega)
  have hl := decL_length 9 n (by omega)
  have ho := decL_one n
  generalize decL n = l at *
  cases l with
  | nil => exact absurd rfl h2
  | cons c r =>
    have hs := spanN_stop digB 32 y (by decide) (c :: r) h1
    simp only [List.all_cons, Bool.and_eq_true] at h1
    obtain ⟨q1, q2, q3, _, _⟩ := dig_not_let h1.1
    rw [List.cons_append] at hs ⊢
    simp only [tokT]
    rw [if_neg (by simp [q1]), if_pos h1.1]
    unfold numT
    rw [hs, ← List.cons_append, List.drop_left, List.take_left, h3, if_neg (by simp only [List.head?_cons, Option.any_some]; decide), if_neg]
    rintro (g | ⟨g1, g2⟩ | g)
    · omega
    · exact ho g1 g2
    · omega
theorem two_cases {l : List UInt8} (h : two.contains l = true) : l = [61, 61] ∨ l = [33, 61] ∨ l = [60, 61] ∨ l = [62, 61] ∨ l = [38, 38] ∨ l = [124, 124] := by
  have := List.contains_iff_mem.1 h
  simpa [two] using this
theorem ones_cases {c : UInt8} (h : ones.contains c = true) : c = 40 ∨ c = 41 ∨ c = 123 ∨ c = 125 ∨ c = 91 ∨ c = 93 ∨ c = 44 ∨ c = 59 ∨ c = 61 ∨ c = 43 ∨ c = 45 ∨ c = 42 ∨ c = 47 ∨ c = 37 ∨ c = 60 ∨ c = 62 ∨ c = 33 := by
  have := List.contains_iff_mem.1 h
  simpa [ones] using this
theorem two_write {l : List UInt8} (y : List UInt8) (h : two.contains l = true) : tokT (l ++ 32 :: y) = .ok ((5, l, 0), l.length) := by
  rcases two_cases h with rfl | rfl | rfl | rfl | rfl | rfl <;> rfl
theorem one_write {c : UInt8} (y : List UInt8) (h : ones.contains c = true) : tokT ([c] ++ 32 :: y) = .ok ((5, [c], 0), 1) := by
  rcases ones_cases h with rfl | rfl | rfl | rfl | rfl | rfl | rfl | rfl | rfl | rfl | rfl | rfl | rfl | rfl | rfl | rfl | rfl <;> rfl
theorem kw_word {l : List UInt8} (h : kwB l = true) : l.all prtB = true ∧ l.head?.any letB = true := by
  rcases kw_cases h with rfl | rfl | rfl | rfl | rfl | rfl <;> decide
theorem writeT_tok {t : Tok} (h : wfT t) (y : List UInt8) : tokT (writeT t ++ 32 :: y) = .ok ((t.k, t.t, t.v), (writeT t).length) ∧ ∃ c r, writeT t ++ 32 :: y = c :: r ∧ skipC false (c :: r) = 0 := by
  obtain ⟨k, t, v, f⟩ := t
  rcases h with ⟨rfl, h1, h2, h3, h4, rfl⟩ | ⟨rfl, h1, rfl⟩ | ⟨rfl, rfl, h1, h2⟩ | ⟨rfl, h1, h2, rfl⟩ | ⟨rfl, rfl, h1⟩
  · have e : writeT ⟨1, t, 0, f⟩ = t := rfl
    simp only at h1 h2 h3 h4
    rw [e]
    refine ⟨by rw [word_write t y h1 h2, if_neg (by simp [h4]), if_neg (by omega)], ?_⟩
    cases t with
    | nil => cases h2
    | cons c r => have := let_not (show letB c = true from h2); exact ⟨c, _, rfl, skip_char this.1 (fun g => this.2 g.1)⟩
  · have e : writeT ⟨2, t, 0, f⟩ = t := rfl
    simp only at h1
    obtain ⟨w1, w2⟩ := kw_word h1
    rw [e]
    refine ⟨by rw [word_write t y w1 w2, if_pos h1], ?_⟩
    cases t with
    | nil => cases w2
    | cons c r => have := let_not (show letB c = true from w2); exact ⟨c, _, rfl, skip_char this.1 (fun g => this.2 g.1)⟩
  · simp only at h1 h2
    obtain ⟨n, rfl⟩ := Int.eq_ofNat_of_zero_le h1
    have e : writeT ⟨3, [], (n : Int), f⟩ = decL n := rfl
    rw [e]
    refine ⟨num_write n y (by omega), ?_⟩
    obtain ⟨g1, g2, _⟩ := decL_spec (n + 1) n (by omega)
    generalize decL n = l at *
    cases l with
    | nil => exact absurd rfl g2
    | cons c r =>
      simp only [List.all_cons, Bool.and_eq_true] at g1
      obtain ⟨_, _, _, q4, q5⟩ := dig_not_let g1.1
      exact ⟨c, _, rfl, skip_char q4 (fun g => q5 g.1)⟩
  · have e : writeT ⟨4, t, 0, f⟩ = quoteL t := rfl
    simp only at h1 h2
    rw [e]
    exact ⟨tokT_quote t _ h1 h2, 34, _, rfl, skip_char (by decide) (fun g => absurd g.1 (by decide))⟩
  · have e : writeT ⟨5, t, 0, f⟩ = t := rfl
    simp only at h1
    rw [e]
    rcases h1 with h1 | ⟨c, rfl, h1⟩
    · refine ⟨two_write y h1, ?_⟩
      rcases two_cases h1 with rfl | rfl | rfl | rfl | rfl | rfl <;> exact ⟨_, _, rfl, rfl⟩
    · refine ⟨one_write y h1, c, 32 :: y, rfl, ?_⟩
      rcases ones_cases h1 with rfl | rfl | rfl | rfl | rfl | rfl | rfl | rfl | rfl | rfl | rfl | rfl | rfl | rfl | rfl | rfl | rfl <;> rfl
theorem toksF_blank (f : Nat) (m : List UInt8) (a : Nat) : toksF f (32 :: m) a = toksF f m (a + 1) := by
  cases f with
  | zero => rfl
  | succ f =>
    have hs : skipC false (32 :: m) = skipC false m + 1 := by simp [skipC, wsB]
    simp only [toksF, hs, List.drop_succ_cons]
    rw [show a + (skipC false m + 1) = a + 1 + skipC false m from by omega]
theorem toksF_write : ∀ (ts : List Tok) (f a : Nat), (∀ t ∈ ts, wfT t) → (writeL ts).length < f → ∃ us, toksF f (writeL ts) a = .ok us ∧ sameL false us ts = true
  | ts, 0, a, _, h => by omega
  | [], f + 1, a, _, _ => ⟨[], rfl, rfl⟩
  | t :: ts, f + 1, a, hw, hf => by
    obtain ⟨h1, c, r, h2, h3⟩ := writeT_tok (hw t (List.mem_cons_self ..)) (writeL ts)
    have e : writeL (t :: ts) = c :: r := h2
    have hlen : (writeL (t :: ts)).length = (writeT t).length + 1 + (writeL ts).length := by simp [writeL]; omega
    have hpos : 0 < (writeT t).length ∨ (writeT t).length = 0 := by omega
    obtain ⟨us, h4, h5⟩ := toksF_write ts f (a + (writeT t).length + 1) (fun x hx => hw x (List.mem_cons_of_mem _ hx)) (by omega)
    refine ⟨⟨t.k, t.t, t.v, (a : Nat)⟩ :: us, ?_, ?_⟩
    · rw [h2] at h1
      rw [e]
      simp only [toksF, h3, List.drop_zero, h1, Nat.add_zero]
      rw [← h2, List.drop_left, toksF_blank, h4]
    · show (sameT false _ t && sameL false us ts) = true
      rw [h5]
      simp [sameT]
/-- The tokens of a program, written with a blank behind each, are read again. -/
theorem toks_again {l : List UInt8} {ts : List Tok} (h : toks l = .ok ts) (hw : (writeL ts).length ≤ 4000) : ∃ us, toksR (writeL ts) = (us, 0, 0) ∧ sameL false us ts = true := by
  obtain ⟨us, h1, h2⟩ := toksF_write ts ((writeL ts).length + 1) 0 (toksF_wf _ _ _ _ h) (by omega)
  refine ⟨us, ?_, h2⟩
  unfold toksR toks
  rw [if_neg (by omega), h1]
end Go.Proofs.YtbfjopknhlnbcaaDoor
