/-
  Plain: the notation of plans.
-/
import Derived.Lib.ItoaNum
import Derived.Lib.AtoiAll
import Derived.Lib.Join
import Derived.Lib.Fields
import Derived.Test.YtfjddphjjhhjpaaDoorFcAttD
namespace Go.Proofs.YtfjddphjjhhjpaaDoor
set_option linter.unusedVariables false

/-! ### digits -/
def dgB (c : UInt8) : Bool := decide (48 ≤ c.toNat ∧ c.toNat ≤ 57)
def decV (l : List UInt8) : Nat := l.foldl (fun v c => v * 10 + (c.toNat - 48)) 0
theorem dig_ofNat {d : Nat} (h : d < 10) : (UInt8.ofNat (48 + d)).toNat = 48 + d := by
  rw [UInt8.toNat_ofNat']; omega
theorem dec_step (n : Nat) : Lib.decDigits n = if n < 10 then [UInt8.ofNat (48 + n)] else Lib.decDigits (n / 10) ++ [UInt8.ofNat (48 + n % 10)] := by
  rw [Lib.decDigits]
  split <;> rfl
theorem dec_spec : ∀ (N n : Nat), n < N → (Lib.decDigits n).all dgB = true ∧ Lib.decDigits n ≠ [] ∧ decV (Lib.decDigits n) = n
  | 0, n, h => by omega
  | N + 1, n, h => by
    rw [dec_step]
    by_cases hn : n < 10
    · rw [if_pos hn]
      have hd := dig_ofNat hn
      refine ⟨?_, by simp, ?_⟩
      · simp [dgB]; omega
      · simp [decV]; omega
    · rw [if_neg hn]
      obtain ⟨i1, i2, i3⟩ := dec_spec N (n / 10) (by omega)
      have hd := dig_ofNat (Nat.mod_lt n (by omega : 10 > 0))
      refine ⟨?_, by simp, ?_⟩
      · rw [List.all_append, i1]
        simp [dgB]; omega
      · unfold decV at i3 ⊢
        rw [List.foldl_append, i3]
        simp only [List.foldl_cons, List.foldl_nil, hd]
        omega
theorem dec_length : ∀ (k n : Nat), n < 10 ^ (k + 1) → (Lib.decDigits n).length ≤ k + 1
  | 0, n, h => by rw [dec_step, if_pos (by simpa using h)]; simp
  | k + 1, n, h => by
    rw [dec_step]
    split
    · simp
    · have := dec_length k (n / 10) (by rw [Nat.pow_succ] at h; omega)
      simp only [List.length_append, List.length_cons, List.length_nil]
      omega
theorem dec_inj {a b : Nat} (h : Lib.decDigits a = Lib.decDigits b) : a = b := by
  have h1 := (dec_spec (a + 1) a (by omega)).2.2
  have h2 := (dec_spec (b + 1) b (by omega)).2.2
  rw [h] at h1
  omega
theorem parse10_snoc : ∀ (l : List UInt8) (acc u d : Nat), Lib.parseUint10 acc l = .ok u → d < 10 → u * 10 + d < 18446744073709551616 → u < 1844674407370955162 → Lib.parseUint10 acc (l ++ [UInt8.ofNat (48 + d)]) = .ok (u * 10 + d)
  | [], acc, u, d, h, hd, hb, hu => by
    simp only [Lib.parseUint10, List.nil_append] at h ⊢
    injection h with h
    subst h
    have he := dig_ofNat hd
    rw [he, if_pos (by omega), if_neg (by omega), if_neg (by omega)]
    congr 1; omega
  | c :: r, acc, u, d, h, hd, hb, hu => by
    simp only [Lib.parseUint10, List.cons_append] at h ⊢
    split at h
    · rename_i hc
      rw [if_pos hc]
      split at h
      · cases h
      · rename_i h1
        rw [if_neg h1]
        split at h
        · cases h
        · rename_i h2
          rw [if_neg h2]
          exact parse10_snoc r _ u d h hd hb hu
    · cases h
theorem parse10_dec : ∀ (N n : Nat), n < N → n ≤ 9223372036854775807 → Lib.parseUint10 0 (Lib.decDigits n) = .ok n
  | 0, n, h, _ => by omega
  | N + 1, n, h, hb => by
    rw [dec_step]
    by_cases hn : n < 10
    · rw [if_pos hn]
      have := parse10_snoc [] 0 0 n rfl hn (by omega) (by omega)
      simpa using this
    · rw [if_neg hn]
      have ih := parse10_dec N (n / 10) (by omega) (by omega)
      have := parse10_snoc _ 0 (n / 10) (n % 10) ih (Nat.mod_lt _ (by omega)) (by omega) (by omega)
      rw [this]
      congr 1; omega
theorem atoi_dec (n : Nat) (hb : n ≤ 9223372036854775807) : Lib.atoiAll (Lib.decDigits n) = .ok (n : Int) := by
  obtain ⟨h1, h2, _⟩ := dec_spec (n + 1) n (by omega)
  have h3 := parse10_dec (n + 1) n (by omega) hb
  generalize Lib.decDigits n = l at *
  cases l with
  | nil => exact absurd rfl h2
  | cons c r =>
    simp only [List.all_cons, Bool.and_eq_true, dgB, decide_eq_true_eq] at h1
    obtain ⟨h1, _⟩ := h1
    simp only [Lib.atoiAll]
    rw [if_neg (by omega)]
    have hm : Lib.parseMag (c :: r) = .ok n := by unfold Lib.parseMag; rw [if_neg (by simp), h3]
    rw [hm]
    simp only
    rw [if_neg (by omega), if_neg (by omega), if_neg (by omega)]

/-! ### words -/
def okW (w : List UInt8) : Prop := w ≠ [] ∧ ∀ c ∈ w, 33 ≤ c.toNat ∧ c.toNat ≤ 126
theorem okW_dec (n : Nat) : okW (Lib.decDigits n) := by
  obtain ⟨h1, h2, _⟩ := dec_spec (n + 1) n (by omega)
  refine ⟨h2, fun c hc => ?_⟩
  have := List.all_eq_true.1 h1 c hc
  simp only [dgB, decide_eq_true_eq] at this
  omega
/-- The words between single spaces. -/
def splitGo : List UInt8 → List UInt8 → List (List UInt8)
  | cur, [] => [cur]
  | cur, c :: l => if c = 32 then cur :: splitGo [] l else splitGo (cur ++ [c]) l
def splitS (l : List UInt8) : List (List UInt8) := splitGo [] l
theorem splitGo_word : ∀ (x cur r : List UInt8), (∀ c ∈ x, c ≠ 32) → splitGo cur (x ++ r) = splitGo (cur ++ x) r
  | [], cur, r, _ => by simp
  | c :: x, cur, r, h => by
    have hc : c ≠ 32 := h c (List.mem_cons_self ..)
    rw [List.cons_append]
    simp only [splitGo]
    rw [if_neg hc, splitGo_word x _ r (fun d hd => h d (List.mem_cons_of_mem _ hd))]
    simp
theorem okW_ne {w : List UInt8} (h : okW w) : ∀ c ∈ w, c ≠ 32 := fun c hc e => by
  have := (h.2 c hc).1
  subst e
  exact absurd this (by decide)
theorem okW_sp {w : List UInt8} (h : okW w) : ∀ c ∈ w, Lib.isSp c = false := fun c hc => by
  have h1 := (h.2 c hc).1
  unfold Lib.isSp
  simp only [Bool.or_eq_false_iff, beq_eq_false_iff_ne]
  refine ⟨⟨⟨⟨⟨?_, ?_⟩, ?_⟩, ?_⟩, ?_⟩, ?_⟩ <;> (intro e; subst e; exact absurd h1 (by decide))
theorem joinTail_cons (x : List UInt8) (r : List (List UInt8)) : Lib.joinTail [32] (x :: r) = 32 :: (x ++ Lib.joinTail [32] r) := by
  simp [Lib.joinTail]
theorem split_join : ∀ (r : List (List UInt8)) (cur x : List UInt8), okW x → (∀ w ∈ r, okW w) → splitGo cur (x ++ Lib.joinTail [32] r) = (cur ++ x) :: r
  | [], cur, x, hx, _ => by
    rw [splitGo_word x cur _ (okW_ne hx)]
    simp [Lib.joinTail, splitGo]
  | y :: r, cur, x, hx, hr => by
    rw [splitGo_word x cur _ (okW_ne hx), joinTail_cons]
    simp only [splitGo, if_true]
    rw [split_join r [] y (hr y (List.mem_cons_self ..)) (fun w hw => hr w (List.mem_cons_of_mem _ hw))]
    rfl
theorem fieldsGo_word : ∀ (x cur r : List UInt8), (∀ c ∈ x, Lib.isSp c = false) → Lib.fieldsGo cur (x ++ r) = Lib.fieldsGo (cur ++ x) r
  | [], cur, r, _ => by simp
  | c :: x, cur, r, h => by
    have hc := h c (List.mem_cons_self ..)
    rw [List.cons_append]
    simp only [Lib.fieldsGo]
    rw [if_neg (by rw [hc]; simp), fieldsGo_word x _ r (fun d hd => h d (List.mem_cons_of_mem _ hd))]
    simp
theorem isEmpty_of {w cur : List UInt8} (h : okW w) : (cur ++ w).isEmpty = false := by
  have := h.1
  cases w with
  | nil => exact absurd rfl this
  | cons c w => cases cur <;> rfl
theorem fields_join : ∀ (r : List (List UInt8)) (cur x : List UInt8), okW x → (∀ w ∈ r, okW w) → Lib.fieldsGo cur (x ++ Lib.joinTail [32] r) = (cur ++ x) :: r
  | [], cur, x, hx, _ => by
    rw [fieldsGo_word x cur _ (okW_sp hx)]
    simp only [Lib.joinTail, List.map_nil, List.flatten_nil, Lib.fieldsGo]
    rw [if_neg (by rw [isEmpty_of hx]; simp)]
  | y :: r, cur, x, hx, hr => by
    rw [fieldsGo_word x cur _ (okW_sp hx), joinTail_cons]
    simp only [Lib.fieldsGo]
    rw [if_pos (by rfl), if_neg (by rw [isEmpty_of hx]; simp), fields_join r [] y (hr y (List.mem_cons_self ..)) (fun w hw => hr w (List.mem_cons_of_mem _ hw))]
    rfl

/-! ### the notation of plans -/
def namesL : List (List UInt8) := [[110, 111, 110, 101], [115, 116, 111, 112], [108, 111, 111, 112], [116, 111, 117, 99, 104], [102, 108, 105, 112, 45, 105, 109, 97, 103, 101], [102, 108, 105, 112, 45, 109, 101, 115, 115, 97, 103, 101], [102, 108, 105, 112, 45, 114, 101, 115, 117, 108, 116], [102, 108, 105, 112, 45, 101, 102, 102, 101, 99, 116, 115], [99, 117, 116], [97, 103, 97, 105, 110]]
def nameK (k : Int) : List UInt8 := namesL.getD k.toNat []
def usedL (x : Pl) : List Int := if inB x.k 1 3 then [x.e, x.s] else if inB x.k 4 7 then [x.e, x.p, x.m] else if x.k = 8 then [x.s] else []
def decI (n : Int) : List UInt8 := Lib.decDigits n.toNat
/-- The words of the notation of a plan of a kind. -/
def wordsP (x : Pl) : List (List UInt8) := decI x.c :: decI x.n :: nameK x.k :: (usedL x).map decI
def printL (x : Pl) : List UInt8 := if x.k = 0 then [110, 111, 110, 101] else Lib.join (wordsP x) [32]
/-- The words that Fields finds in a notation. -/
def wordsF (x : Pl) : List (List UInt8) := if x.k = 0 then [[110, 111, 110, 101]] else wordsP x
theorem inB_iff {n l m : Int} : inB n l m = true ↔ l ≤ n ∧ n ≤ m := by unfold inB; simp
/-- What a valid plan is, by its kind. -/
theorem valid_ways {x : Pl} (h : validPl x = true) :
    (x = ⟨0, 0, 0, 0, 0, 0, 0⟩) ∨
    ((1 ≤ x.c ∧ x.c ≤ 10) ∧ (1 ≤ x.n ∧ x.n ≤ 1000000) ∧
      (((1 ≤ x.k ∧ x.k ≤ 3) ∧ (0 ≤ x.e ∧ x.e ≤ 1) ∧ (0 ≤ x.s ∧ x.s ≤ 4000) ∧ x.p = 0 ∧ x.m = 0) ∨
       ((4 ≤ x.k ∧ x.k ≤ 7) ∧ (0 ≤ x.e ∧ x.e ≤ 1) ∧ x.s = 0 ∧ (0 ≤ x.p ∧ x.p ≤ 24000) ∧ (1 ≤ x.m ∧ x.m ≤ 255)) ∨
       (x.k = 8 ∧ x.e = 0 ∧ (0 ≤ x.s ∧ x.s ≤ 4000) ∧ x.p = 0 ∧ x.m = 0) ∨
       (x.k = 9 ∧ x.e = 0 ∧ x.s = 0 ∧ x.p = 0 ∧ x.m = 0))) := by
  obtain ⟨c, n, e, k, s, p, m⟩ := x
  unfold validPl at h
  simp only at h ⊢
  split at h
  · rename_i hk
    simp only [Bool.and_eq_true, beq_iff_eq] at h
    obtain ⟨rfl, rfl, rfl, rfl, rfl, rfl⟩ := h
    subst hk
    exact .inl rfl
  · rename_i hk
    split at h
    · cases h
    · rename_i hc
      split at h
      · cases h
      · rename_i hn
        rw [Bool.not_eq_false, inB_iff] at hc hn
        refine .inr ⟨hc, hn, ?_⟩
        split at h
        · rename_i h1
          rw [inB_iff] at h1
          simp only [Bool.and_eq_true, beq_iff_eq, inB_iff] at h
          obtain ⟨q1, q2, q3, q4⟩ := h
          exact .inl ⟨h1, q1, q2, q3, q4⟩
        · split at h
          · rename_i h1
            rw [inB_iff] at h1
            simp only [Bool.and_eq_true, beq_iff_eq, inB_iff] at h
            obtain ⟨q1, q2, q3, q4⟩ := h
            exact .inr (.inl ⟨h1, q1, q2, q3, q4⟩)
          · split at h
            · rename_i h1
              simp only [Bool.and_eq_true, beq_iff_eq, inB_iff] at h h1
              obtain ⟨q1, q2, q3, q4⟩ := h
              exact .inr (.inr (.inl ⟨h1, q1, q2, q3, q4⟩))
            · simp only [Bool.and_eq_true, beq_iff_eq] at h
              obtain ⟨q0, q1, q2, q3, q4⟩ := h
              exact .inr (.inr (.inr ⟨q0, q1, q2, q3, q4⟩))
theorem kind_ways {k : Int} (h : 1 ≤ k ∧ k ≤ 9) : k = 1 ∨ k = 2 ∨ k = 3 ∨ k = 4 ∨ k = 5 ∨ k = 6 ∨ k = 7 ∨ k = 8 ∨ k = 9 := by omega
theorem valid_kind {x : Pl} (h : validPl x = true) (hk : x.k ≠ 0) : 1 ≤ x.k ∧ x.k ≤ 9 := by
  rcases valid_ways h with h | ⟨_, _, h | h | h | h⟩
  · subst h; exact absurd rfl hk
  · omega
  · omega
  · omega
  · omega
theorem okW_name {k : Int} (h : 1 ≤ k ∧ k ≤ 9) : okW (nameK k) := by
  rcases kind_ways h with rfl | rfl | rfl | rfl | rfl | rfl | rfl | rfl | rfl <;> exact ⟨by decide, by decide⟩
theorem okW_words {x : Pl} (h : 1 ≤ x.k ∧ x.k ≤ 9) : ∀ w ∈ wordsP x, okW w := by
  intro w hw
  unfold wordsP at hw
  simp only [List.mem_cons, List.mem_map] at hw
  rcases hw with rfl | rfl | rfl | ⟨n, _, rfl⟩
  · exact okW_dec _
  · exact okW_dec _
  · exact okW_name h
  · exact okW_dec _
theorem split_print {x : Pl} (h : 1 ≤ x.k ∧ x.k ≤ 9) : splitS (printL x) = wordsP x := by
  have ho := okW_words h
  unfold printL splitS
  rw [if_neg (by omega)]
  unfold wordsP at ho ⊢
  rw [Lib.join_cons, split_join _ _ _ (ho _ (List.mem_cons_self ..)) (fun w hw => ho w (List.mem_cons_of_mem _ hw))]
  rfl
theorem fields_print {x : Pl} (h : validPl x = true) : Lib.fields (printL x) = wordsF x := by
  unfold wordsF
  by_cases hk : x.k = 0
  · rw [if_pos hk]
    unfold printL
    rw [if_pos hk]
    decide
  · have ho := okW_words (valid_kind h hk)
    rw [if_neg hk]
    unfold printL Lib.fields
    rw [if_neg hk]
    unfold wordsP at ho ⊢
    rw [Lib.join_cons, fields_join _ _ _ (ho _ (List.mem_cons_self ..)) (fun w hw => ho w (List.mem_cons_of_mem _ hw))]
    rfl
theorem decI_inj {a b : Int} (ha : 0 ≤ a) (hb : 0 ≤ b) (h : decI a = decI b) : a = b := by
  have := dec_inj h
  omega
theorem name_inj {a b : Int} (ha : 1 ≤ a ∧ a ≤ 9) (hb : 1 ≤ b ∧ b ≤ 9) (h : nameK a = nameK b) : a = b := by
  rcases kind_ways ha with rfl | rfl | rfl | rfl | rfl | rfl | rfl | rfl | rfl <;> rcases kind_ways hb with rfl | rfl | rfl | rfl | rfl | rfl | rfl | rfl | rfl <;> first | rfl | exact absurd h (by decide)
/-- A plan out of its words: the fields that are used are read, the others are 0. -/
theorem words_inj {x y : Pl} (hx : validPl x = true) (hy : validPl y = true) (kx : x.k ≠ 0) (ky : y.k ≠ 0) (h : wordsP x = wordsP y) : x = y := by
  have gx := valid_kind hx kx
  have gy := valid_kind hy ky
  unfold wordsP at h
  simp only [List.cons.injEq] at h
  obtain ⟨h1, h2, h3, h4⟩ := h
  have hk := name_inj gx gy h3
  obtain ⟨c, n, e, k, s, p, m⟩ := x
  obtain ⟨c', n', e', k', s', p', m'⟩ := y
  simp only at hk h1 h2 kx ky gx gy
  subst hk
  have hux := valid_ways hx
  have huy := valid_ways hy
  simp only [Pl.mk.injEq] at hux huy
  rcases hux with hux | ⟨bx1, bx2, hux⟩
  · exact absurd hux.2.2.2.1 kx
  rcases huy with huy | ⟨by1, by2, huy⟩
  · exact absurd huy.2.2.2.1 ky
  have e1 : c = c' := decI_inj (by omega) (by omega) h1
  have e2 : n = n' := decI_inj (by omega) (by omega) h2
  subst e1 e2
  unfold usedL at h4
  simp only at h4
  by_cases k1 : inB k 1 3 = true
  · rw [if_pos k1, if_pos k1] at h4
    rw [inB_iff] at k1
    simp only [List.map_cons, List.map_nil, List.cons.injEq, and_true] at h4
    have a1 : e = e' := decI_inj (by omega) (by omega) h4.1
    have a2 : s = s' := decI_inj (by omega) (by omega) h4.2
    have a3 : p = p' := by omega
    have a4 : m = m' := by omega
    subst a1 a2 a3 a4; rfl
  · rw [if_neg k1, if_neg k1] at h4
    rw [inB_iff] at k1
    by_cases k2 : inB k 4 7 = true
    · rw [if_pos k2, if_pos k2] at h4
      rw [inB_iff] at k2
      simp only [List.map_cons, List.map_nil, List.cons.injEq, and_true] at h4
      have a1 : e = e' := decI_inj (by omega) (by omega) h4.1
      have a2 : p = p' := decI_inj (by omega) (by omega) h4.2.1
      have a3 : m = m' := decI_inj (by omega) (by omega) h4.2.2
      have a4 : s = s' := by omega
      subst a1 a2 a3 a4; rfl
    · rw [if_neg k2, if_neg k2] at h4
      rw [inB_iff] at k2
      by_cases k3 : k = 8
      · rw [if_pos k3, if_pos k3] at h4
        simp only [List.map_cons, List.map_nil, List.cons.injEq, and_true] at h4
        have a1 : s = s' := decI_inj (by omega) (by omega) h4
        have a2 : e = e' := by omega
        have a3 : p = p' := by omega
        have a4 : m = m' := by omega
        subst a1 a2 a3 a4; rfl
      · have a1 : e = e' := by omega
        have a2 : s = s' := by omega
        have a3 : p = p' := by omega
        have a4 : m = m' := by omega
        subst a1 a2 a3 a4; rfl
theorem wordsF_inj {x y : Pl} (hx : validPl x = true) (hy : validPl y = true) (h : wordsF x = wordsF y) : x = y := by
  unfold wordsF at h
  by_cases kx : x.k = 0
  · by_cases ky : y.k = 0
    · rcases valid_ways hx with hx | hx
      · rcases valid_ways hy with hy | hy
        · rw [hx, hy]
        · omega
      · omega
    · rw [if_pos kx, if_neg ky] at h
      unfold wordsP at h
      simp at h
  · by_cases ky : y.k = 0
    · rw [if_neg kx, if_pos ky] at h
      unfold wordsP at h
      simp at h
    · rw [if_neg kx, if_neg ky] at h
      exact words_inj hx hy kx ky h
theorem print_inj {x y : Pl} (hx : validPl x = true) (hy : validPl y = true) (h : printL x = printL y) : x = y := by
  have h1 := fields_print hx
  have h2 := fields_print hy
  rw [h] at h1
  exact wordsF_inj hx hy (h1.symm.trans h2)
/-- What Parse returns for a string. -/
def ParseP (s : List UInt8) (v : Pl) (e : Int) : Prop := (validPl v = true ∧ printL v = s ∧ e = 0) ∨ (v = ⟨0, 0, 0, 0, 0, 0, 0⟩ ∧ e = 3 ∧ ∀ x, validPl x = true → printL x ≠ s)
theorem ParseP.unique {s : List UInt8} {v u : Pl} {e f : Int} (h : ParseP s v e) (g : ParseP s u f) : v = u ∧ e = f := by
  rcases h with ⟨h1, h2, h3⟩ | ⟨h1, h2, h3⟩ <;> rcases g with ⟨g1, g2, g3⟩ | ⟨g1, g2, g3⟩
  · exact ⟨print_inj h1 g1 (h2.trans g2.symm), h3.trans g3.symm⟩
  · exact absurd h2 (g3 _ h1)
  · exact absurd g2 (h3 _ g1)
  · exact ⟨h1.trans g1.symm, h2.trans g2.symm⟩
end Go.Proofs.YtfjddphjjhhjpaaDoor
