/-
  Plain laws of patches: what Diff makes is valid; what Apply makes of a valid patch; the patch from an image to another one leads there.
-/
import Derived.Test.YtfcmngiekdhfpaaImgE
namespace Go.Proofs.Ytfcmngiekdhfpaa
set_option linter.unusedVariables false

theorem pageL_take (l : List UInt8) (n k : Nat) (h : (k + 1) * 128 ≤ n) : pageL (l.take n) k = pageL l k := by
  unfold pageL
  rw [List.drop_take, List.take_take]
  congr 1
  omega
theorem eq_of_pages {l m : List UInt8} (hl : l.length = m.length) (h : ∀ k, k < cntN l.length → pageL l k = pageL m k) : l = m := by
  apply List.ext_getElem? 
  intro i
  by_cases hi : i < l.length
  · have hk : i / 128 < cntN l.length := by unfold cntN cnt; split <;> omega
    have := congrArg (fun p => p[i % 128]?) (h _ hk)
    simp only [pageL, List.getElem?_take, List.getElem?_drop] at this
    rw [if_pos (by omega), if_pos (by omega), show i / 128 * 128 + i % 128 = i from by omega] at this
    exact this
  · rw [List.getElem?_eq_none (by omega), List.getElem?_eq_none (by omega)]
theorem pageL_out (l : List UInt8) (k : Nat) (h : cntN l.length ≤ k) : pageL l k = [] := by
  unfold pageL
  rw [List.drop_of_length_le]
  · rfl
  · unfold cntN cnt at h; split at h <;> omega
theorem cntN_int (n : Nat) : (cnt n).toNat = cntN n := rfl
theorem szI_len (l : List UInt8) (k : Nat) : szI l.length k = (pageL l k).length := szI_nat l k

theorem ordOk_snoc (len last : Int) (cs : List Chg) (x : Chg) (h : ordOk len last cs = true) (h1 : ∀ c ∈ cs, c.1 < x.1) (h2 : last < x.1) (h3 : x.1 < cnt len) (h4 : (x.2.length : Int) = szI len x.1) : ordOk len last (cs ++ [x]) = true := by
  induction cs generalizing last with
  | nil => simp only [List.nil_append, ordOk]; rw [if_neg (by omega)]
  | cons c l ih =>
    simp only [List.cons_append, ordOk] at h ⊢
    split at h
    · cases h
    · rename_i hc
      rw [if_neg hc]
      exact ih _ h (fun d hd => h1 d (List.mem_cons_of_mem _ hd)) (h1 c (List.mem_cons_self ..))
theorem fb_append (l m : List Chg) (k : Int) : fb (l ++ m) k = (fb l k || fb m k) := by
  induction l with
  | nil => rfl
  | cons c l ih => simp only [List.cons_append, fb]; split <;> simp [ih]
theorem fd_append (l m : List Chg) (k : Int) : fd (l ++ m) k = if fb l k then fd l k else fd m k := by
  induction l with
  | nil => rfl
  | cons c l ih => simp only [List.cons_append, fb, fd]; split <;> simp [ih]
theorem diffTo_lt (a b : List UInt8) : ∀ m, ∀ c ∈ diffTo a b m, c.1 < m ∧ 0 ≤ c.1
  | 0, c, h => by cases h
  | m + 1, c, h => by
    simp only [diffTo] at h
    split at h
    · have := diffTo_lt a b m c h; omega
    · rcases List.mem_append.1 h with h | h
      · have := diffTo_lt a b m c h; omega
      · simp only [List.mem_singleton] at h; subst h; simp; omega
theorem fb_none (cs : List Chg) (k : Int) (h : ∀ c ∈ cs, c.1 ≠ k) : fb cs k = false := by
  induction cs with
  | nil => rfl
  | cons c l ih => simp only [fb]; rw [if_neg (h c (List.mem_cons_self ..))]; exact ih fun d hd => h d (List.mem_cons_of_mem _ hd)
theorem fb_diffTo (a b : List UInt8) (k : Nat) : ∀ m, fb (diffTo a b m) k = (decide (k < m) && decide (pageL a k ≠ pageL b k))
  | 0 => by simp [diffTo, fb]
  | m + 1 => by
    simp only [diffTo]
    by_cases hk : k = m
    · subst hk
      have h0 : fb (diffTo a b k) k = false := fb_none _ _ fun c hc => by have := (diffTo_lt a b k c hc).1; omega
      by_cases h : pageL a k = pageL b k
      · rw [if_pos h, h0]; simp [h]
      · rw [if_neg h, fb_append, h0]; simp [fb, h]
    · have e : decide (k < m + 1) = decide (k < m) := by simp; omega
      rw [e]
      split
      · exact fb_diffTo a b k m
      · rw [fb_append, fb_diffTo a b k m]
        simp only [fb]
        rw [if_neg (by show ¬ ((m : Nat) : Int) = k; omega)]
        simp
theorem fd_diffTo (a b : List UInt8) (k : Nat) : ∀ m, fb (diffTo a b m) k = true → fd (diffTo a b m) k = pageL b k
  | 0, h => by simp [diffTo, fb] at h
  | m + 1, h => by
    simp only [diffTo] at h ⊢
    by_cases hp : pageL a m = pageL b m
    · rw [if_pos hp] at h ⊢; exact fd_diffTo a b k m h
    · rw [if_neg hp] at h ⊢
      rw [fd_append]
      by_cases h0 : fb (diffTo a b m) k = true
      · rw [if_pos h0]; exact fd_diffTo a b k m h0
      · rw [if_neg h0]
        rw [fb_append] at h
        simp only [Bool.not_eq_true] at h0
        rw [h0] at h
        simp only [fb, Bool.false_or] at h
        split at h
        · rename_i e
          simp only [fd]
          rw [if_pos e]
          have : m = k := by omega
          rw [this]
        · cases h
theorem diffTo_ord (a b : List UInt8) : ∀ m, m ≤ cntN b.length → ordOk b.length (-1) (diffTo a b m) = true
  | 0, _ => rfl
  | m + 1, hm => by
    simp only [diffTo]
    split
    · exact diffTo_ord a b m (by omega)
    · have := cntN_cast b.length
      refine ordOk_snoc _ _ _ _ (diffTo_ord a b m (by omega)) (fun c hc => (diffTo_lt a b m c hc).1) (by show (-1 : Int) < ((m : Nat) : Int); omega) (by show ((m : Nat) : Int) < _; omega) ?_
      show ((pageL b m).length : Int) = szI b.length ((m : Nat) : Int)
      rw [szI_len]
theorem covTo_of {len n : Int} {cs : List Chg} : ∀ {m : Nat}, (∀ k, k < m → fb cs k = true ∨ szI n k = szI len k) → covTo len n cs m = true
  | 0, _ => rfl
  | m + 1, h => by
    simp only [covTo]
    rw [covTo_of (fun k hk => h k (by omega))]
    rcases h m (by omega) with h | h <;> simp [h]
theorem of_covTo {len n : Int} {cs : List Chg} : ∀ {m : Nat}, covTo len n cs m = true → ∀ k, k < m → fb cs k = true ∨ szI n k = szI len k
  | 0, _, k, hk => by omega
  | m + 1, h, k, hk => by
    simp only [covTo, Bool.and_eq_true, Bool.or_eq_true, beq_iff_eq] at h
    by_cases hkm : k = m
    · subst hkm; exact h.2
    · exact of_covTo h.1 k (by omega)
/-- What Diff makes is valid. -/
theorem valid_diff (a b : List UInt8) (h : b.length ≤ 24000) : validP b.length (diffL a b) a.length = true := by
  unfold validP
  have h1 : lenOk b.length a.length = true := by unfold lenOk; simp; omega
  rw [h1, Bool.true_and, cntN_int]
  have h2 : ordOk b.length (-1) (diffL a b) = true := diffTo_ord a b _ (Nat.le_refl _)
  rw [h2, Bool.true_and]
  refine covTo_of fun k hk => ?_
  by_cases hp : pageL a k = pageL b k
  · right; rw [szI_len, szI_len, hp]
  · left; unfold diffL; rw [fb_diffTo]; simp [hk, hp]

/-! ### Apply -/
def spl (out : List UInt8) (o : Nat) (d : List UInt8) : List UInt8 := out.take o ++ (d ++ out.drop (o + d.length))
theorem spl_length (out : List UInt8) (o : Nat) (d : List UInt8) (h : o + d.length ≤ out.length) : (spl out o d).length = out.length := by simp [spl]; omega
def base0 (a : List UInt8) (len : Nat) : List UInt8 := spl (List.replicate len 0) 0 (a.take len)
theorem base0_length (a : List UInt8) (len : Nat) : (base0 a len).length = len := by
  unfold base0
  rw [spl_length _ _ _ (by simp; omega)]
  simp
def appl (out : List UInt8) (cs : List Chg) : List UInt8 := cs.foldl (fun o c => spl o (c.1.toNat * 128) c.2) out
theorem pageL_spl (out : List UInt8) (p k : Nat) (d : List UInt8) (hd : d.length = (pageL out p).length) : pageL (spl out (p * 128) d) k = if k = p then d else pageL out k := by
  rw [pageL_length] at hd
  by_cases hpl : p * 128 ≤ out.length
  · apply List.ext_getElem?
    intro i
    simp only [pageL, spl, List.getElem?_take, List.getElem?_drop, List.getElem?_append, List.length_take]
    by_cases hk : k = p
    · subst hk
      rw [if_pos rfl]
      by_cases hi : i < 128
      · rw [if_pos hi, if_neg (by omega)]
        by_cases hid : i < d.length
        · rw [if_pos (by omega)]
          congr 1
          omega
        · rw [if_neg (by omega), List.getElem?_eq_none (by omega), List.getElem?_eq_none (by omega)]
      · rw [if_neg hi, List.getElem?_eq_none (by omega)]
    · rw [if_neg hk]
      simp only [List.getElem?_take, List.getElem?_drop]
      by_cases hi : i < 128
      · rw [if_pos hi, if_pos hi]
        by_cases hlt : k < p
        · rw [if_pos (by omega), if_pos (by omega)]
        · rw [if_neg (by omega)]
          by_cases hin : k * 128 + i < out.length
          · rw [if_neg (by omega)]
            congr 1
            omega
          · rw [List.getElem?_eq_none (l := out) (i := k * 128 + i) (by omega)]
            split
            · rw [List.getElem?_eq_none (by omega)]
            · rw [List.getElem?_eq_none (by omega)]
      · rw [if_neg hi, if_neg hi]
  · have hd0 : d = [] := List.eq_nil_of_length_eq_zero (by omega)
    have ho : pageL out p = [] := by unfold pageL; rw [List.drop_of_length_le (by omega)]; rfl
    have hs : spl out (p * 128) d = out := by
      unfold spl
      rw [hd0, List.take_of_length_le (by omega), List.drop_of_length_le (by simp; omega)]
      simp
    rw [hs]
    split
    · rename_i e; rw [e, ho, hd0]
    · rfl
theorem ordOk_head {len last : Int} {c : Chg} {l : List Chg} (h : ordOk len last (c :: l) = true) : last < c.1 ∧ c.1 < cnt len ∧ (c.2.length : Int) = szI len c.1 ∧ ordOk len c.1 l = true := by
  simp only [ordOk] at h
  split at h
  · cases h
  · rename_i hc
    refine ⟨by omega, by omega, ?_, h⟩
    omega
theorem ordOk_above {len : Int} : ∀ {cs : List Chg} {last : Int}, ordOk len last cs = true → ∀ c ∈ cs, last < c.1 ∧ c.1 < cnt len ∧ (c.2.length : Int) = szI len c.1
  | [], _, _, c, hc => by cases hc
  | d :: l, last, h, c, hc => by
    obtain ⟨h1, h2, h3, h4⟩ := ordOk_head h
    rcases List.mem_cons.1 hc with rfl | hc
    · exact ⟨h1, h2, h3⟩
    · have := ordOk_above h4 c hc
      exact ⟨by omega, this.2⟩
theorem appl_page (len : Nat) (k : Nat) : ∀ (cs : List Chg) (last : Int) (out : List UInt8), -1 ≤ last → ordOk len last cs = true → out.length = len → (appl out cs).length = len ∧ pageL (appl out cs) k = if fb cs k then fd cs k else pageL out k
  | [], _, out, _, _, hl => ⟨hl, rfl⟩
  | c :: l, last, out, h0, h, hl => by
    obtain ⟨h1, h2, h3, h4⟩ := ordOk_head h
    obtain ⟨p, hp⟩ := Int.eq_ofNat_of_zero_le (show 0 ≤ c.1 by omega)
    have hd : c.2.length = (pageL out p).length := by rw [hp, ← hl, szI_len] at h3; omega
    have hbound : c.1.toNat * 128 + c.2.length ≤ out.length := by
      rw [hp, Int.toNat_natCast, hd, pageL_length]
      have : cnt len = (cntN len : Int) := cntN_cast len
      have h5 : p < cntN len := by omega
      unfold cntN cnt at h5
      split at h5 <;> omega
    obtain ⟨g1, g2⟩ := appl_page len k l c.1 (spl out (c.1.toNat * 128) c.2) (by omega) h4 (by rw [spl_length _ _ _ hbound, hl])
    refine ⟨g1, ?_⟩
    show pageL (appl (spl out (c.1.toNat * 128) c.2) l) k = _
    rw [g2]
    have hps := pageL_spl out p k c.2 hd
    have hpn : c.1.toNat = p := by omega
    rw [hpn, hps]
    by_cases hk : k = p
    · subst hk
      have hn : fb l k = false := fb_none _ _ fun d hd' => by have := (ordOk_above h4 d hd').1; omega
      have e1 : fb (c :: l) k = true := by simp only [fb]; rw [if_pos hp]
      have e2 : fd (c :: l) k = c.2 := by simp only [fd]; rw [if_pos hp]
      rw [hn, e1, e2, if_pos rfl, if_pos rfl, if_neg (by simp)]
    · have hne : ¬ c.1 = (k : Int) := by omega
      have e1 : fb (c :: l) k = fb l k := by simp only [fb]; rw [if_neg hne]
      have e2 : fd (c :: l) k = fd l k := by simp only [fd]; rw [if_neg hne]
      rw [e1, e2, if_neg hk]
theorem pageL_base0 (a : List UInt8) (len k : Nat) (h : (pageL a k).length = min 128 (len - k * 128)) : pageL (base0 a len) k = pageL a k := by
  rw [pageL_length] at h
  unfold base0 spl
  apply List.ext_getElem?
  intro i
  simp only [pageL, List.getElem?_take, List.getElem?_drop, List.getElem?_append, List.length_take, List.take_zero, List.length_nil, Nat.not_lt_zero, if_false, Nat.sub_zero, Nat.zero_add, List.getElem?_replicate]
  by_cases hi : i < 128
  · rw [if_pos hi, if_pos hi]
    by_cases h1 : k * 128 + i < min len a.length
    · rw [if_pos h1, if_pos (by omega)]
    · rw [if_neg h1, List.getElem?_eq_none (l := a) (by omega), if_neg (by omega)]
  · rw [if_neg hi, if_neg hi]
/-- What Apply makes. -/
def applied (a : List UInt8) (len : Nat) (cs : List Chg) : List UInt8 := appl (base0 a len) cs
theorem applied_length (a : List UInt8) (len : Nat) (cs : List Chg) (h : ordOk len (-1) cs = true) : (applied a len cs).length = len := (appl_page len 0 cs (-1) _ (by omega) h (base0_length a len)).1
theorem applied_page (a : List UInt8) (len : Nat) (cs : List Chg) (h : ordOk len (-1) cs = true) (hc : covTo len a.length cs (cntN len) = true) (k : Nat) (hk : k < cntN len) : pageL (applied a len cs) k = if fb cs k then fd cs k else pageL a k := by
  rw [applied, (appl_page len k cs (-1) _ (by omega) h (base0_length a len)).2]
  by_cases hf : fb cs k = true
  · rw [if_pos hf, if_pos hf]
  · rw [if_neg hf, if_neg hf]
    refine pageL_base0 a len k ?_
    have h1 := (of_covTo hc k hk).resolve_left hf
    rw [szI_len] at h1
    have h2 := szI_nat (List.replicate len 0) k
    rw [List.length_replicate, pageL_length, List.length_replicate] at h2
    omega
theorem applied_diff (a b : List UInt8) (h : b.length ≤ 24000) : applied a b.length (diffL a b) = b := by
  have ho : ordOk b.length (-1) (diffL a b) = true := diffTo_ord a b _ (Nat.le_refl _)
  have hv := valid_diff a b h
  unfold validP at hv
  simp only [Bool.and_eq_true] at hv
  have hc : covTo b.length a.length (diffL a b) (cntN b.length) = true := hv.2.2
  have hlen := applied_length a b.length _ ho
  refine eq_of_pages hlen fun k hk => ?_
  rw [hlen] at hk
  rw [applied_page a b.length _ ho hc k hk]
  by_cases hp : pageL a k = pageL b k
  · have : fb (diffL a b) k = false := by unfold diffL; rw [fb_diffTo]; simp [hp]
    rw [this]; simp [hp]
  · have : fb (diffL a b) k = true := by unfold diffL; rw [fb_diffTo]; simp [hp, hk]
    rw [this, if_pos rfl]
    exact fd_diffTo a b k _ this
theorem diff_nil_length (b : List UInt8) : (diffL [] b).length = cntN b.length := by
  have : ∀ m, m ≤ cntN b.length → (diffTo [] b m).length = m := by
    intro m
    induction m with
    | zero => intro _; rfl
    | succ m ih =>
      intro hm
      simp only [diffTo]
      rw [if_neg, List.length_append, ih (by omega)]
      · rfl
      · intro e
        have h1 := congrArg List.length e
        rw [pageL_length, pageL_length] at h1
        simp only [List.length_nil] at h1
        unfold cntN cnt at hm
        split at hm <;> omega
  exact this _ (Nat.le_refl _)
theorem validP_neg (len : Int) (cs : List Chg) (n : Int) (h : n < 0) : validP len cs n = false := by
  unfold validP lenOk
  simp [h]
end Go.Proofs.Ytfcmngiekdhfpaa
