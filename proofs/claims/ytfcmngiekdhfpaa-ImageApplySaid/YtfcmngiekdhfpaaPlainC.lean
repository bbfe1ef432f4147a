/-
  Plain laws of joined patches, and of the pages that the reference's Apply lays one after the other.
-/
import Derived.Test.YtfcmngiekdhfpaaPlainA
import Derived.Test.YtfcmngiekdhfpaaImgH
namespace Go.Proofs.Ytfcmngiekdhfpaa
set_option linter.unusedVariables false

/-- What Join makes: of each page the second change, or else the first one. -/
def joinTo (ps qs : List Chg) : Nat → List Chg
  | 0 => []
  | k + 1 => joinTo ps qs k ++ (if fb qs k then [((k : Int), fd qs k)] else if fb ps k then [((k : Int), fd ps k)] else [])
theorem joinTo_length (ps qs : List Chg) : ∀ m, (joinTo ps qs m).length ≤ m
  | 0 => Nat.le_refl _
  | m + 1 => by
    have := joinTo_length ps qs m
    simp only [joinTo, List.length_append]
    split
    · simp; omega
    · split <;> simp <;> omega
theorem joinTo_lt (ps qs : List Chg) : ∀ m, ∀ c ∈ joinTo ps qs m, c.1 < m ∧ 0 ≤ c.1
  | 0, c, h => by cases h
  | m + 1, c, h => by
    simp only [joinTo] at h
    rcases List.mem_append.1 h with h | h
    · have := joinTo_lt ps qs m c h; omega
    · split at h
      · simp only [List.mem_singleton] at h; subst h; simp; omega
      · split at h
        · simp only [List.mem_singleton] at h; subst h; simp; omega
        · cases h
theorem joinTo_at (ps qs : List Chg) (k : Nat) : ∀ m, fb (joinTo ps qs m) k = (decide (k < m) && (fb qs k || fb ps k)) ∧ (k < m → fd (joinTo ps qs m) k = if fb qs k then fd qs k else if fb ps k then fd ps k else fd [] k)
  | 0 => ⟨by simp [joinTo, fb], fun h => by omega⟩
  | m + 1 => by
    obtain ⟨h1, h2⟩ := joinTo_at ps qs k m
    simp only [joinTo]
    rw [fb_append, fd_append]
    by_cases hk : k = m
    · subst hk
      have h0 : fb (joinTo ps qs k) k = false := fb_none _ _ fun c hc => by have := (joinTo_lt ps qs k c hc).1; omega
      rw [h0]
      refine ⟨?_, fun _ => ?_⟩
      · by_cases hq : fb qs k = true
        · simp [hq, fb]
        · simp only [Bool.not_eq_true] at hq
          by_cases hp : fb ps k = true
          · simp [hq, hp, fb]
          · simp only [Bool.not_eq_true] at hp
            simp [hq, hp, fb]
      · by_cases hq : fb qs k = true
        · simp [hq, fd]
        · simp only [Bool.not_eq_true] at hq
          by_cases hp : fb ps k = true
          · simp [hq, hp, fd]
          · simp only [Bool.not_eq_true] at hp
            simp [hq, hp, fd]
    · have h3 : fb (if fb qs m then [((m : Int), fd qs m)] else if fb ps m then [((m : Int), fd ps m)] else []) k = false := fb_none _ _ fun c hc => by
        split at hc
        · simp only [List.mem_singleton] at hc; subst hc; simp; omega
        · split at hc
          · simp only [List.mem_singleton] at hc; subst hc; simp; omega
          · cases hc
      rw [h3, Bool.or_false, h1]
      have e : decide (k < m + 1) = decide (k < m) := by simp; omega
      rw [e]
      refine ⟨rfl, fun hk2 => ?_⟩
      have hkm : k < m := by omega
      have h4 := h2 hkm
      have h5 : fd (if fb qs m then [((m : Int), fd qs m)] else if fb ps m then [((m : Int), fd ps m)] else []) k = fd [] k := by
        have g : ∀ (l : List Chg), fb l k = false → fd l k = fd [] k := by
          intro l
          induction l with
          | nil => intro _; rfl
          | cons c l ih =>
            intro h
            simp only [fb] at h
            simp only [fd]
            split at h
            · cases h
            · rename_i hne
              rw [if_neg hne]
              exact ih h
        exact g _ h3
      simp only [hkm, decide_true, Bool.true_and]
      rw [h4, h5]
      by_cases hq : fb qs k = true
      · simp [hq]
      · simp only [Bool.not_eq_true] at hq
        by_cases hp : fb ps k = true
        · simp [hq, hp]
        · simp only [Bool.not_eq_true] at hp
          simp [hq, hp]
theorem fd_len {len : Int} {cs : List Chg} {k : Nat} : ∀ {last : Int}, ordOk len last cs = true → fb cs k = true → ((fd cs k).length : Int) = szI len k ∧ (k : Int) < cnt len := by
  induction cs with
  | nil => intro last _ h; cases h
  | cons c l ih =>
    intro last ho h
    obtain ⟨h1, h2, h3, h4⟩ := ordOk_head ho
    simp only [fb] at h
    simp only [fd]
    split at h
    · rename_i e
      rw [if_pos e]
      rw [← e]
      exact ⟨h3, h2⟩
    · rename_i e
      rw [if_neg e]
      exact ih h4 h
theorem joinTo_ord {len plen n : Int} {ps qs : List Chg} (hl : 0 ≤ len) (hp : ordOk plen (-1) ps = true) (hq : ordOk len (-1) qs = true) (hc : covTo len plen qs (cnt len).toNat = true) : ∀ m, m ≤ (cnt len).toNat → ordOk len (-1) (joinTo ps qs m) = true
  | 0, _ => rfl
  | m + 1, hm => by
    have ih := joinTo_ord (n := n) hl hp hq hc m (by omega)
    simp only [joinTo]
    have hb : (m : Int) < cnt len := by omega
    split
    · rename_i h
      exact ordOk_snoc _ _ _ _ ih (fun c hc => (joinTo_lt ps qs m c hc).1) (by show (-1 : Int) < ((m : Nat) : Int); omega) hb (fd_len hq h).1
    · rename_i h
      split
      · rename_i h2
        refine ordOk_snoc _ _ _ _ ih (fun c hc => (joinTo_lt ps qs m c hc).1) (by show (-1 : Int) < ((m : Nat) : Int); omega) hb ?_
        have h3 := (of_covTo hc m (by omega)).resolve_left h
        show ((fd ps m).length : Int) = szI len (m : Int)
        rw [← h3]
        exact (fd_len hp h2).1
      · rw [List.append_nil]; exact ih
theorem szI_pos {n k : Int} (h0 : 0 ≤ k) (h : k < cnt n) : 0 < szI n k := by
  unfold szI
  rw [if_neg (by omega)]
  unfold cnt at h
  split at h <;> omega
theorem joined_valid {len plen n : Int} {ps qs : List Chg} (h1 : validP plen ps n = true) (h2 : validP len qs plen = true) : validP len (joinTo ps qs (cnt len).toNat) n = true := by
  obtain ⟨a1, a2, a3, a4, a5⟩ := validP_parts h1
  obtain ⟨b1, b2, b3, b4, b5⟩ := validP_parts h2
  unfold validP
  rw [lenOk_good a1 b2 b3, Bool.true_and, joinTo_ord (n := n) b2 a4 b4 b5 _ (Nat.le_refl _), Bool.true_and]
  refine covTo_of fun k hk => ?_
  rw [(joinTo_at ps qs k _).1]
  have hz := szI_pos (n := len) (k := k) (by omega) (by omega)
  by_cases hq : fb qs k = true
  · left; simp [hk, hq]
  · have h3 := (of_covTo b5 k hk).resolve_left hq
    have h4 : (k : Int) < cnt plen := by
      by_cases h : (k : Int) < cnt plen
      · exact h
      · exfalso
        have : szI plen k = 0 := by unfold szI; rw [if_pos (by omega)]
        omega
    rcases of_covTo a5 k (by omega) with h | h
    · left; simp [hk, h]
    · right; rw [h, h3]
theorem joined_same {len plen : Nat} {a : List UInt8} {ps qs : List Chg} (h1 : validP plen ps a.length = true) (h2 : validP len qs plen = true) : applied (applied a plen ps) len qs = applied a len (joinTo ps qs (cntN len)) := by
  have h3 := joined_valid h1 h2
  obtain ⟨a1, a2, a3, a4, a5⟩ := validP_parts h1
  obtain ⟨b1, b2, b3, b4, b5⟩ := validP_parts h2
  obtain ⟨c1, c2, c3, c4, c5⟩ := validP_parts h3
  have l1 := applied_length a plen ps a4
  have l2 := applied_length (applied a plen ps) len qs b4
  have l3 := applied_length a len _ c4
  have e : (cnt (len : Int)).toNat = cntN len := rfl
  rw [e] at l3 c4 c5
  refine eq_of_pages (by rw [l2, l3]) fun k hk => ?_
  rw [l2] at hk
  have hb5 : covTo len (applied a plen ps).length qs (cntN len) = true := by rw [l1]; exact b5
  rw [applied_page _ len qs b4 hb5 k hk, applied_page a len _ c4 c5 k hk]
  obtain ⟨j1, j2⟩ := joinTo_at ps qs k (cntN len)
  rw [j1, j2 hk]
  by_cases hq : fb qs k = true
  · simp [hk, hq]
  · have h6 := (of_covTo b5 k hk).resolve_left hq
    have hz := szI_pos (n := len) (k := k) (by omega) (by have := cntN_cast len; omega)
    have h7 : k < cntN plen := by
      by_cases h : k < cntN plen
      · exact h
      · exfalso
        have h8 := cntN_cast plen
        have : szI plen k = 0 := by unfold szI; rw [if_pos (by omega)]
        omega
    rw [applied_page a plen ps a4 a5 k h7]
    simp only [Bool.not_eq_true] at hq
    by_cases hp : fb ps k = true
    · simp [hk, hq, hp]
    · simp only [Bool.not_eq_true] at hp
      simp [hq, hp]

/-! ### Apply of the reference -/
def catTo (a : List UInt8) (cs : List Chg) : Nat → List UInt8
  | 0 => []
  | k + 1 => catTo a cs k ++ (if fb cs k then fd cs k else pageL a k)
theorem take_page2 (b : List UInt8) (j : Nat) : b.take (j * 128) ++ pageL b j = b.take ((j + 1) * 128) := by
  unfold pageL
  rw [Nat.add_mul, List.take_add]
theorem catTo_take {len : Nat} {a : List UInt8} {cs : List Chg} (h : validP len cs a.length = true) : ∀ m, m ≤ cntN len → catTo a cs m = (applied a len cs).take (m * 128)
  | 0, _ => by simp [catTo]
  | m + 1, hm => by
    obtain ⟨a1, a2, a3, a4, a5⟩ := validP_parts h
    simp only [catTo]
    rw [catTo_take h m (by omega), ← take_page2, applied_page a len cs a4 a5 m (by omega)]
theorem catTo_all {len : Nat} {a : List UInt8} {cs : List Chg} (h : validP len cs a.length = true) : catTo a cs (cntN len) = applied a len cs := by
  rw [catTo_take h _ (Nat.le_refl _)]
  apply List.take_of_length_le
  rw [applied_length a len cs (validP_parts h).2.2.2.1]
  unfold cntN cnt
  split <;> omega
end Go.Proofs.Ytfcmngiekdhfpaa
