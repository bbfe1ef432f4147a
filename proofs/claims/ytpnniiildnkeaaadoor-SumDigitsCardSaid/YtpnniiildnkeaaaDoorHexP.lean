/-
  Plain part of Parse: hexadecimal digits and back.
-/
import Derived.Test.YtpnniiildnkeaaaDoorSumI
import Derived.Lib.AtoiAll
namespace Go.Proofs.YtpnniiildnkeaaaDoor
set_option linter.unusedVariables false

/-- The value of a hexadecimal digit, small or great. -/
def hexV (c : UInt8) : Option Nat := if 48 ≤ c.toNat ∧ c.toNat ≤ 57 then some (c.toNat - 48) else if 97 ≤ (c ||| 32).toNat ∧ (c ||| 32).toNat ≤ 102 then some ((c ||| 32).toNat - 87) else none
def pu16 (acc : Nat) : List UInt8 → Lib.NumEnd Nat
  | [] => .ok acc
  | c :: l => match hexV c with
    | none => .syntax
    | some d => if 1152921504606846976 ≤ acc then .range else pu16 (acc * 16 + d) l
/-- What Parse returns. -/
def parseU (l : List UInt8) : Nat × Int := match pu16 0 l with
  | .ok n => if hexL n 16 = l then (n, 0) else (0, 3)
  | _ => (0, 3)
theorem hexD_ways {d : Nat} (h : d < 16) : hexV (hexD d) = some d := by
  have hc : d = 0 ∨ d = 1 ∨ d = 2 ∨ d = 3 ∨ d = 4 ∨ d = 5 ∨ d = 6 ∨ d = 7 ∨ d = 8 ∨ d = 9 ∨ d = 10 ∨ d = 11 ∨ d = 12 ∨ d = 13 ∨ d = 14 ∨ d = 15 := by omega
  rcases hc with rfl | rfl | rfl | rfl | rfl | rfl | rfl | rfl | rfl | rfl | rfl | rfl | rfl | rfl | rfl | rfl
  all_goals decide
theorem mod_pow_succ (H k : Nat) : H % 16 ^ (k + 1) = H / 16 ^ k % 16 * 16 ^ k + H % 16 ^ k := by
  rw [Nat.pow_succ, Nat.mod_mul, Nat.mul_comm (16 ^ k), Nat.add_comm]
theorem pu16_hexL (H : Nat) : ∀ (k acc : Nat), acc * 16 ^ k + H % 16 ^ k < 18446744073709551616 → pu16 acc (hexL H k) = .ok (acc * 16 ^ k + H % 16 ^ k)
  | 0, acc, _ => by simp [hexL, pu16, Nat.mod_one]
  | k + 1, acc, h => by
    have hd : H / 16 ^ k % 16 < 16 := Nat.mod_lt _ (by omega)
    have e : acc * 16 ^ (k + 1) + H % 16 ^ (k + 1) = (acc * 16 + H / 16 ^ k % 16) * 16 ^ k + H % 16 ^ k := by
      rw [mod_pow_succ, Nat.pow_succ, Nat.add_mul, Nat.mul_assoc acc 16, Nat.mul_comm (16 ^ k) 16, Nat.add_assoc]
    simp only [hexL, pu16, hexD_ways hd]
    rw [e] at h ⊢
    have hacc : acc < 1152921504606846976 := by
      have h1 : acc * 16 ≤ (acc * 16 + H / 16 ^ k % 16) * 16 ^ k := Nat.le_trans (by omega) (Nat.le_mul_of_pos_right _ (Nat.pow_pos (by omega)))
      omega
    rw [if_neg (by omega)]
    exact pu16_hexL H k _ h
theorem pu16_ok (h : UInt64) : pu16 0 (hexL h.toNat 16) = .ok h.toNat := by
  have hl := h.toNat_lt
  have e : h.toNat % 16 ^ 16 = h.toNat := Nat.mod_eq_of_lt (by omega)
  have := pu16_hexL h.toNat 16 0 (by rw [e]; omega)
  rw [this, e]
  simp
theorem parseU_hex (h : UInt64) : parseU (hexL h.toNat 16) = (h.toNat, 0) := by
  unfold parseU
  rw [pu16_ok]
  simp

/-! ### The reference -/
/-- The last place below k at which the table has c, or -1. -/
def dTo (c : UInt8) : Nat → Int
  | 0 => -1
  | k + 1 => if hexD k = c then (k : Int) else dTo c k
theorem dTo_at (c : UInt8) : ∀ k, dTo c k = -1 ∨ ∃ d : Nat, dTo c k = d ∧ d < k ∧ hexD d = c
  | 0 => .inl rfl
  | k + 1 => by
    simp only [dTo]
    split
    · rename_i h
      exact .inr ⟨k, rfl, by omega, h⟩
    · rcases dTo_at c k with h | ⟨d, h1, h2, h3⟩
      · exact .inl h
      · exact .inr ⟨d, h1, by omega, h3⟩
theorem dTo_hit {d : Nat} (hd : d < 16) : ∀ {k : Nat}, d < k → k ≤ 16 → dTo (hexD d) k = d
  | 0, h, _ => by omega
  | k + 1, h, hk => by
    simp only [dTo]
    split
    · rename_i e
      have := congrArg hexV e
      rw [hexD_ways (by omega), hexD_ways hd] at this
      injection this with this
      rw [this]
    · rename_i e
      by_cases hdk : d = k
      · subst hdk; exact absurd rfl e
      · exact dTo_hit hd (by omega) (by omega)
def rp16 (acc : Nat) : List UInt8 → Option Nat
  | [] => some acc
  | c :: l => if dTo c 16 < 0 then none else rp16 (acc * 16 + (dTo c 16).toNat) l
theorem rp16_hexL : ∀ (l : List UInt8) (acc n : Nat), rp16 acc l = some n → n = acc * 16 ^ l.length + n % 16 ^ l.length ∧ hexL n l.length = l
  | [], acc, n, h => by
    simp only [rp16, Option.some.injEq] at h
    subst h
    simp [hexL, Nat.mod_one]
  | c :: l, acc, n, h => by
    simp only [rp16] at h
    split at h
    · cases h
    · rename_i h0
      rcases dTo_at c 16 with h1 | ⟨d, h1, h2, h3⟩
      · omega
      · rw [h1, Int.toNat_natCast] at h
        obtain ⟨e1, e2⟩ := rp16_hexL l _ n h
        have hq : n / 16 ^ l.length = acc * 16 + d := by
          have hp : 0 < 16 ^ l.length := Nat.pow_pos (by omega)
          have hlt := Nat.mod_lt n hp
          have hdm := Nat.div_add_mod n (16 ^ l.length)
          rw [Nat.div_eq_iff hp]
          rw [Nat.mul_comm (16 ^ l.length)] at hdm
          generalize acc * 16 + d = x at *
          generalize n % 16 ^ l.length = y at *
          generalize n / 16 ^ l.length = z at *
          generalize 16 ^ l.length = p at *
          omega
        have hm : n / 16 ^ l.length % 16 = d := by rw [hq]; omega
        refine ⟨?_, ?_⟩
        · rw [List.length_cons, mod_pow_succ, hm, Nat.pow_succ]
          rw [Nat.add_mul] at e1
          have : acc * (16 ^ l.length * 16) = acc * 16 * 16 ^ l.length := by rw [Nat.mul_comm (16 ^ l.length) 16, Nat.mul_assoc]
          omega
        · rw [List.length_cons]
          simp only [hexL]
          rw [hm, h3, e2]
theorem rp16_of_hexL (H : Nat) : ∀ (k acc : Nat), rp16 acc (hexL H k) = some (acc * 16 ^ k + H % 16 ^ k)
  | 0, acc => by simp [hexL, rp16, Nat.mod_one]
  | k + 1, acc => by
    have hd : H / 16 ^ k % 16 < 16 := Nat.mod_lt _ (by omega)
    simp only [hexL, rp16]
    rw [dTo_hit hd hd (Nat.le_refl _), if_neg (by omega), Int.toNat_natCast, rp16_of_hexL H k, mod_pow_succ, Nat.pow_succ, Nat.add_mul, Nat.mul_assoc acc 16, Nat.mul_comm (16 ^ k) 16, Nat.add_assoc]
theorem rp16_lt : ∀ (l : List UInt8) (acc n : Nat), rp16 acc l = some n → n < (acc + 1) * 16 ^ l.length
  | [], acc, n, h => by simp only [rp16, Option.some.injEq] at h; subst h; simp
  | c :: l, acc, n, h => by
    simp only [rp16] at h
    split at h
    · cases h
    · rcases dTo_at c 16 with h1 | ⟨d, h1, h2, h3⟩
      · omega
      · rw [h1, Int.toNat_natCast] at h
        have := rp16_lt l _ n h
        refine Nat.lt_of_lt_of_le this ?_
        rw [List.length_cons, Nat.pow_succ, Nat.mul_comm (16 ^ l.length) 16, ← Nat.mul_assoc]
        exact Nat.mul_le_mul_right _ (by omega)
/-- The reference's answer. -/
def rparseU (l : List UInt8) : Nat × Int := if l.length = 16 then (match rp16 0 l with | some n => (n, 0) | none => (0, 3)) else (0, 3)
theorem rparse_same (l : List UInt8) : rparseU l = parseU l := by
  unfold rparseU
  by_cases hl : l.length = 16
  · rw [if_pos hl]
    cases h : rp16 0 l with
    | some n =>
      obtain ⟨e1, e2⟩ := rp16_hexL l 0 n h
      have hlt := rp16_lt l 0 n h
      rw [hl] at e2 hlt
      have hn : n < 18446744073709551616 := by simpa using hlt
      have : parseU l = parseU (hexL n 16) := by rw [e2]
      rw [this]
      have := parseU_hex (UInt64.ofNat n)
      rw [UInt64.toNat_ofNat', Nat.mod_eq_of_lt (by omega)] at this
      rw [this]
    | none =>
      show ((0 : Nat), (3 : Int)) = _
      unfold parseU
      split
      · rename_i n hn
        split
        · rename_i e
          rw [← e, rp16_of_hexL] at h
          cases h
        · rfl
      · rfl
  · rw [if_neg hl]
    unfold parseU
    split
    · rename_i n hn
      rw [if_neg]
      intro e
      rw [← e, hexL_length] at hl
      exact hl rfl
    · rfl
theorem parseU_back (l : List UInt8) : (parseU l).2 ≠ 0 ∨ hexL (parseU l).1 16 = l := by
  unfold parseU
  split
  · split
    · rename_i h; exact .inr h
    · exact .inl (by decide)
  · exact .inl (by decide)
theorem pu16_bound : ∀ (l : List UInt8) (acc n : Nat), acc < 18446744073709551616 → pu16 acc l = .ok n → n < 18446744073709551616
  | [], acc, n, ha, h => by simp only [pu16, Lib.NumEnd.ok.injEq] at h; omega
  | c :: l, acc, n, ha, h => by
    simp only [pu16] at h
    split at h
    · cases h
    · rename_i d hd
      split at h
      · cases h
      · refine pu16_bound l _ n ?_ h
        have : d < 16 := by
          unfold hexV at hd
          split at hd
          · injection hd with hd; omega
          · split at hd
            · injection hd with hd; omega
            · cases hd
        omega
theorem parseU_bound (l : List UInt8) : (parseU l).1 < 18446744073709551616 := by
  unfold parseU
  split
  · rename_i n hn
    split
    · exact pu16_bound l 0 n (by omega) hn
    · decide
  · decide
end Go.Proofs.YtpnniiildnkeaaaDoor
