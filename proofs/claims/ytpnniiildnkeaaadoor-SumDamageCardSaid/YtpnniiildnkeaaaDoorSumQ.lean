/-
  The plain law of SumDamage: one byte of a number, or of the data, is changed.
-/
import Derived.Test.YtpnniiildnkeaaaDoorSumB
namespace Go.Proofs.YtpnniiildnkeaaaDoor
open Go.RowKit
set_option linter.unusedVariables false

/-- A number of int, as one of uint64. -/
def toU (a : Int) : Nat := (a % 18446744073709551616).toNat
theorem toU_cast (a : Int) : IntKind.u64.wrap a = (toU a : Int) := by rw [IntKind.wrap_u64]; unfold toU; omega
theorem toU_lt (a : Int) : toU a < 18446744073709551616 := by unfold toU; omega
theorem ofInt_toU (a : Int) : (BitVec.ofInt 64 a).toNat = toU a := by rw [BitVec.toNat_ofInt]; rfl
theorem toU_wrap (x : Int) : toU (wrap64 x) = toU x := by unfold toU wrap64; omega
theorem toU_xor (a : Int) (M : Nat) (hM : M < 18446744073709551616) : toU (bits .xor .i64 a (wrap64 (M : Int))) = toU a ^^^ M := by
  have e : bits .xor .i64 a (wrap64 (M : Int)) = IntKind.i64.wrap ((BitVec.ofInt 64 a ^^^ BitVec.ofInt 64 (wrap64 (M : Int))).toNat : Int) := rfl
  have ew : ∀ x : Int, IntKind.i64.wrap x = wrap64 x := fun x => by
    unfold wrap64
    simp only [IntKind.wrap, IntKind.signed, IntKind.bits]
    simp
    omega
  rw [e, ew, toU_wrap, BitVec.toNat_xor, ofInt_toU, ofInt_toU, toU_wrap]
  have h2 : toU (M : Int) = M := by unfold toU; omega
  rw [h2]
  have h3 : toU a ^^^ M < 2 ^ 64 := Nat.xor_lt_two_pow (toU_lt a) hM
  unfold toU at h3 ⊢
  omega
theorem cast_div (N k : Nat) : ((N : Int) / 2 ^ (8 * k) % 256) = ((N / 2 ^ (8 * k) % 256 : Nat) : Int) := by
  rw [Int.natCast_emod, Int.natCast_ediv, Int.natCast_pow]
  rfl
theorem byte_xor (N m k j : Nat) (hm : m < 256) : (N ^^^ m * 2 ^ (8 * k)) / 2 ^ (8 * j) % 256 = if j = k then (N / 2 ^ (8 * k) % 256) ^^^ m else N / 2 ^ (8 * j) % 256 := by
  apply Nat.eq_of_testBit_eq
  intro i
  have e256 : (256 : Nat) = 2 ^ 8 := rfl
  have hmb : ∀ i, 8 ≤ i → m.testBit i = false := fun i hi => Nat.testBit_lt_two_pow (Nat.lt_of_lt_of_le hm (by rw [e256]; exact Nat.pow_le_pow_right (by omega) hi))
  split
  · rename_i h
    subst h
    rw [e256, Nat.testBit_mod_two_pow, Nat.testBit_div_two_pow, Nat.testBit_xor, Nat.testBit_xor, Nat.testBit_mod_two_pow, Nat.testBit_div_two_pow, Nat.testBit_mul_two_pow]
    by_cases h8 : i < 8
    · simp [h8]
    · simp [h8, hmb i (by omega)]
  · rename_i h
    rw [e256, Nat.testBit_mod_two_pow, Nat.testBit_div_two_pow, Nat.testBit_xor, Nat.testBit_mod_two_pow, Nat.testBit_div_two_pow, Nat.testBit_mul_two_pow]
    by_cases h8 : i < 8
    · have hz : (decide (8 * k ≤ i + 8 * j) && m.testBit (i + 8 * j - 8 * k)) = false := by
        by_cases hle : 8 * k ≤ i + 8 * j
        · rw [hmb _ (by omega)]; simp
        · simp; omega
      rw [hz]
      simp
    · simp [h8]
theorem eightL_xor (N m k : Nat) (hm : m < 256) (hk : k < 8) : ∃ x, eightL ((N ^^^ m * 2 ^ (8 * k) : Nat) : Int) = (eightL (N : Int)).set k x ∧ (m ≠ 0 → x ≠ (eightL (N : Int))[k]'(by rw [eightL_length]; exact hk)) := by
  refine ⟨UInt8.ofNat ((N / 2 ^ (8 * k) % 256) ^^^ m), ?_, ?_⟩
  · apply List.ext_getElem
    · simp [eightL_length]
    · intro j h1 h2
      rw [eightL_get, List.getElem_set]
      have hb : ∀ (X : Nat) (j : Nat), byteN (X : Int) j = UInt8.ofNat (X / 2 ^ (8 * j) % 256) := fun X j => by
        unfold byteN
        rw [cast_div, Int.toNat_natCast]
      rw [hb, byte_xor N m k j hm]
      by_cases h : j = k
      · rw [if_pos h, if_pos h.symm]
      · rw [if_neg h, if_neg (fun e => h e.symm), eightL_get, hb]
  · intro h0 e
    rw [eightL_get] at e
    have e2 := congrArg UInt8.toNat e
    have e3 := byteN_toNat (N : Int) k
    rw [UInt8.toNat_ofNat'] at e2
    have hlt : (N / 2 ^ (8 * k) % 256) ^^^ m < 2 ^ 8 := Nat.xor_lt_two_pow (by omega) hm
    rw [Nat.mod_eq_of_lt hlt] at e2
    have e4 : (byteN (N : Int) k).toNat = N / 2 ^ (8 * k) % 256 := by
      have := cast_div N k
      rw [e3] at this
      exact Int.ofNat.inj this
    rw [e4] at e2
    apply h0
    have := congrArg (fun z => (N / 2 ^ (8 * k) % 256) ^^^ z) e2
    simp only [← Nat.xor_assoc, Nat.xor_self, Nat.zero_xor] at this
    exact this
theorem wrap64_inj {x y : UInt64} (h : wrap64 (x.toNat : Int) = wrap64 (y.toNat : Int)) : x = y := by
  have h1 := congrArg toU h
  rw [toU_wrap, toU_wrap] at h1
  apply UInt64.toNat_inj.1
  have hx := x.toNat_lt
  have hy := y.toNat_lt
  unfold toU at h1
  omega
theorem ans_head {H H' : List UInt8} (l : List UInt8) (i : Nat) (hi : i < H.length) (x : UInt8) (hx : x ≠ H[i]) (e : H' = H.set i x) : wrap64 ((sumU (sumU startU H') l).toNat : Int) ≠ wrap64 ((sumU (sumU startU H) l).toNat : Int) := fun h => by
  subst e
  exact hx ((sum_set startU H i hi x).1 (sum_inj l (wrap64_inj h)))
theorem dam_l (a b c : Int) (l : List UInt8) (i : Nat) (hi : i < l.length) (x : UInt8) (hx : x ≠ l[i]) : ansI a b c (l.set i x) ≠ ansI a b c l := fun h => by
  unfold ansI ansU at h
  rw [List.length_set] at h
  exact hx ((sum_set _ l i hi x).1 (wrap64_inj h))
/-- A number of int in which a byte is changed. -/
theorem dam_eight (a : Int) (m k : Nat) (hm : m < 256) (h0 : m ≠ 0) (hk : k < 8) : ∃ x, eightL (IntKind.u64.wrap (bits .xor .i64 a (wrap64 ((m * 2 ^ (8 * k) : Nat) : Int)))) = (eightL (IntKind.u64.wrap a)).set k x ∧ x ≠ (eightL (IntKind.u64.wrap a))[k]'(by rw [eightL_length]; exact hk) := by
  have hM : m * 2 ^ (8 * k) < 18446744073709551616 := by
    have h1 : 2 ^ (8 * k) ≤ 2 ^ 56 := Nat.pow_le_pow_right (by omega) (by omega)
    have h2 : m * 2 ^ (8 * k) ≤ 255 * 2 ^ 56 := Nat.mul_le_mul (by omega) h1
    omega
  obtain ⟨x, e, hx⟩ := eightL_xor (toU a) m k hm hk
  refine ⟨x, ?_, ?_⟩
  · rw [toU_cast, toU_xor _ _ hM, toU_cast a]
    exact e
  · have := hx h0
    simpa only [toU_cast a] using this
theorem set_app_l {α : Type} (E F : List α) (k : Nat) (x : α) (hk : k < E.length) : (E ++ F).set k x = E.set k x ++ F := List.set_append_left _ _ hk
theorem dam_0 (a b c : Int) (l : List UInt8) (m k : Nat) (hm : m < 256) (h0 : m ≠ 0) (hk : k < 8) : ansI (bits .xor .i64 a (wrap64 ((m * 2 ^ (8 * k) : Nat) : Int))) b c l ≠ ansI a b c l := by
  obtain ⟨x, e, hx⟩ := dam_eight a m k hm h0 hk
  unfold ansI ansU
  refine ans_head l k (by unfold headL; simp [eightL_length]; omega) x ?_ ?_
  · intro h
    apply hx
    rw [h]
    unfold headL
    simp only [List.append_assoc]
    rw [List.getElem_append_left]
  · unfold headL
    rw [e]
    simp only [List.append_assoc]
    rw [set_app_l _ _ _ _ (by rw [eightL_length]; exact hk)]
theorem dam_1 (a b c : Int) (l : List UInt8) (m k : Nat) (hm : m < 256) (h0 : m ≠ 0) (hk : k < 8) : ansI a (bits .xor .i64 b (wrap64 ((m * 2 ^ (8 * k) : Nat) : Int))) c l ≠ ansI a b c l := by
  obtain ⟨x, e, hx⟩ := dam_eight b m k hm h0 hk
  unfold ansI ansU
  refine ans_head l (8 + k) (by unfold headL; simp [eightL_length]; omega) x ?_ ?_
  · intro h
    apply hx
    rw [h]
    unfold headL
    simp only [List.append_assoc]
    rw [List.getElem_append_right (by rw [eightL_length]; omega), List.getElem_append_left (by simp [eightL_length]; omega)]
    simp [eightL_length]
  · unfold headL
    rw [e]
    simp only [List.append_assoc]
    rw [List.set_append_right _ _ (by rw [eightL_length]; omega), eightL_length, show 8 + k - 8 = k from by omega, set_app_l _ _ _ _ (by rw [eightL_length]; exact hk)]
theorem dam_2 (a b c : Int) (l : List UInt8) (m k : Nat) (hm : m < 256) (h0 : m ≠ 0) (hk : k < 8) : ansI a b (bits .xor .i64 c (wrap64 ((m * 2 ^ (8 * k) : Nat) : Int))) l ≠ ansI a b c l := by
  obtain ⟨x, e, hx⟩ := dam_eight c m k hm h0 hk
  unfold ansI ansU
  refine ans_head l (16 + k) (by unfold headL; simp [eightL_length]; omega) x ?_ ?_
  · intro h
    apply hx
    rw [h]
    unfold headL
    simp only [List.append_assoc]
    rw [List.getElem_append_right (by rw [eightL_length]; omega), List.getElem_append_right (by simp [eightL_length]; omega), List.getElem_append_left (by simp [eightL_length]; omega)]
    simp [eightL_length, show 16 + k - 8 - 8 = k from by omega]
  · unfold headL
    rw [e]
    simp only [List.append_assoc]
    rw [List.set_append_right _ _ (by rw [eightL_length]; omega), List.set_append_right _ _ (by rw [eightL_length, eightL_length]; omega), eightL_length, eightL_length, show 16 + k - 8 - 8 = k from by omega, set_app_l _ _ _ _ (by rw [eightL_length]; exact hk)]
end Go.Proofs.YtpnniiildnkeaaaDoor
