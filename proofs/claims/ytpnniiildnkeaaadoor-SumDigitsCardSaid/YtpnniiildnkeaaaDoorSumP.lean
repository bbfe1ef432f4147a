/-
  The numbers of layer 2, in plain Lean: the sum of bytes.
-/
import Derived.Test.YtpnniiildnkeaaaDoorVoc
import Derived.Laws.BitsAllLaws
namespace Go.Proofs.YtpnniiildnkeaaaDoor
open Go.RowKit
set_option linter.unusedVariables false

def stepU (h : UInt64) (b : UInt8) : UInt64 := let k := (h ^^^ b.toUInt64) * 0xD1B54A32D192ED03; k ^^^ (k >>> 29)
def sumU (h : UInt64) (l : List UInt8) : UInt64 := l.foldl stepU h
def uv (h : UInt64) : Value := .int .u64 (h.toNat : Int)
theorem sumU_append (h : UInt64) (l m : List UInt8) : sumU h (l ++ m) = sumU (sumU h l) m := List.foldl_append
theorem xor_nat (a b : UInt64) : bits .xor .u64 (a.toNat : Int) (b.toNat : Int) = ((a ^^^ b).toNat : Int) := by
  rw [u64_xor_nat _ _ a.toNat_lt b.toNat_lt, UInt64.toNat_xor]
theorem wrap_u8 (b : UInt8) : IntKind.u64.wrap (b.toNat : Int) = (b.toUInt64.toNat : Int) := by
  rw [IntKind.wrap_u64, UInt8.toNat_toUInt64]
  have := b.toNat_lt
  omega
theorem mul_nat (a : UInt64) : IntKind.u64.wrap ((a.toNat : Int) * 15111065706836454659) = ((a * 0xD1B54A32D192ED03).toNat : Int) := by
  rw [IntKind.wrap_u64, UInt64.toNat_mul]
  have : (0xD1B54A32D192ED03 : UInt64).toNat = 15111065706836454659 := by decide
  rw [this]
  omega
theorem shr_nat (a : UInt64) : (a.toNat : Int) / (536870912 : Int) = ((a >>> 29).toNat : Int) := by
  rw [UInt64.toNat_shiftRight]
  have : (29 : UInt64).toNat % 64 = 29 := by decide
  rw [this, Nat.shiftRight_eq_div_pow]
  omega
theorem step_nat (h : UInt64) (b : UInt8) :
    bits .xor .u64 (IntKind.u64.wrap (bits .xor .u64 (h.toNat : Int) (IntKind.u64.wrap (b.toNat : Int)) * 15111065706836454659)) (IntKind.u64.wrap (bits .xor .u64 (h.toNat : Int) (IntKind.u64.wrap (b.toNat : Int)) * 15111065706836454659) / (536870912 : Int)) = ((stepU h b).toNat : Int) := by
  rw [wrap_u8, xor_nat, mul_nat, shr_nat, xor_nat]
  rfl
/-- The eight bytes of a number, the least first. -/
def byteN (N : Int) (i : Nat) : UInt8 := UInt8.ofNat (N / 2 ^ (8 * i) % 256).toNat
def eightL (N : Int) : List UInt8 := (List.range 8).map (byteN N)
theorem byteN_toNat (N : Int) (i : Nat) : N / 2 ^ (8 * i) % 256 = ((byteN N i).toNat : Int) := by
  unfold byteN
  rw [UInt8.toNat_ofNat']
  omega
theorem eightL_length (N : Int) : (eightL N).length = 8 := by simp [eightL]
theorem eightL_get (N : Int) {i : Nat} (h : i < (eightL N).length) : (eightL N)[i] = byteN N i := by simp [eightL]
theorem eightL_take (N : Int) {k : Nat} (h : k < 8) : (eightL N).take (k + 1) = (eightL N).take k ++ [byteN N k] := by
  rw [List.take_succ_eq_append_getElem (by rw [eightL_length]; exact h), eightL_get]
theorem eightL_all (N : Int) : (eightL N).take 8 = eightL N := List.take_of_length_le (by rw [eightL_length]; omega)
theorem Own.below {w : World} {base : Nat} {e : TypeId} {v : Value} {l : List UInt8} (h : Own w base e v l) : ∀ k, v.ownBlock = some k → base ≤ k := fun k hk => by
  rcases h.2 with ⟨rfl, _⟩ | ⟨g, cap, cur, rfl, hb, _⟩
  · cases hk
  · injection hk with hk
    have hk : g = k := hk
    omega
theorem sl_one (w : World) (e : TypeId) (b : UInt8) : Sl (w.alloc (.cells #[.int .u8 (b.toNat : Int)] e)) (some ⟨w.heap.size, 0, none⟩) 1 [b] :=
  ⟨by simp, by simp [maxLen], fun h => (by cases h), .inr ⟨w.heap.size, 0, rfl, by simp, fun i hi => by
    have : i = 0 := by simp at hi; omega
    subst this
    rw [(Blk.new w e #[.int .u8 (b.toNat : Int)]).cell]
    rfl⟩⟩
/-- A step forgets nothing: neither the number nor the byte. -/
theorem mul_inj {a b : UInt64} (h : a * 0xD1B54A32D192ED03 = b * 0xD1B54A32D192ED03) : a = b := by
  have hc : (0xD1B54A32D192ED03 : UInt64) * 436968802925209003 = 1 := by decide
  have h1 : a * (0xD1B54A32D192ED03 * 436968802925209003) = b * (0xD1B54A32D192ED03 * 436968802925209003) := by rw [← UInt64.mul_assoc, ← UInt64.mul_assoc, h]
  rwa [hc, UInt64.mul_one, UInt64.mul_one] at h1
theorem mix_inj {a b : UInt64} (h : a ^^^ (a >>> 29) = b ^^^ (b >>> 29)) : a = b := by
  have inv : ∀ x : UInt64, (x ^^^ (x >>> 29)) ^^^ ((x ^^^ (x >>> 29)) >>> 29) ^^^ ((x ^^^ (x >>> 29)) >>> 58) = x := fun x => by
    apply UInt64.toNat_inj.1
    simp only [UInt64.toNat_xor, UInt64.toNat_shiftRight]
    have e1 : (29 : UInt64).toNat % 64 = 29 := by decide
    have e2 : (58 : UInt64).toNat % 64 = 58 := by decide
    rw [e1, e2]
    have hx := x.toNat_lt
    generalize x.toNat = n at *
    have e3 : n >>> 29 >>> 58 = 0 := by
      rw [← Nat.shiftRight_add, Nat.shiftRight_eq_div_pow]
      omega
    have e4 : n >>> 29 >>> 29 = n >>> 58 := by rw [← Nat.shiftRight_add]
    simp only [Nat.shiftRight_xor_distrib, e3, e4, Nat.xor_zero]
    apply Nat.eq_of_testBit_eq
    intro i
    simp only [Nat.testBit_xor]
    cases n.testBit i <;> cases (n >>> 29).testBit i <;> cases (n >>> 58).testBit i <;> rfl
  rw [← inv a, ← inv b, h]
theorem step_inj_left {g h : UInt64} {b : UInt8} (e : stepU g b = stepU h b) : g = h := by
  have h1 := mul_inj (mix_inj e)
  have h2 : (g ^^^ b.toUInt64) ^^^ b.toUInt64 = (h ^^^ b.toUInt64) ^^^ b.toUInt64 := by rw [h1]
  simpa [UInt64.xor_assoc] using h2
theorem step_inj_right {h : UInt64} {b c : UInt8} (e : stepU h b = stepU h c) : b = c := by
  have h1 := mul_inj (mix_inj e)
  have h2 : h ^^^ (h ^^^ b.toUInt64) = h ^^^ (h ^^^ c.toUInt64) := by rw [h1]
  simp only [← UInt64.xor_assoc, UInt64.xor_self, UInt64.zero_xor] at h2
  have := congrArg UInt64.toNat h2
  simp at this
  exact UInt8.toNat_inj.1 this
theorem sum_inj (l : List UInt8) : ∀ {g h : UInt64}, sumU g l = sumU h l → g = h := by
  induction l with
  | nil => intro g h e; exact e
  | cons b l ih => intro g h e; exact step_inj_left (ih e)
/-- One byte changed: another sum. -/
theorem sum_set (h : UInt64) (l : List UInt8) (i : Nat) (hi : i < l.length) (x : UInt8) : sumU h (l.set i x) = sumU h l ↔ x = l[i] := by
  constructor
  · intro e
    rw [List.set_eq_take_append_cons_drop, if_pos hi] at e
    have e2 : l = l.take i ++ l[i] :: l.drop (i + 1) := by rw [← List.drop_eq_getElem_cons hi, List.take_append_drop]
    rw [show sumU h l = sumU h (l.take i ++ l[i] :: l.drop (i + 1)) from congrArg (sumU h) e2, sumU_append, sumU_append] at e
    exact step_inj_right (sum_inj _ (show sumU (stepU _ x) _ = sumU (stepU _ l[i]) _ from e))
  · rintro rfl
    rw [List.set_getElem_self]
end Go.Proofs.YtpnniiildnkeaaaDoor
