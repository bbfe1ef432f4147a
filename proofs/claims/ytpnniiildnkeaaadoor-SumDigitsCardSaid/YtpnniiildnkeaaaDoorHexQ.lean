/-
  ParseUint of Go's library at base 16 and 64 bits.
-/
import Derived.Test.YtpnniiildnkeaaaDoorHexP
import Derived.Lib.ConvBytes
import Derived.Lib.AtoiAllMem
import Derived.Lib.Strings
import Derived.Lib.Walk
import Derived.Lib.Hide
import Derived.Laws.Strings3
import Derived.Laws.Closers25
import Derived.Laws.Closers25b
import Derived.BigCall
import Derived.BigGuard
namespace Go.Proofs.YtpnniiildnkeaaaDoor
open Go.RowKit
set_option linter.unusedVariables false

theorem u8_or (x y : UInt8) : bits .or .u8 (x.toNat : Int) (y.toNat : Int) = ((x ||| y).toNat : Int) := by
  show IntKind.u8.wrap ((BitVec.ofInt 8 (x.toNat : Int) ||| BitVec.ofInt 8 (y.toNat : Int)).toNat : Int) = _
  have e : ∀ z : UInt8, BitVec.ofInt 8 (z.toNat : Int) = z.toBitVec := fun z => by
    rw [BitVec.ofInt_natCast]; exact BitVec.eq_of_toNat_eq (by simp)
  rw [e, e, ← UInt8.toBitVec_or]
  generalize x ||| y = z
  have hz := z.toNat_lt
  show IntKind.u8.wrap (z.toNat : Int) = (z.toNat : Int)
  simp only [IntKind.wrap, IntKind.signed, IntKind.bits]
  simp
  omega
theorem lower_u8 (c : UInt8) (w : World) : Calls Tryd.prog 46 #[.int .u8 (c.toNat : Int)] w fun e w' => e = .returned (.int .u8 ((c ||| 32).toNat : Int)) ∧ w' = w := by
  have h := u8_or c 32
  have e : ((32 : UInt8).toNat : Int) = 32 := rfl
  rw [e] at h
  go_enter Tryd.func46, Tryd.ntmps46
  go_wp2
  go_ret
  exact ⟨rfl, rfl⟩
theorem low_ways (c : UInt8) : 97 ≤ (c ||| 32).toNat → (c ||| 32).toNat ≤ 122 → 57 < c.toNat ∧ c.toNat ≠ 95 := by
  have : ∀ n : Fin 256, 97 ≤ (UInt8.ofNat n.val ||| 32).toNat → (UInt8.ofNat n.val ||| 32).toNat ≤ 122 → 57 < (UInt8.ofNat n.val).toNat ∧ (UInt8.ofNat n.val).toNat ≠ 95 := by decide +kernel
  have h := this ⟨c.toNat, c.toNat_lt⟩
  rwa [UInt8.ofNat_toNat] at h

set_option maxHeartbeats 32000000 in
set_option maxRecDepth 100000 in
theorem ipu16_any (t : ByteArray) (hne : t.size ≠ 0) (hmax : t.size ≤ 1000000) (w : World) :
    Calls Tryd.prog 35 #[.string t, .int .i64 16, .int .i64 64] w fun e w' => e = .returned (Lib.uintTuple 81 (pu16 0 t.data.toList)) ∧ w' = Lib.bytesWorld w 5 t := by
  have hemp : t.toList.isEmpty = false := by
    rw [← decide_eq_emptyBytes]
    exact decide_eq_false (fun h => hne (by rw [h]; rfl))
  have hcv := Lib.run_convert_string_bytes (P := Tryd.prog) w 9 23 5 t (u := .string) Tryd.underlying9 Tryd.underlying23 Tryd.underlying5
  have hB : ∀ j, j < t.size → (Lib.bytesWorld w 5 t).cell? ⟨w.heap.size, j, none⟩ = some (.int .u8 (t.data.toList.getD j 0).toNat) := fun j hj => Lib.bytesWorld_cell w 5 t j hj
  obtain ⟨W1, hW1⟩ : ∃ W1, W1 = Lib.bytesWorld w 5 t := ⟨_, rfl⟩
  rw [← hW1] at hcv hB ⊢
  clear hW1
  obtain ⟨bs, hL⟩ : ∃ bs, bs = t.data.toList := ⟨_, rfl⟩
  have hLn : bs.length = t.size := by rw [hL, Lib.size_eq]
  rw [← hL] at hB ⊢
  clear hL
  have hmv : IntKind.u64.wrap (IntKind.u64.wrap 18446744073709551616 - 1) = 18446744073709551615 := by
    rw [IntKind.wrap_u64, IntKind.wrap_u64]
    decide
  go_enter Tryd.func35, Tryd.ntmps35
  go_wp2
  go_loop [12, 13, 101] (fun vu vn vi => ∃ (k acc : Nat) (a : Int), vu = .bool false ∧ vn = .int .u64 a ∧ vi = .int .i64 k ∧ k ≤ t.size ∧ Hid (a = (acc : Int) ∧ acc < 18446744073709551616 ∧ pu16 0 bs = pu16 acc (bs.drop k)))
    (fun _ _ vi => t.size - (intOf vi).toNat)
  case atStart => exact ⟨0, 0, 0, rfl, rfl, rfl, by omega, rfl, by omega, rfl⟩
  case round =>
    obtain ⟨k, acc, a, rfl, rfl, rfl, hk, hh⟩ := hrel
    obtain ⟨ha, hacc, hdec⟩ := hh.out
    clear hh
    have a0 : 0 ≤ a := by omega
    have a1 : a < 18446744073709551616 := by omega
    by_cases hkn : k < t.size
    · have hc := hB k hkn
      have hdrop : bs.drop k = bs[k]'(by omega) :: bs.drop (k + 1) := List.drop_eq_getElem_cons (by omega)
      have hget : bs.getD k 0 = bs[k]'(by omega) := by simp [List.getD, List.getElem?_eq_getElem (show k < bs.length by omega)]
      rw [hdrop] at hdec
      rw [hget] at hc
      generalize bs[k]'(by omega) = c at hc hdec
      have hc256 : c.toNat < 256 := c.toNat_lt
      clear hB hdrop hget
      by_cases hdig : 48 ≤ c.toNat ∧ c.toNat ≤ 57
      · obtain ⟨hd0, hd1⟩ := hdig
        have hv : hexV c = some (c.toNat - 48) := by unfold hexV; rw [if_pos ⟨hd0, hd1⟩]
        by_cases hcut : 1152921504606846976 ≤ acc
        · have hF : pu16 acc (c :: bs.drop (k + 1)) = .range := by simp [pu16, hv, hcut]
          rw [hF] at hdec
          have icut : 1152921504606846976 ≤ a := by omega
          clear hcut hacc hF ha hv
          go_wp2
          go_ret2
          first | exact ⟨rfl, rfl⟩ | exact ⟨by rw [hdec]; rfl, rfl⟩
        · have hF : pu16 acc (c :: bs.drop (k + 1)) = pu16 (acc * 16 + (c.toNat - 48)) (bs.drop (k + 1)) := by simp [pu16, hv, hcut]
          have HN : Hid (a * 16 + ((c.toNat : Int) - 48) = ((acc * 16 + (c.toNat - 48) : Nat) : Int) ∧ acc * 16 + (c.toNat - 48) < 18446744073709551616 ∧ pu16 0 bs = pu16 (acc * 16 + (c.toNat - 48)) (bs.drop (k + 1))) := Lib.hid ⟨by omega, by omega, hdec.trans hF⟩
          have icut : a < 1152921504606846976 := by omega
          have iov : a * 16 + ((c.toNat : Int) - 48) < 18446744073709551616 := by omega
          clear hcut hacc hF hdec ha hv
          go_wp2
          refine ⟨⟨k + 1, acc * 16 + (c.toNat - 48), a * 16 + ((c.toNat : Int) - 48), rfl, (by first | rfl | (congr 1; omega)), (by first | rfl | (congr 1; omega)), by omega, HN⟩, by simp [intOf]; omega⟩
      · by_cases hlet : 97 ≤ (c ||| 32).toNat ∧ (c ||| 32).toNat ≤ 102
        · obtain ⟨hd0, hd1⟩ := hlet
          have hv : hexV c = some ((c ||| 32).toNat - 87) := by unfold hexV; rw [if_neg hdig, if_pos ⟨hd0, hd1⟩]
          obtain ⟨hw1, hw2⟩ := low_ways c hd0 (by omega)
          have hw3 : ((c.toNat : Int) == 95) = false := by rw [beq_eq_false_iff_ne]; omega
          generalize hq : (c ||| 32) = q at *
          have HQ : Hid ((c ||| 32) = q) := Lib.hid hq
          clear hq
          by_cases hcut : 1152921504606846976 ≤ acc
          · have hF : pu16 acc (c :: bs.drop (k + 1)) = .range := by simp [pu16, hv, hcut]
            rw [hF] at hdec
            have icut : 1152921504606846976 ≤ a := by omega
            clear hcut hacc hF ha hv hdig hw2
            go_wp2_with (go_at_call 46; refine (lower_u8 _ _).mono ?_; rw [HQ.out]; rintro e w' ⟨rfl, rfl⟩)
            go_ret2
            first | exact ⟨rfl, rfl⟩ | exact ⟨by rw [hdec]; rfl, rfl⟩
          · have hF : pu16 acc (c :: bs.drop (k + 1)) = pu16 (acc * 16 + (q.toNat - 87)) (bs.drop (k + 1)) := by simp [pu16, hv, hcut]
            have HN : Hid (a * 16 + ((q.toNat : Int) - 97 + 10) = ((acc * 16 + (q.toNat - 87) : Nat) : Int) ∧ acc * 16 + (q.toNat - 87) < 18446744073709551616 ∧ pu16 0 bs = pu16 (acc * 16 + (q.toNat - 87)) (bs.drop (k + 1))) := Lib.hid ⟨by omega, by omega, hdec.trans hF⟩
            have icut : a < 1152921504606846976 := by omega
            have iov : a * 16 + ((q.toNat : Int) - 97 + 10) < 18446744073709551616 := by omega
            clear hcut hacc hF hdec ha hv hdig hw2
            go_wp2_with (go_at_call 46; refine (lower_u8 _ _).mono ?_; rw [HQ.out]; rintro e w' ⟨rfl, rfl⟩)
            refine ⟨⟨k + 1, acc * 16 + (q.toNat - 87), a * 16 + ((q.toNat : Int) - 97 + 10), rfl, (by first | rfl | (congr 1; omega)), (by first | rfl | (congr 1; omega)), by omega, HN⟩, by simp [intOf]; omega⟩
        · have hv : hexV c = none := by unfold hexV; rw [if_neg hdig, if_neg hlet]
          have hF : pu16 acc (c :: bs.drop (k + 1)) = .syntax := by simp [pu16, hv]
          rw [hF] at hdec
          have hlz := (c ||| 32).toNat_lt
          clear hacc hF ha hv
          generalize hq : (c ||| 32) = q at *
          have HQ : Hid ((c ||| 32) = q) := Lib.hid hq
          clear hq
          have h1 : c.toNat < 48 ∨ 57 < c.toNat := by omega
          have h2 : q.toNat < 97 ∨ (102 < q.toNat ∧ q.toNat ≤ 122) ∨ 122 < q.toNat := by omega
          clear hdig hlet
          rcases h1 with h1 | h1 <;> rcases h2 with h2 | ⟨h2, h3⟩ | h2
          all_goals by_cases h95 : c.toNat = 95
          all_goals first
            | (have h95' : ((c.toNat : Int) == 95) = true := by (rw [beq_iff_eq]; omega)
               clear h95)
            | (have h95' : ((c.toNat : Int) == 95) = false := by (rw [beq_eq_false_iff_ne]; omega)
               clear h95)
          all_goals go_wp2_with (go_at_call 46; refine (lower_u8 _ _).mono ?_; rw [HQ.out]; rintro e w' ⟨rfl, rfl⟩)
          all_goals go_ret2
          all_goals first | exact ⟨rfl, rfl⟩ | exact ⟨by rw [hdec]; rfl, rfl⟩
    · have hkk : k = t.size := by omega
      subst hkk
      have hF : pu16 acc (bs.drop t.size) = .ok acc := by rw [List.drop_eq_nil_of_le (by omega)]; rfl
      rw [hF] at hdec
      subst ha
      clear hacc hF a0 a1
      go_wp2
      go_ret2
      first | exact ⟨rfl, rfl⟩ | exact ⟨by rw [hdec]; rfl, rfl⟩
end Go.Proofs.YtpnniiildnkeaaaDoor
