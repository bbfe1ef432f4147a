/-
  Eight of the reference; Of and Answer of the program and of the reference.
-/
import Derived.Test.YtpnniiildnkeaaaDoorSumA
import Derived.LoopN
namespace Go.Proofs.YtpnniiildnkeaaaDoor
open Go.RowKit
set_option linter.unusedVariables false

def startU : UInt64 := 125762890854254
theorem start_nat : (125762890854254 : Int) = (startU.toNat : Int) := by decide
def u64 (n : Int) : Int := IntKind.u64.wrap n
theorem u64_bd (n : Int) : 0 ≤ IntKind.u64.wrap n ∧ IntKind.u64.wrap n < 18446744073709551616 := by rw [IntKind.wrap_u64]; omega
def ofU (l : List UInt8) : UInt64 := sumU (sumU startU l) (eightL (IntKind.u64.wrap l.length))
def headL (a b c d : Int) : List UInt8 := eightL (IntKind.u64.wrap a) ++ eightL (IntKind.u64.wrap b) ++ eightL (IntKind.u64.wrap c) ++ eightL (IntKind.u64.wrap d)
def ansU (a b c : Int) (l : List UInt8) : UInt64 := sumU (sumU startU (headL a b c l.length)) l
def ansI (a b c : Int) (l : List UInt8) : Int := wrap64 ((ansU a b c l).toNat : Int)
theorem div_div (N : Int) (k : Nat) (h : 0 ≤ N) : N / 2 ^ (8 * k) / 256 = N / 2 ^ (8 * (k + 1)) := by
  rw [show (8 * (k + 1)) = 8 * k + 8 from by omega, Int.pow_add, Int.ediv_ediv_of_nonneg (Int.le_of_lt (Int.pow_pos (by omega)))]
  rfl
set_option maxRecDepth 100000 in
theorem reight_any (N : Int) (w : World) (h0 : 0 ≤ N) (h1 : N < 18446744073709551616) :
    Calls Tryd.prog 24 #[.int .u64 N] w fun e w' => ∃ A cap, e = .returned (.slice A 8 cap) ∧ Own w' w.heap.size 5 (.slice A 8 cap) (eightL N) ∧ Ext w w' := by
  go_enter Tryd.func24, Tryd.ntmps24
  go_wp2_with fail
  go_loopw [0, 3, 4] (fun x v i wr => ∃ (k : Nat) (L : List UInt8) (A : Option Addr) (cap : Nat) (y : Int), k ≤ 8 ∧ i = .int .i64 k ∧ x = .int .u64 y ∧ v = .slice A L.length cap ∧ 0 ≤ y ∧ y < 18446744073709551616 ∧ Below w.heap.size w wr ∧ Hid (y = N / 2 ^ (8 * k)) ∧ Hid (L = (eightL N).take k) ∧ Hid (Own wr w.heap.size 5 (.slice A L.length cap) L)) (fun _ _ i _ => 8 - (intOf i).toNat)
  case atStart => exact ⟨0, [], none, 0, N, by omega, rfl, rfl, rfl, h0, h1, Below.refl _ _, hide (by simp), hide rfl, hide (Own.nil_ _ _ _)⟩
  case round =>
    obtain ⟨k, L, A, cap, y, hk, rfl, rfl, rfl, hy0, hy1, hbl, HY, HL, HW⟩ := hrel
    have HB := hide hbl
    have hbs := hbl.size
    clear hbl
    by_cases hlt : k < 8
    · have HLL := hide (show L.length = k by rw [HL.out]; simp [eightL_length]; omega)
      have hx : y % 256 = ((byteN N k).toNat : Int) := by rw [← byteN_toNat, HY.out]
      have HD := hide (show y / 256 = N / 2 ^ (8 * (k + 1)) by rw [HY.out]; exact div_div N k h0)
      have HT := hide (eightL_take N hlt)
      have hyd : 0 ≤ y / 256 ∧ y / 256 < 18446744073709551616 := by omega
      generalize byteN N k = b at *
      go_wp2_with (at_builtin; refine wpList_appendB bt rfl _ _ rfl w.heap.size _ L rfl (HW.out.ext (Ext.alloc wr _)) _ _ [b] rfl (sl_one wr 5 b) (by have := HLL.out; simp; omega) (by simp; omega) ?_; intro A' cap' w' q1 q2 _; have HW' := hide q1; have HB' := hide (Below.grown (HB.out.alloc hbs _) q2 (by simp; omega) (HW.out.below)); clear q1 q2)
      go_roundw
      case rel => exact ⟨k + 1, L ++ [b], A', cap', y / 256, by omega, by go_num, by go_num, by simp, hyd.1, hyd.2, HB'.out, HD, hide (by rw [HL.out, HT.out]), hide (by have := HW'.out; simpa using this)⟩
      case measure => simp [intOf]; omega
    · have hkk : k = 8 := by omega
      have HE := hide (show L = eightL N by rw [HL.out, hkk, eightL_all])
      have HLL := hide (show L.length = 8 by rw [HE.out]; exact eightL_length N)
      go_wp2_with fail
      go_ret
      rw [HLL.out] at *
      refine ⟨A, cap, rfl, ?_, HB.out⟩
      have := HW.out
      rw [HE.out] at this
      exact this
set_option maxRecDepth 100000 in
theorem of_any (A : Option Addr) (cap : Nat) (l : List UInt8) (w : World) (hs : Sl w A cap l) (hm : l.length ≤ 9223372036854775807) :
    Calls Tryd.prog 15 #[.slice A l.length cap] w fun e w' => e = .returned (.int .u64 ((ofU l).toNat : Int)) ∧ Ext w w' := by
  have HS := hide hs
  clear hs
  have hst := start_nat
  go_enter Tryd.func15, Tryd.ntmps15
  go_wp2_with fail
  have hf := from_any startU _ _ _ _ HS.out
  rw [← start_nat] at hf
  refine hf.mono ?_
  clear hf
  rintro e w' ⟨rfl, rfl⟩
  go_wp2_with fail
  refine (eight_any w.heap.size _ [] _ w (Own.nil_ _ _ _) (Nat.le_refl _) (by simp)).mono ?_
  rintro e w1 ⟨A1, c1, rfl, q1, q2⟩
  simp only [List.nil_append, List.length_nil, Nat.zero_add] at q1 ⊢
  have HQ1 := hide q1.sl.2
  have HQ2 := hide q2
  clear q1 q2
  go_wp2_with fail
  refine (from_any _ A1 c1 (eightL (IntKind.u64.wrap l.length)) _ HQ1.out).mono ?_
  rintro e w' ⟨rfl, rfl⟩
  go_wp2_with fail
  go_ret
  exact ⟨rfl, HQ2.out⟩

set_option maxRecDepth 100000 in
theorem rof_any (A : Option Addr) (cap : Nat) (l : List UInt8) (w : World) (hs : Sl w A cap l) (hm : l.length ≤ 9223372036854775807) :
    Calls Tryd.prog 16 #[.slice A l.length cap] w fun e w' => e = .returned (.int .u64 ((ofU l).toNat : Int)) ∧ Ext w w' := by
  have HS := hide hs
  clear hs
  have hst := start_nat
  go_enter Tryd.func16, Tryd.ntmps16
  go_wp2_with fail
  have hf := rfrom_any startU _ _ _ _ HS.out
  rw [← start_nat] at hf
  refine hf.mono ?_
  clear hf
  rintro e w' ⟨rfl, rfl⟩
  go_wp2_with fail
  have HWL := hide (show IntKind.u64.wrap (l.length : Int) = l.length by rw [IntKind.wrap_u64]; omega)
  refine (reight_any (l.length : Int) w (by omega) (by omega)).mono ?_
  rintro e w1 ⟨A1, c1, rfl, q1, q2⟩
  rw [← HWL.out] at q1
  have HQ1 := hide q1.sl.2
  have HQ2 := hide q2
  clear q1 q2
  go_wp2_with fail
  refine (rfrom_any _ A1 c1 (eightL (IntKind.u64.wrap l.length)) _ HQ1.out).mono ?_
  rintro e w' ⟨rfl, rfl⟩
  go_wp2_with fail
  go_ret
  exact ⟨rfl, HQ2.out⟩
theorem eight_m (base : Nat) (v : Value) (l : List UInt8) (n : Int) (m m' : Nat) (w : World) (hown : Own w base 5 v l) (hb : base ≤ w.heap.size) (hl : l.length ≤ 100000) (hm : l.length = m) (hm' : m + 8 = m') :
    Calls Tryd.prog 22 #[v, .int .i64 n] w fun e w' => ∃ A cap, e = .returned (.slice A m' cap) ∧ Own w' base 5 (.slice A m' cap) (l ++ eightL (IntKind.u64.wrap n)) ∧ Below base w w' := by
  subst hm hm'
  exact eight_any base v l n w hown hb hl
set_option maxRecDepth 100000 in
set_option maxHeartbeats 1000000 in
theorem answer_any (a b c : Int) (A : Option Addr) (cap : Nat) (l : List UInt8) (w : World) (hs : Sl w A cap l) (hm : l.length ≤ 9223372036854775807) :
    Calls Tryd.prog 13 #[.int .i64 a, .int .i64 b, .int .i64 c, .slice A l.length cap] w fun e w' => e = .returned (.int .i64 (ansI a b c l)) ∧ Ext w w' := by
  have HS := hide hs
  clear hs
  have i0 : ∀ w, (Instr.index 27 (.agg #[.int .i64 a, .int .i64 b, .int .i64 c, .int .i64 l.length]) (.int .i64 0)).run Tryd.prog w = .ok (.int .i64 a) w := fun _ => by kernel_rfl
  have i1 : ∀ w, (Instr.index 27 (.agg #[.int .i64 a, .int .i64 b, .int .i64 c, .int .i64 l.length]) (.int .i64 1)).run Tryd.prog w = .ok (.int .i64 b) w := fun _ => by kernel_rfl
  have i2 : ∀ w, (Instr.index 27 (.agg #[.int .i64 a, .int .i64 b, .int .i64 c, .int .i64 l.length]) (.int .i64 2)).run Tryd.prog w = .ok (.int .i64 c) w := fun _ => by kernel_rfl
  have i3 : ∀ w, (Instr.index 27 (.agg #[.int .i64 a, .int .i64 b, .int .i64 c, .int .i64 l.length]) (.int .i64 3)).run Tryd.prog w = .ok (.int .i64 l.length) w := fun _ => by kernel_rfl
  go_enter Tryd.func13, Tryd.ntmps13
  go_wp2_with fail
  refine wp_loop_rounds 5 ?_
  rw [rounds_succ]
  go_wp2_with fail
  refine (eight_m w.heap.size _ [] _ 0 8 _ (Own.nil_ _ _ _) (Nat.le_refl _) (by simp) (by simp) rfl).mono ?_
  rintro e w1 ⟨A1, c1, rfl, q1, q2⟩
  have HO1 := hide q1
  have HB1 := hide (q2)
  clear q1 q2
  go_wp2_with fail
  rw [rounds_succ]
  go_wp2_with fail
  refine (eight_m w.heap.size _ ([] ++ eightL (IntKind.u64.wrap a)) _ 8 16 _ HO1.out HB1.out.size (by simp [eightL_length]) (by simp [eightL_length]) rfl).mono ?_
  rintro e w2 ⟨A2, c2, rfl, q1, q2⟩
  have HO2 := hide q1
  have HB2 := hide (HB1.out.trans q2)
  clear q1 q2
  go_wp2_with fail
  rw [rounds_succ]
  go_wp2_with fail
  refine (eight_m w.heap.size _ ([] ++ eightL (IntKind.u64.wrap a) ++ eightL (IntKind.u64.wrap b)) _ 16 24 _ HO2.out HB2.out.size (by simp [eightL_length]) (by simp [eightL_length]) rfl).mono ?_
  rintro e w3 ⟨A3, c3, rfl, q1, q2⟩
  have HO3 := hide q1
  have HB3 := hide (HB2.out.trans q2)
  clear q1 q2
  go_wp2_with fail
  rw [rounds_succ]
  go_wp2_with fail
  refine (eight_m w.heap.size _ ([] ++ eightL (IntKind.u64.wrap a) ++ eightL (IntKind.u64.wrap b) ++ eightL (IntKind.u64.wrap c)) _ 24 32 _ HO3.out HB3.out.size (by simp [eightL_length]) (by simp [eightL_length]) rfl).mono ?_
  rintro e w4 ⟨A4, c4, rfl, q1, q2⟩
  have HO4 := hide q1
  have HB4 := hide (HB3.out.trans q2)
  clear q1 q2
  go_wp2_with fail
  have HH := hide (show Own w4 w.heap.size 5 (.slice A4 (headL a b c l.length).length c4) (headL a b c l.length) by have := HO4.out; unfold headL; simpa [eightL_length] using this)
  have hhl : (headL a b c l.length).length = 32 := by unfold headL; simp [eightL_length]
  have HHL := hide hhl
  clear hhl
  rw [rounds_succ]
  go_wp2_with fail
  have hf := from_any startU A4 c4 (headL a b c l.length) w4 HH.out.sl.2
  rw [← start_nat, HHL.out] at hf
  refine hf.mono ?_
  clear hf
  rintro e w' ⟨rfl, rfl⟩
  go_wp2_with fail
  refine (from_any _ _ _ _ _ (HS.out.ext HB4.out)).mono ?_
  rintro e w' ⟨rfl, rfl⟩
  go_wp2_with fail
  go_ret
  exact ⟨rfl, HB4.out⟩
end Go.Proofs.YtpnniiildnkeaaaDoor
