/-
  The sums of layer 2: the functions of the program and of the reference that only compute.
-/
import Derived.Test.YtpnniiildnkeaaaDoorSumP
import Derived.Test.YtpnniiildnkeaaaDoorProg
import Derived.Outline
namespace Go.Proofs.YtpnniiildnkeaaaDoor
open Go.RowKit
set_option linter.unusedVariables false

theorem bt : ByteT Tryd.prog 23 5 := ⟨Tryd.underlying23, by kernel_rfl⟩
theorem ret_val {a b : Value} (h : a = b) : Ending.returned a = .returned b := by rw [h]
theorem take_succ' {l : List UInt8} {k : Nat} (h : k < l.length) : l.take (k + 1) = l.take k ++ [l[k]] := by rw [List.take_succ_eq_append_getElem h]
theorem sum_take (h : UInt64) {l : List UInt8} {k : Nat} (hk : k < l.length) : stepU (sumU h (l.take k)) l[k] = sumU h (l.take (k + 1)) := by rw [take_succ' hk, sumU_append]; rfl
set_option maxRecDepth 100000 in
theorem from_any (h : UInt64) (A : Option Addr) (cap : Nat) (l : List UInt8) (w : World) (hs : Sl w A cap l) :
    Calls Tryd.prog 10 #[.int .u64 (h.toNat : Int), .slice A l.length cap] w fun e w' => e = .returned (.int .u64 ((sumU h l).toNat : Int)) ∧ w = w' := by
  have hm := hs.max
  have hle := hs.le
  unfold maxLen at hm
  have hm2 : l.length ≤ 9223372036854775807 := by omega
  have HC : Hid (∀ i, (hi : i < l.length) → ∃ b off, A = some ⟨b, off, none⟩ ∧ w.cell? ⟨b, off + i, none⟩ = some (.int .u8 (l[i].toNat : Int))) := hide (fun i hi => by
    rcases hs.rd with rfl | ⟨b, off, rfl, _, hc⟩
    · simp at hi
    · exact ⟨b, off, rfl, hc i hi⟩)
  clear hs hm hle
  go_enter Tryd.func10, Tryd.ntmps10
  go_wp2_with fail
  go_loop [0, 10] (fun s i => ∃ k : Nat, k ≤ l.length ∧ i = .int .i64 k ∧ s = .int .u64 ((sumU h (l.take k)).toNat : Int)) (fun _ i => l.length - (intOf i).toNat)
  case atStart => exact ⟨0, by omega, rfl, rfl⟩
  case round =>
    obtain ⟨k, hk, rfl, rfl⟩ := hrel
    by_cases hlt : k < l.length
    · obtain ⟨b, off, rfl, hck⟩ := HC.out k hlt
      have HS := hide (sum_take h hlt)
      generalize sumU h (l.take k) = g at *
      generalize l[k] = y at *
      have hy0 : 0 ≤ (g.toNat : Int) := by omega
      go_wp2_with fail
      go_round
      case rel => exact ⟨k + 1, by omega, by go_num, by rw [step_nat, HS.out]⟩
      case measure => simp [intOf]; omega
    · have hkk : k = l.length := by omega
      have HK := hide (show l.take k = l by rw [hkk, List.take_length])
      go_wp2_with fail
      go_ret
      exact ⟨rfl, rfl⟩
set_option maxRecDepth 100000 in
theorem rstep_any (h : UInt64) (b : UInt8) (w : World) : Calls Tryd.prog 23 #[.int .u64 (h.toNat : Int), .int .u8 (b.toNat : Int)] w fun e w' => e = .returned (.int .u64 ((stepU h b).toNat : Int)) ∧ w = w' := by
  go_enter Tryd.func23, Tryd.ntmps23
  go_wp2_with fail
  go_ret
  exact ⟨ret_val (by rw [step_nat]; rfl), rfl⟩
set_option maxRecDepth 100000 in
theorem rfrom_any (h : UInt64) (A : Option Addr) (cap : Nat) (l : List UInt8) (w : World) (hs : Sl w A cap l) :
    Calls Tryd.prog 14 #[.int .u64 (h.toNat : Int), .slice A l.length cap] w fun e w' => e = .returned (.int .u64 ((sumU h l).toNat : Int)) ∧ w = w' := by
  have hm := hs.max
  have hle := hs.le
  unfold maxLen at hm
  have hm2 : l.length ≤ 9223372036854775807 := by omega
  have HC : Hid (∀ i, (hi : i < l.length) → ∃ b off, A = some ⟨b, off, none⟩ ∧ w.cell? ⟨b, off + i, none⟩ = some (.int .u8 (l[i].toNat : Int))) := hide (fun i hi => by
    rcases hs.rd with rfl | ⟨b, off, rfl, _, hc⟩
    · simp at hi
    · exact ⟨b, off, rfl, hc i hi⟩)
  clear hs hm hle
  go_enter Tryd.func14, Tryd.ntmps14
  go_wp2_with fail
  go_loop [0, 5] (fun s i => ∃ k : Nat, k ≤ l.length ∧ i = .int .i64 k ∧ s = .int .u64 ((sumU h (l.take k)).toNat : Int)) (fun _ i => l.length - (intOf i).toNat)
  case atStart => exact ⟨0, by omega, rfl, rfl⟩
  case round =>
    obtain ⟨k, hk, rfl, rfl⟩ := hrel
    by_cases hlt : k < l.length
    · obtain ⟨b, off, rfl, hck⟩ := HC.out k hlt
      have HS := hide (sum_take h hlt)
      generalize sumU h (l.take k) = g at *
      generalize l[k] = y at *
      go_wp2_with (go_at_call 23; refine (rstep_any _ _ _).mono ?_; rintro e w' ⟨rfl, rfl⟩)
      go_round
      case rel => exact ⟨k + 1, by omega, by go_num, by rw [HS.out]⟩
      case measure => simp [intOf]; omega
    · have hkk : k = l.length := by omega
      have HK := hide (show l.take k = l by rw [hkk, List.take_length])
      go_wp2_with fail
      go_ret
      exact ⟨rfl, rfl⟩
set_option maxRecDepth 100000 in
theorem eight_any (base : Nat) (v : Value) (l : List UInt8) (n : Int) (w : World) (hown : Own w base 5 v l) (hb : base ≤ w.heap.size) (hl : l.length ≤ 100000) :
    Calls Tryd.prog 22 #[v, .int .i64 n] w fun e w' => ∃ A cap, e = .returned (.slice A (l.length + 8) cap) ∧ Own w' base 5 (.slice A (l.length + 8) cap) (l ++ eightL (IntKind.u64.wrap n)) ∧ Below base w w' := by
  obtain ⟨A, cap, rfl⟩ := hown.form
  have HO := hide hown
  clear hown
  go_enter Tryd.func22, Tryd.ntmps22
  go_wp2_with fail
  go_loopw [0, 6] (fun v i wr => ∃ (k : Nat) (L : List UInt8) (A : Option Addr) (cap : Nat), k ≤ 8 ∧ i = .int .i64 k ∧ v = .slice A L.length cap ∧ Below base w wr ∧ Hid (L = l ++ (eightL (IntKind.u64.wrap n)).take k) ∧ Hid (Own wr base 5 (.slice A L.length cap) L)) (fun _ i _ => 8 - (intOf i).toNat)
  case atStart => exact ⟨0, l, A, cap, by omega, rfl, rfl, Below.refl _ _, hide (by simp), HO⟩
  case round =>
    obtain ⟨k, L, A, cap, hk, rfl, rfl, hbl, HL, HW⟩ := hrel
    have HB := hide hbl
    have hbs := hbl.size
    clear hbl
    by_cases hlt : k < 8
    · have HLL := hide (show L.length = l.length + k by rw [HL.out]; simp [eightL_length]; omega)
      have hx := byteN_toNat (IntKind.u64.wrap n) k
      have HT := hide (eightL_take (IntKind.u64.wrap n) hlt)
      generalize byteN (IntKind.u64.wrap n) k = b at *
      go_wp2_with (at_builtin; refine wpList_appendB bt rfl _ _ rfl base _ L rfl (HW.out.ext (Ext.alloc wr _)) _ _ [b] rfl (sl_one wr 5 b) (by have := HLL.out; simp; omega) (by simp; omega) ?_; intro A' cap' w' q1 q2 _; have HW' := hide q1; have HB' := hide (Below.grown (HB.out.alloc (Nat.le_trans hb hbs) _) q2 (by simp; omega) (HW.out.below)); clear q1 q2)
      go_roundw
      case rel => exact ⟨k + 1, L ++ [b], A', cap', by omega, by go_num, by simp, HB'.out, hide (by rw [HL.out, HT.out, List.append_assoc]), hide (by have := HW'.out; simpa using this)⟩
      case measure => simp [intOf]; omega
    · have hkk : k = 8 := by omega
      have HE := hide (show L = l ++ eightL (IntKind.u64.wrap n) by rw [HL.out, hkk, eightL_all])
      have HLL := hide (show L.length = l.length + 8 by rw [HE.out]; simp [eightL_length])
      go_wp2_with fail
      go_ret
      rw [HLL.out] at *
      refine ⟨A, cap, rfl, ?_, HB.out⟩
      have := HW.out
      rw [HE.out] at this
      simpa [eightL_length] using this
end Go.Proofs.YtpnniiildnkeaaaDoor
