/-
  The walks of SumParts and SumRight.
-/
import Derived.Test.YtpnniiildnkeaaaDoorSumE
namespace Go.Proofs.YtpnniiildnkeaaaDoor
open Go.RowKit
set_option linter.unusedVariables false

set_option maxRecDepth 100000 in
set_option maxHeartbeats 1000000 in
theorem parts_law (h : UInt64) (A B : Option Addr) (ca cb : Nat) (a b : List UInt8) (w : World) (ht : TZ w) (ha : Sl w A ca a) (hb : Sl w B cb b) :
    Calls Tryd.prog 3 #[.int .u64 (h.toNat : Int), .slice A a.length ca, .slice B b.length cb] w fun e w' => e = .returned (.bool true) ∧ Ext w w' := by
  have hma := ha.max
  have hla := ha.le
  have hmb := hb.max
  have hlb := hb.le
  unfold maxLen at hma hmb
  have ha2 : a.length ≤ 9223372036854775807 := by omega
  have hb2 : b.length ≤ 9223372036854775807 := by omega
  have HA := hide ha
  have HB := hide hb
  have HT := hide ht
  clear ha hb ht hma hla hmb hlb
  go_enter Tryd.func3, Tryd.ntmps3
  go_wp2_with fail
  refine (awake02_any w HT.out).mono ?_
  rintro e w1 ⟨rfl, he⟩
  have HA := hide (HA.out.ext he)
  have HB := hide (HB.out.ext he)
  have HX := hide he
  clear he
  by_cases h1 : 600 < a.length
  · go_wp2_with fail
    go_ret
    exact ⟨rfl, HX.out⟩
  by_cases h2 : 600 < b.length
  · go_wp2_with fail
    go_ret
    exact ⟨rfl, HX.out⟩
  go_wp2_with (first
    | (at_builtin; refine wpList_appendE bt rfl _ _ rfl w1.heap.size _ rfl (EmB.new w1 5 (Nat.le_refl _)) A ca a rfl (HA.out.ext (Ext.alloc w1 _)) (by omega) (by simp) ?_; intro A2 c2 w2 q1 q2; have q2 := Ext.trans (Ext.alloc w1 _) q2; have HO2 := hide q1; have HB2 := hide (HB.out.ext q2); have HA2 := hide (HA.out.ext q2); have HX2 := hide q2; clear q1 q2)
    | (at_builtin; refine wpList_appendB bt rfl _ _ rfl w1.heap.size _ a rfl HO2.out B cb b rfl HB2.out (by omega) (by exact HX2.out.size) ?_; intro A3 c3 w3 q1 q2 _; have HO3 := hide q1.sl.2; have HX3 := hide (Below.grown HX2.out q2 HX2.out.size (HO2.out.below)); clear q1 q2)
    | fail)
  have hl : a.length + b.length = (a ++ b).length := by simp
  simp only [hl]
  refine (from_any h A3 c3 (a ++ b) w3 HO3.out).mono ?_
  rintro e w' ⟨rfl, rfl⟩
  have HA3 := hide (HA.out.ext HX3.out)
  have HB3 := hide (HB.out.ext HX3.out)
  clear hl
  go_wp2_with fail
  refine (from_any h A ca a w3 HA3.out).mono ?_
  rintro e w' ⟨rfl, rfl⟩
  go_wp2_with fail
  refine (from_any _ B cb b w3 HB3.out).mono ?_
  rintro e w' ⟨rfl, rfl⟩
  go_wp2_with fail
  go_ret
  exact ⟨ret_bool (by rw [sumU_append]; simp), HX.out.trans HX3.out⟩
theorem u64_of_wf {n : Int} (h : (Lit.int .u64 n).wf = true) : n = ((UInt64.ofNat n.toNat).toNat : Int) := by
  have := (by simpa [Lit.wf, IntKind.min, IntKind.max, IntKind.signed, IntKind.bits] using h : 0 ≤ n ∧ n ≤ 18446744073709551615)
  rw [UInt64.toNat_ofNat']
  omega
theorem parts_law' (h : Int) (A B : Option Addr) (ca cb : Nat) (a b : List UInt8) (w : World) (hh : (Lit.int .u64 h).wf = true) (ht : TZ w) (ha : Sl w A ca a) (hb : Sl w B cb b) :
    Calls Tryd.prog 3 #[.int .u64 h, .slice A a.length ca, .slice B b.length cb] w fun e w' => e = .returned (.bool true) ∧ Ext w w' := by
  rw [u64_of_wf hh]
  exact parts_law _ A B ca cb a b w ht ha hb
end Go.Proofs.YtpnniiildnkeaaaDoor
