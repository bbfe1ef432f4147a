/-
  The example that every statement of layer 3 checks first.
-/
import Derived.Test.YtfcmngiekdhfpaaImgC
import Derived.Test.YtfcmngiekdhfpaaImgD
namespace Go.Proofs.Ytfcmngiekdhfpaa
open Go.RowKit
set_option linter.unusedVariables false

def awA : List UInt8 := List.replicate 300 0
def awB : List UInt8 := awA.set 200 1
theorem aw_diff1 : diffL awA awB = [((1 : Int), pageL awB 1)] := by decide +kernel
theorem aw_diff2 : diffL awA (awA.take 256) = [] := by decide +kernel
theorem awA_length : awA.length = 300 := List.length_replicate
theorem awA_ne : awA ≠ [] := fun e => by have := congrArg List.length e; rw [awA_length] at this; cases this
theorem aw_cell {w : World} {g : Nat} (h : ∀ i, (hi : i < awA.length) → w.cell? ⟨g, i, none⟩ = some (.int .u8 (awA[i].toNat : Int))) : w.cell? ⟨g, 200, none⟩ = some (.int .u8 0) := by
  have h1 := h 200 (by rw [awA_length]; omega)
  have e : awA[200]'(by rw [awA_length]; omega) = 0 := List.getElem_replicate _
  rw [e] at h1
  exact h1
theorem awB_length : awB.length = 300 := List.length_set.trans awA_length

set_option maxRecDepth 100000 in
set_option maxHeartbeats 1000000 in
theorem awake_any (w : World) : Calls Try.prog 14 #[] w fun e w' => e = .returned (.bool true) ∧ Ext w w' := by
  go_enter Try.func14, Try.ntmps14
  go_wp2_with (first
    | (refine wpList_makeB bt rfl _ _ rfl 300 (by omega) .i64 .i64 rfl rfl ?_; intro w1 hm1 he1; change Own w1 w.heap.size 5 _ awA at hm1; have HM1 := hide hm1; have HE1 := hide he1; clear hm1 he1)
    | (at_builtin; refine wpList_appendE bt rfl _ _ rfl w1.heap.size _ rfl (EmB.new w1 5 (Nat.le_refl _)) (some ⟨w.heap.size, 0, none⟩) 300 awA (by rw [awA_length]; rfl) (HM1.out.sl.2.ext (Ext.alloc w1 _)) (by rw [awA_length]; omega) (by simp) ?_; rw [awA_length]; intro A2 c2 w2 hm2 he2; obtain ⟨g2, rfl, hb2, hg2, hcap2, hcell2, hfr2⟩ := hm2.at_ awA_ne; have hc200 := aw_cell hcell2; have HM2 := hide hm2; have HE2 := hide (Ext.trans (Ext.alloc w1 _) he2); clear hm2 he2 hcell2))
  have hz1 := HE1.out.size
  have hlt : w.heap.size < w1.heap.size := by
    obtain ⟨g, e, _, h, _⟩ := HM1.out.at_ awA_ne
    injection e with e; injection e with e; omega
  have HB : Hid (Sl (w2.setCell ⟨g2, 200, none⟩ (.int .u8 1)) (some ⟨g2, 0, none⟩) c2 awB) := (HM2.out.set 200 1).sl.2
  have HA : Hid (Sl (w2.setCell ⟨g2, 200, none⟩ (.int .u8 1)) (some ⟨w.heap.size, 0, none⟩) 300 awA) := HM1.out.sl.2.ext (HE2.out.set (p := ⟨g2, 200, none⟩) hb2 _)
  have HE3 : Hid (Ext w (w2.setCell ⟨g2, 200, none⟩ (.int .u8 1))) := (HE1.out.trans HE2.out).set (p := ⟨g2, 200, none⟩) (Nat.le_trans hz1 hb2) _
  clear HM1 HM2 HE1 HE2
  go_wp2_with fail
  have hd1 := diff_any _ _ _ _ awA awB _ HA.out HB.out (by rw [awA_length]; omega) (by rw [awB_length]; omega)
  rw [awA_length, awB_length, aw_diff1] at hd1
  refine hd1.mono ?_
  clear hd1 hc200 hfr2
  rintro e w4 ⟨C, cap, rfl, hch, he4⟩
  have HC := hide hch
  have HA4 := hide (HA.out.ext he4)
  have HE4 := hide (HE3.out.trans he4)
  have hlt4 : w.heap.size < w4.heap.size := by have := he4.size; simp [World.setCell] at this; omega
  clear HA HB HE3 hch he4
  go_wp2_with fail
  have hA5 := HA4.out.ext (Ext.alloc w4 (.cells #[.int .i64 300, .slice C 1 cap] 29))
  have hB5 : Sl (w4.alloc (.cells #[.int .i64 300, .slice C 1 cap] 29)) (some ⟨w.heap.size, 0, none⟩) 300 (awA.take 256) := by
    obtain ⟨b, off, e, _, h⟩ := hA5.cut 0 256 300 (by omega) (by rw [awA_length]; omega) (by omega) (by omega)
    injection e with e
    injection e with e1 e2
    subst e1 e2
    exact h
  have hl5 : (awA.take 256).length = 256 := by rw [List.length_take, awA_length]; rfl
  have hd2 := diff_any _ _ _ _ awA (awA.take 256) _ hA5 hB5 (by rw [awA_length]; omega) (by rw [hl5]; omega)
  rw [awA_length, hl5, aw_diff2] at hd2
  refine hd2.mono ?_
  clear hd2 hA5 hB5 hl5
  rintro e w5 ⟨D, cap2, rfl, _, he5⟩
  obtain ⟨b, off, Ai, ci, rfl, hb, hc1, _, _⟩ := HC.out.at_ 0 (by simp)
  simp only [Nat.zero_mul, Nat.add_zero, List.getElem_cons_zero] at hc1
  have hz5 := he5.size
  simp only [World.size_alloc] at hz5
  have hp5 := (Blk.new w4 29 #[.int .i64 300, .slice (some ⟨b, off, none⟩) 1 cap]).ext he5
  have hk5 := (((Ext.alloc w4 _).trans he5).cell b off hb).trans hc1
  have hp6 := (hp5.alloc (.cells #[.int .i64 256, .slice D 0 cap2] 29)).cell
  have hq6 := (Blk.new w5 29 #[.int .i64 256, .slice D 0 cap2]).cell
  have hk6 := ((Ext.alloc w5 (.cells #[.int .i64 256, .slice D 0 cap2] 29)).cell b off (by omega)).trans hk5
  have HE6 := hide ((HE4.out.trans ((Ext.alloc w4 _).trans he5)).trans (Ext.alloc w5 (.cells #[.int .i64 256, .slice D 0 cap2] 29)))
  clear hp5 hk5 hc1 HC HE4 HA4 he5
  go_wp2_with (go_at_call 15; refine (count_any _ _ (by omega)).mono ?_; rw [show cnt 300 = 3 from by decide]; rintro e w' ⟨rfl, rfl⟩)
  go_ret
  exact ⟨rfl, HE6.out⟩
end Go.Proofs.Ytfcmngiekdhfpaa
