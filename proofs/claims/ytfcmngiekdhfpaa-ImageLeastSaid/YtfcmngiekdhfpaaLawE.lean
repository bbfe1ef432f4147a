/-
  The walk of ImageLimit.
-/
import Derived.Test.YtfcmngiekdhfpaaLawC
import Derived.Test.YtfcmngiekdhfpaaImgF
import Derived.Test.YtfcmngiekdhfpaaPlainA
namespace Go.Proofs.Ytfcmngiekdhfpaa
open Go.RowKit
set_option linter.unusedVariables false

def bigL : List UInt8 := List.replicate 24001 0
theorem bigL_length : bigL.length = 24001 := List.length_replicate
theorem bigL_ne : bigL ≠ [] := fun e => by have := congrArg List.length e; rw [bigL_length] at this; cases this
theorem bigT_length (n : Nat) (h : n ≤ 24001) : (bigL.take n).length = n := by rw [List.length_take, bigL_length]; omega
theorem bigD_length : (diffL [] (bigL.take 24000)).length = 188 := by
  rw [diff_nil_length, bigT_length 24000 (by omega)]; decide

theorem Sl.take {w : World} {A : Option Addr} {cap : Nat} {l : List UInt8} (h : Sl w A cap l) (n : Nat) : Sl w A cap (l.take n) := by
  refine ⟨by have := h.le; rw [List.length_take]; omega, h.max, h.nil, ?_⟩
  rcases h.rd with rfl | ⟨b, off, rfl, hb, hc⟩
  · exact .inl (by simp)
  · exact .inr ⟨b, off, rfl, hb, fun i hi => by rw [List.getElem_take]; exact hc i (by rw [List.length_take] at hi; omega)⟩

set_option maxRecDepth 100000 in
set_option maxHeartbeats 1000000 in
theorem limit_law (n : Int) (w : World) (hn : 0 ≤ n ∧ n ≤ 255) :
    Calls Try.prog 6 #[.int .u8 n] w fun e w' => e = .returned (.bool true) ∧ Ext w w' := by
  obtain ⟨hn1, hn2⟩ := hn
  obtain ⟨k, rfl⟩ := Int.eq_ofNat_of_zero_le hn1
  have hk : k ≤ 255 := by omega
  have HDL := hide (diffL_data [] (bigL.take 24000))
  have HDM := hide (diffL_data bigL (bigL.take k))
  have HV1 := hide (valid_diff [] (bigL.take 24000) (by rw [bigT_length 24000 (by omega)]; omega))
  have HV2 := hide (validP_neg (k : Int) (diffL bigL (bigL.take k)) (-1) (by omega))
  have hdl := diffL_length bigL (bigL.take k)
  rw [bigT_length k (by omega)] at hdl
  have HW := hide (show IntKind.i64.wrap (k : Int) = k from by simp only [IntKind.wrap, IntKind.signed, IntKind.bits]; simp; omega)
  go_enter Try.func6, Try.ntmps6
  go_wp2_with (first
    | (go_at_call 14; refine (awake_any _).mono ?_; rintro e w1 ⟨rfl, hE1⟩; have HE1 := hide hE1; clear hE1)
    | (refine wpList_makeB bt rfl _ _ rfl 24001 (by omega) .i64 .i64 rfl rfl ?_; intro w2 hm2 he2; change Own w2 w1.heap.size 5 _ bigL at hm2; have HM2 := hide hm2.sl.2; have HE2 := hide (HE1.out.trans he2); clear hm2 he2)
    | (go_at_call 19; fail))
  have hd := diff_big none (some ⟨w1.heap.size, 0, none⟩) 0 24001 0 24001 w2 (by omega)
  refine hd.mono ?_
  clear hd
  rintro e w3 ⟨rfl, he3⟩
  have HS3 := hide (HM2.out.ext he3)
  have HE3 := hide (HE2.out.trans he3)
  clear he3 HM2 HE2 HE1
  go_wp2_with fail
  have hE4 := Ext.alloc w3 (.cells #[.int .i64 0, .slice none 0 0] 29)
  have hA := HS3.out.ext hE4
  have hC : Sl (w3.alloc (.cells #[.int .i64 0, .slice none 0 0] 29)) (some ⟨w1.heap.size, 0, none⟩) 24001 (bigL.take 24000) := hA.take _
  have hd := diff_any none (some ⟨w1.heap.size, 0, none⟩) 0 24001 [] (bigL.take 24000) _ (Sl.none_ _) hC (by simp) (by rw [bigT_length 24000 (by omega)]; omega)
  rw [bigT_length 24000 (by omega), bigD_length] at hd
  refine hd.mono ?_
  clear hd hC
  rintro e w5 ⟨C, c, rfl, hch, he5⟩
  have HC5 := hide hch
  have HA5 := hide (hA.ext he5)
  have HE5 := hide (HE3.out.trans (hE4.trans he5))
  have HB5 := hide ((Blk.new w3 29 #[.int .i64 0, .slice none 0 0]).ext he5)
  have hz := HE5.out.size
  clear hA hE4 hch he5 HE3 HS3
  go_wp2_with fail
  have hE6 := Ext.alloc w5 (.cells #[.int .i64 24000, .slice C 188 c] 29)
  have hA := HA5.out.ext hE6
  have hd := diff_any _ _ _ _ bigL (bigL.take k) _ hA (hA.take _) (by rw [bigL_length]; omega) (by rw [bigT_length k (by omega)]; omega)
  rw [bigT_length k (by omega), bigL_length] at hd
  refine hd.mono ?_
  clear hd
  rintro e w6 ⟨D, d, rfl, hch, he6⟩
  have HD6 := hide (hch.ext (Ext.alloc w6 (.cells #[.int .i64 k, .slice D (diffL bigL (bigL.take k)).length d] 29)))
  have HC6 := hide ((HC5.out.ext (hE6.trans he6)).ext (Ext.alloc w6 (.cells #[.int .i64 k, .slice D (diffL bigL (bigL.take k)).length d] 29)))
  have HE6 := hide ((HE5.out.trans (hE6.trans he6)).trans (Ext.alloc w6 (.cells #[.int .i64 k, .slice D (diffL bigL (bigL.take k)).length d] 29)))
  have HP6 := hide (((Blk.new w5 29 #[.int .i64 24000, .slice C 188 c]).ext he6).alloc (.cells #[.int .i64 k, .slice D (diffL bigL (bigL.take k)).length d] 29))
  have HQ6 := hide (Blk.new w6 29 #[.int .i64 k, .slice D (diffL bigL (bigL.take k)).length d])
  clear hA hE6 hch he6 HE5 HA5 HC5 HB5
  go_wp2_with fail
  refine wp_region_ext 33 3 [(10, fun v => v = .int .i64 188, fun _ _ => True), (15, fun v => v = .bool true, fun _ _ => True), (30, fun v => v = .bool false, fun _ _ => True)] mixed (by kernel_rfl) ⟨fun _ _ _ _ _ => trivial, fun _ _ _ _ _ => trivial, fun _ _ _ _ _ => trivial, trivial⟩ ?_
  repeat ((refine seq_exact ?_ (by rfl) (by rfl) (fun w1 hU => ?_) ?_); (rotate_left 1); (focus (have h4 := (HP6.out.ext hU.un).cell; have h5 := (HQ6.out.ext hU.un).cell; have hw := HW.out; clear hU; go_simp; with_reducible rfl)); (simp only [Act.put, List.setIfInBounds_toArray, List.set_cons_zero, List.set_cons_succ]))
  refine seq_opaque _ _ (by rfl) rfl ⟨_, rfl⟩ (by simp) (fun w7 hU hp K hK => ?_) ?_
  · go_simp
    refine (count_any _ _ (by omega)).mono ?_
    rw [show cnt 24000 = 188 from by decide]
    rintro e w8 ⟨rfl, rfl⟩
    exact hK _ _ (Ext.refl _) rfl trivial
  rintro _ rfl
  simp only [Act.put, List.setIfInBounds_toArray, List.set_cons_zero, List.set_cons_succ]
  repeat ((refine seq_exact ?_ (by rfl) (by rfl) (fun w1 hU => ?_) ?_); (rotate_left 1); (focus (have h4 := (HP6.out.ext hU.un).cell; have h5 := (HQ6.out.ext hU.un).cell; have hw := HW.out; clear hU; go_simp; with_reducible rfl)); (simp only [Act.put, List.setIfInBounds_toArray, List.set_cons_zero, List.set_cons_succ]))
  refine seq_opaque _ _ (by rfl) rfl ⟨_, rfl⟩ (by simp) (fun w7 hU hp K hK => ?_) ?_
  · have hv := valid_any 24000 0 C c (diffL [] (bigL.take 24000)) _ (HC6.out.ext hU.un) (by rw [bigD_length]; omega) HDL.out (by omega)
    have h1 := HV1.out
    rw [bigT_length 24000 (by omega)] at h1
    rw [bigD_length, show validP 24000 (diffL [] (bigL.take 24000)) 0 = true from h1] at hv
    go_simp
    refine hv.mono ?_
    rintro e w8 ⟨rfl, he⟩
    exact hK _ _ he rfl trivial
  rintro _ rfl
  simp only [Act.put, List.setIfInBounds_toArray, List.set_cons_zero, List.set_cons_succ]
  repeat ((refine seq_exact ?_ (by rfl) (by rfl) (fun w1 hU => ?_) ?_); (rotate_left 1); (focus (have h4 := (HP6.out.ext hU.un).cell; have h5 := (HQ6.out.ext hU.un).cell; have hw := HW.out; clear hU; go_simp; with_reducible rfl)); (simp only [Act.put, List.setIfInBounds_toArray, List.set_cons_zero, List.set_cons_succ]))
  refine seq_opaque _ _ (by rfl) rfl ⟨_, rfl⟩ (by simp) (fun w7 hU hp K hK => ?_) ?_
  · have hv := valid_any k (-1) D d (diffL bigL (bigL.take k)) _ (HD6.out.ext hU.un) (by omega) HDM.out (by omega)
    rw [HV2.out] at hv
    go_simp
    refine hv.mono ?_
    rintro e w8 ⟨rfl, he⟩
    exact hK _ _ he rfl trivial
  rintro _ rfl
  simp only [Act.put, List.setIfInBounds_toArray, List.set_cons_zero, List.set_cons_succ]
  repeat ((refine seq_exact ?_ (by rfl) (by rfl) (fun w1 hU => ?_) ?_); (rotate_left 1); (focus (have h4 := (HP6.out.ext hU.un).cell; have h5 := (HQ6.out.ext hU.un).cell; have hw := HW.out; clear hU; go_simp; with_reducible rfl)); (simp only [Act.put, List.setIfInBounds_toArray, List.set_cons_zero, List.set_cons_succ]))
  intro w9 hw9 _
  simp only [List.drop_succ_cons, List.drop_zero]
  have HX9 := hide (HE6.out.trans hw9.un)
  clear hw9
  go_wp2
  go_ret
  exact ⟨rfl, HX9.out⟩
end Go.Proofs.Ytfcmngiekdhfpaa
