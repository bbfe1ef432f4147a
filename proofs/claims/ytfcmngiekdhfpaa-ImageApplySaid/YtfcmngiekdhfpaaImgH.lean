/-
  Apply of the program.
-/
import Derived.Test.YtfcmngiekdhfpaaImgG
namespace Go.Proofs.Ytfcmngiekdhfpaa
open Go.RowKit
set_option linter.unusedVariables false

theorem appl_take (out : List UInt8) (cs : List Chg) (j : Nat) (hj : j < cs.length) : appl out (cs.take (j + 1)) = spl (appl out (cs.take j)) (cs[j].1.toNat * 128) cs[j].2 := by
  rw [List.take_succ_eq_append_getElem hj]
  unfold appl
  rw [List.foldl_append]
  rfl
theorem validP_parts {len : Int} {cs : List Chg} {n : Int} (h : validP len cs n = true) : 0 ≤ n ∧ 0 ≤ len ∧ len ≤ 24000 ∧ ordOk len (-1) cs = true ∧ covTo len n cs (cnt len).toNat = true := by
  unfold validP lenOk at h
  simp only [Bool.and_eq_true, Bool.not_eq_true', Bool.or_eq_false_iff, decide_eq_false_iff_not] at h
  exact ⟨by omega, by omega, by omega, h.2.1, h.2.2⟩
set_option maxRecDepth 100000 in
set_option maxHeartbeats 1000000 in
theorem apply_goodR (len : Nat) (A : Option Addr) (ca : Nat) (a : List UInt8) (C : Option Addr) (cap : Nat) (cs : List Chg) (w : World) (ha : Sl w A ca a) (hc : Chs w C cap cs) (hl : cs.length ≤ 65536) (hd : ∀ c ∈ cs, c.2.length ≤ 65536) (hv : validP len cs a.length = true) :
    Calls Try.prog 24 #[.slice A a.length ca, .agg #[.int .i64 len, .slice C cs.length cap]] w fun e w' => ∃ g, e = .returned (.tuple #[.slice (some ⟨g, 0, none⟩) len len, .int .i64 0]) ∧ w.heap.size ≤ g ∧ (applied a len cs).length = len ∧ Rw w' g 5 (applied a len cs) ∧ Ext w w' := by
  obtain ⟨h1, h2, h3, h4, h5⟩ := validP_parts hv
  have hab := ordOk_above h4
  have HV := hide hv
  have HA := hide ha
  have HC := hide hc
  have HD := hide hd
  have hma := ha.max
  have hla := ha.le
  unfold maxLen at hma
  clear ha hc hd hv h1 h5
  go_enter Try.func24, Try.ntmps24
  go_wp2_with (first
    | (go_at_call 23; refine (valid_any _ _ _ _ _ _ (HC.out.ext (Ext.alloc w _)) hl HD.out (by omega)).mono ?_; rw [HV.out]; rintro e w1 ⟨rfl, hE1⟩; have hbp := (Blk.new w 29 #[.int .i64 len, .slice C cs.length cap]).ext hE1; have HE1 := hide ((Ext.alloc w _).trans hE1); have hbc := hbp.cell; have HBP := hide hbp; have hz1 := hbp.lt; clear hE1 hbp)
    | (refine wpList_makeR bt rfl _ _ rfl len (by omega) .i64 .i64 rfl rfl ?_; intro w2 hm2 he2 hs2; have HM2 := hide hm2; have HE2 := hide (HE1.out.trans he2); have HBP2 := hide (HBP.out.ext he2); clear he2 hm2)
    | (refine wpList_copyB bt rfl _ _ rfl w1.heap.size 0 len len rfl _ HM2.out A ca a rfl (HA.out.ext HE2.out) (by simp) ?_; intro w3 k3 hm3 hg3; change Rw w3 _ _ (base0 a len) at hm3; have hbp3 := HBP2.out.grown hg3 (fun e => by injection e with e; omega); have hbc3 := hbp3.cell; have HBP3 := hide hbp3; have HM3 := hide hm3; have HE3 := hide (HE2.out.grown hg3 (fun k e => by injection e with e; omega)); clear hm3 hg3 hbp3 hbc HM2 HE2 HBP2 HBP HE1)
    | fail)
  go_loopw [23] (fun i wr => ∃ (j : Nat) (out : List UInt8), j ≤ cs.length ∧ i = .int .i64 j ∧ out.length = len ∧ Hid (out = appl (base0 a len) (cs.take j)) ∧ Rw wr w1.heap.size 5 out ∧
      Blk wr w.heap.size 29 #[.int .i64 len, .slice C cs.length cap] ∧ Ext w wr) (fun i _ => cs.length - (intOf i).toNat)
  case atStart => exact ⟨0, _, Nat.zero_le _, rfl, base0_length a len, hide rfl, HM3.out, HBP3.out, HE3.out⟩
  case round =>
    obtain ⟨j, out, hj, rfl, hol, HT, hrw, hbp, hx⟩ := hrel
    have hbcr := hbp.cell
    have hzr := hrw.lt
    have HRW := hide hrw
    have HBP := hide hbp
    have HX := hide hx
    have HCR := hide (HC.out.ext hx)
    clear hrw hbp hx hbc3 HM3 HBP3 HE3
    by_cases hjl : j < cs.length
    · obtain ⟨b, off, Ai, ci, rfl, hbl, hc1, hc2, hc3⟩ := HCR.out.at_ j hjl
      obtain ⟨q1, q2, q3⟩ := hab cs[j] (List.getElem_mem hjl)
      have hcs := HC.out
      obtain ⟨p, hp⟩ := Int.eq_ofNat_of_zero_le (show 0 ≤ cs[j].1 by omega)
      have hpl : p * 128 < len ∧ p * 128 + cs[j].2.length ≤ len := by
        rw [hp] at q2 q3
        unfold szI at q3
        unfold cnt at q2 q3
        split at q2
        · omega
        · rw [if_neg (by rw [if_neg (by omega)]; omega)] at q3
          omega
      have HTN := hide (show spl out (p * 128) cs[j].2 = appl (base0 a len) (cs.take (j + 1)) by
        rw [appl_take _ _ _ hjl, ← HT.out, hp, Int.toNat_natCast])
      obtain ⟨hp1, hp2⟩ := hpl
      rw [hp] at hc1
      clear hp q1 q2 q3 hab HT hcs
      generalize cs[j].2 = D at *
      have HS := hide hc3
      clear hc3
      go_wp2_with fail
      have hbn := Blk.new wr 43 #[.int .i64 p, .slice Ai D.length ci]
      have HBN := hide hbn
      have HZ := hide (HS.out.ext (Ext.alloc wr (.cells #[.int .i64 p, .slice Ai D.length ci] 43)))
      have HW2 := hide (HRW.out.alloc (.cells #[.int .i64 p, .slice Ai D.length ci] 43))
      have HB2 := hide (HBP.out.alloc (.cells #[.int .i64 p, .slice Ai D.length ci] 43))
      have HX2 := hide (HX.out.alloc' (.cells #[.int .i64 p, .slice Ai D.length ci] 43))
      obtain ⟨q, hq⟩ : ∃ q, p * 128 = q := ⟨_, rfl⟩
      have HWR := hide (show IntKind.i64.wrap ((p : Int) * 128) = (q : Int) from by
        rw [show (p : Int) * 128 = (q : Int) from by omega]
        simp only [IntKind.wrap, IntKind.signed, IntKind.bits]
        simp
        omega)
      rw [hq] at HTN hp1 hp2
      clear hq
      clear hbn hc1 hc2 HX HBP HRW HS hbcr
      refine wp_region_ext 7 3 [] mixed (by kernel_rfl) trivial ?_
      repeat ((refine seq_exact ?_ (by rfl) (by rfl) (fun w1 hU => ?_) ?_); (rotate_left 1); (focus (have h4 := (HBN.out.ext hU.un).cell; have hw := HWR.out; clear hU; go_simp <;> with_reducible rfl)); (simp only [Act.put, List.setIfInBounds_toArray, List.set_cons_zero, List.set_cons_succ]))
      refine seq_exact (.slice (some ⟨w1.heap.size, q, none⟩) (len - q) (len - q)) (by rfl) (by rfl) (fun w5 hU => ?_) ?_
      · go_simp
        rw [if_pos (by omega), if_neg (by omega)]
      simp only [Act.put, List.setIfInBounds_toArray, List.set_cons_zero, List.set_cons_succ]
      repeat ((refine seq_exact ?_ (by rfl) (by rfl) (fun w1 hU => ?_) ?_); (rotate_left 1); (focus (have h4 := (HBN.out.ext hU.un).cell; have hw := HWR.out; clear hU; go_simp <;> with_reducible rfl)); (simp only [Act.put, List.setIfInBounds_toArray, List.set_cons_zero, List.set_cons_succ]))
      intro w7 hw7 _
      simp only [List.drop_succ_cons, List.drop_zero]
      have hw7 := hw7.un
      refine wpList_copyB bt rfl _ _ rfl w1.heap.size q (len - q) (len - q) rfl _ (HW2.out.ext hw7) Ai ci D rfl (HZ.out.ext hw7) (by omega) ?_
      rw [List.take_of_length_le (by omega), HTN.out]
      intro w8 k8 hr8 hg8
      have HR8 := hide hr8
      have HB8 := hide ((HB2.out.ext hw7).grown hg8 (fun e => by injection e with e; omega))
      have HX8 := hide ((HX2.out.trans hw7).grown hg8 (fun k e => by injection e with e; omega))
      have HL := hide (show (appl (base0 a len) (cs.take (j + 1))).length = len by rw [← HTN.out, spl_length _ _ _ (by omega), hol])
      clear hr8 hg8 hw7
      go_wp2
      go_roundw
      case rel => exact ⟨j + 1, _, by omega, by go_num, HL.out, hide rfl, HR8.out, HB8.out, HX8.out⟩
      case measure => simp [intOf]; omega
    · have hjj : j = cs.length := by omega
      subst hjj
      have HT2 := hide (show out = applied a len cs by rw [HT.out, List.take_length]; rfl)
      go_wp2_with fail
      go_ret2
      refine ⟨_, rfl, by omega, ?_, ?_, HX.out⟩
      · rw [← HT2.out, hol]
      · rw [← HT2.out]
        exact HRW.out
theorem apply_good (len : Nat) (A : Option Addr) (ca : Nat) (a : List UInt8) (C : Option Addr) (cap : Nat) (cs : List Chg) (w : World) (ha : Sl w A ca a) (hc : Chs w C cap cs) (hl : cs.length ≤ 65536) (hd : ∀ c ∈ cs, c.2.length ≤ 65536) (hv : validP len cs a.length = true) :
    Calls Try.prog 24 #[.slice A a.length ca, .agg #[.int .i64 len, .slice C cs.length cap]] w fun e w' => ∃ B, e = .returned (.tuple #[.slice B len len, .int .i64 0]) ∧ Sl w' B len (applied a len cs) ∧ Ext w w' := by
  have h24 := (validP_parts hv).2.2.1
  refine (apply_goodR len A ca a C cap cs w ha hc hl hd hv).mono ?_
  rintro e w' ⟨g, rfl, _, h1, h2, h3⟩
  exact ⟨_, rfl, h2.sl h1.symm (by rw [h1]; simp only [maxLen]; omega), h3⟩
theorem apply_bad (len : Int) (A : Option Addr) (ca : Nat) (a : List UInt8) (C : Option Addr) (cap : Nat) (cs : List Chg) (w : World) (ha : Sl w A ca a) (hc : Chs w C cap cs) (hl : cs.length ≤ 65536) (hd : ∀ c ∈ cs, c.2.length ≤ 65536) (hv : validP len cs a.length = false) :
    Calls Try.prog 24 #[.slice A a.length ca, .agg #[.int .i64 len, .slice C cs.length cap]] w fun e w' => e = .returned (.tuple #[.slice none 0 0, .int .i64 1]) ∧ Ext w w' := by
  have HV := hide hv
  have HC := hide hc
  have HD := hide hd
  have hma := ha.max
  have hla := ha.le
  unfold maxLen at hma
  clear ha hc hd hv
  go_enter Try.func24, Try.ntmps24
  go_wp2_with (first
    | (go_at_call 23; refine (valid_any _ _ _ _ _ _ (HC.out.ext (Ext.alloc w _)) hl HD.out (by omega)).mono ?_; rw [HV.out]; rintro e w1 ⟨rfl, hE1⟩; have HE1 := hide ((Ext.alloc w _).trans hE1); clear hE1)
    | fail)
  go_ret2
  exact ⟨rfl, HE1.out⟩
theorem apply_any (len : Int) (A : Option Addr) (ca : Nat) (a : List UInt8) (C : Option Addr) (cap : Nat) (cs : List Chg) (w : World) (ha : Sl w A ca a) (hc : Chs w C cap cs) (hl : cs.length ≤ 65536) (hd : ∀ c ∈ cs, c.2.length ≤ 65536) :
    Calls Try.prog 24 #[.slice A a.length ca, .agg #[.int .i64 len, .slice C cs.length cap]] w fun e w' => Ext w w' ∧
      if validP len cs a.length = true then ∃ B, e = .returned (.tuple #[.slice B len.toNat len.toNat, .int .i64 0]) ∧ Sl w' B len.toNat (applied a len.toNat cs) else e = .returned (.tuple #[.slice none 0 0, .int .i64 1]) := by
  by_cases h : validP len cs a.length = true
  · obtain ⟨n, rfl⟩ := Int.eq_ofNat_of_zero_le (validP_parts h).2.1
    refine (apply_good n A ca a C cap cs w ha hc hl hd h).mono ?_
    rintro e w' ⟨B, rfl, h1, h2⟩
    rw [if_pos h]
    exact ⟨h2, B, rfl, h1⟩
  · refine (apply_bad len A ca a C cap cs w ha hc hl hd (by simpa using h)).mono ?_
    rintro e w' ⟨rfl, h2⟩
    rw [if_neg h]
    exact ⟨h2, rfl⟩
end Go.Proofs.Ytfcmngiekdhfpaa
