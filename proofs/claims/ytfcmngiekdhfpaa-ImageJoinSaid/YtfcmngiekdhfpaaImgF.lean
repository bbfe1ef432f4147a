/-
  Valid of the program.
-/
import Derived.Test.YtfcmngiekdhfpaaImgE
namespace Go.Proofs.Ytfcmngiekdhfpaa
open Go.RowKit
set_option linter.unusedVariables false

theorem covTo_mono (len n : Int) (cs : List Chg) {k m : Nat} (h : covTo len n cs k = false) (hkm : k ≤ m) : covTo len n cs m = false := by
  induction m with
  | zero => obtain rfl : k = 0 := (by omega)
            exact h
  | succ m ih =>
    by_cases hk : k = m + 1
    · subst hk; exact h
    · simp only [covTo]; rw [ih (by omega)]; rfl
theorem validP_bad {len n : Int} {cs : List Chg} (h : lenOk len n = false) : validP len cs n = false := by unfold validP; rw [h]; rfl
theorem lenOk_good {len n : Int} (h1 : 0 ≤ n) (h2 : 0 ≤ len) (h3 : len ≤ 24000) : lenOk len n = true := by
  unfold lenOk
  simp
  omega

set_option maxRecDepth 100000 in
set_option maxHeartbeats 1000000 in
theorem valid_bad (len n : Int) (A : Option Addr) (cap : Nat) (cs : List Chg) (w : World) (hb : lenOk len n = false) :
    Calls Try.prog 23 #[.agg #[.int .i64 len, .slice A cs.length cap], .int .i64 n] w fun e w' => e = .returned (.bool (validP len cs n)) ∧ Ext w w' := by
  have HV := hide (validP_bad (cs := cs) hb)
  by_cases h1 : n < 0
  · clear hb
    go_enter Try.func23, Try.ntmps23
    go_wp2_with fail
    go_ret
    exact ⟨ret_bool HV.out.symm, Ext.alloc w _⟩
  by_cases h2 : len < 0
  · clear hb
    go_enter Try.func23, Try.ntmps23
    go_wp2_with fail
    go_ret
    exact ⟨ret_bool HV.out.symm, Ext.alloc w _⟩
  have h3 : 24000 < len := by
    by_cases h3 : 24000 < len
    · exact h3
    · rw [lenOk_good (by omega) (by omega) (by omega)] at hb; cases hb
  clear hb
  go_enter Try.func23, Try.ntmps23
  go_wp2_with fail
  go_ret
  exact ⟨ret_bool HV.out.symm, Ext.alloc w _⟩

set_option maxRecDepth 100000 in
set_option maxHeartbeats 2000000 in
theorem valid_good (len n : Int) (A : Option Addr) (cap : Nat) (cs : List Chg) (w : World) (hc : Chs w A cap cs) (hl : cs.length ≤ 65536) (hd : ∀ c ∈ cs, c.2.length ≤ 65536) (hn1 : 0 ≤ n) (hn2 : n ≤ 9223372036854775807) (hl1 : 0 ≤ len) (hl2 : len ≤ 24000) :
    Calls Try.prog 23 #[.agg #[.int .i64 len, .slice A cs.length cap], .int .i64 n] w fun e w' => e = .returned (.bool (validP len cs n)) ∧ Ext w w' := by
  have HV := hide (show validP len cs n = (ordOk len (-1) cs && covTo len n cs (cnt len).toNat) by unfold validP; rw [lenOk_good hn1 hl1 hl2, Bool.true_and])
  have HC := hide hc
  have hcn : 0 ≤ cnt len ∧ cnt len ≤ 24000 := by unfold cnt; split <;> omega
  clear hc
  go_enter Try.func23, Try.ntmps23
  go_wp2_with fail
  go_loopw [5, 26] (fun la i wr => ∃ (j : Nat) (last : Int), j ≤ cs.length ∧ i = .int .i64 j ∧ la = .int .i64 last ∧ Blk wr w.heap.size 29 #[.int .i64 len, .slice A cs.length cap] ∧ Ext w wr ∧ Hid (ordOk len (-1) cs = ordOk len last (cs.drop j))) (fun _ i _ => cs.length - (intOf i).toNat)
  case atStart => exact ⟨0, -1, Nat.zero_le _, rfl, rfl, Blk.new w _ _, Ext.alloc w _, hide rfl⟩
  case round =>
    obtain ⟨j, last, hj, rfl, rfl, hp, hx, HT⟩ := hrel
    have hpc := hp.cell
    have hz0 := hp.lt
    have HP := hide hp
    have HX := hide hx
    clear hp
    by_cases hlt : j < cs.length
    · obtain ⟨b1, o1, A1, c1, rfl, hb1, hc1, hd1, hs1⟩ := (HC.out.ext hx).at_ j hlt
      have hdl := hd _ (List.getElem_mem hlt)
      have HDR := hide (drop_at cs j hlt)
      clear hs1 hx hd
      by_cases q1 : cs[j].1 ≤ last
      · have HR := hide (show ordOk len (-1) cs = false by rw [HT.out, HDR.out]; simp only [ordOk]; rw [if_pos (.inl q1)])
        go_wp2_with fail
        refine wp_region_ext 23 2 [(9, fun v => v = .int .i64 (cnt len), fun _ _ => True), (20, fun v => v = .int .i64 (szI len cs[j].1), fun _ _ => True)] mixed (by kernel_rfl) ⟨fun _ _ _ _ _ => trivial, fun _ _ _ _ _ => trivial, trivial⟩ ?_
        repeat ((refine seq_exact ?_ (by rfl) (by rfl) (fun w1 hU => ?_) ?_); (rotate_left 1); (focus (have hk := hU.un.cell; clear hU; go_simp <;> with_reducible rfl)); (simp only [Act.put, List.setIfInBounds_toArray, List.set_cons_zero, List.set_cons_succ]))
        repeat ((refine seq_skip (by rfl) ?_); (simp only [Act.put, List.setIfInBounds_toArray, List.set_cons_zero, List.set_cons_succ]))
        repeat ((refine seq_exact ?_ (by rfl) (by rfl) (fun w1 hU => ?_) ?_); (rotate_left 1); (focus (go_simp <;> with_reducible rfl)); (simp only [Act.put, List.setIfInBounds_toArray, List.set_cons_zero, List.set_cons_succ]))
        repeat ((refine seq_skip (by rfl) ?_); (simp only [Act.put, List.setIfInBounds_toArray, List.set_cons_zero, List.set_cons_succ]))
        repeat ((refine seq_exact ?_ (by rfl) (by rfl) (fun w1 hU => ?_) ?_); (rotate_left 1); (focus (go_simp <;> with_reducible rfl)); (simp only [Act.put, List.setIfInBounds_toArray, List.set_cons_zero, List.set_cons_succ]))
        intro w7 hw7 _
        simp only [List.drop_succ_cons, List.drop_nil]
        have HX7 := hide (HX.out.trans ((Ext.alloc wr _).trans hw7.un))
        clear hw7
        go_wp2_with fail
        go_ret
        exact ⟨ret_bool (by rw [HV.out, HR.out, Bool.false_and]), HX7.out⟩
      have q1' : decide (cs[j].1 ≤ last) = false := by simpa using q1
      by_cases q2 : cnt len ≤ cs[j].1
      · have HR := hide (show ordOk len (-1) cs = false by rw [HT.out, HDR.out]; simp only [ordOk]; rw [if_pos (.inr (.inl q2))])
        go_wp2_with fail
        refine wp_region_ext 23 2 [(9, fun v => v = .int .i64 (cnt len), fun _ _ => True), (20, fun v => v = .int .i64 (szI len cs[j].1), fun _ _ => True)] mixed (by kernel_rfl) ⟨fun _ _ _ _ _ => trivial, fun _ _ _ _ _ => trivial, trivial⟩ ?_
        repeat ((refine seq_exact ?_ (by rfl) (by rfl) (fun w1 hU => ?_) ?_); (rotate_left 1); (focus (have hk := hU.un.cell; clear hU; go_simp <;> with_reducible rfl)); (simp only [Act.put, List.setIfInBounds_toArray, List.set_cons_zero, List.set_cons_succ]))
        refine seq_opaque _ _ (by rfl) rfl ⟨_, rfl⟩ (by simp) (fun w5 hU _ K hK => ?_) ?_
        · go_simp
          refine (count_any _ _ (by omega)).mono ?_
          rintro e w6 ⟨rfl, rfl⟩
          exact hK _ _ (Ext.refl _) rfl trivial
        rintro _ rfl
        simp only [Act.put, List.setIfInBounds_toArray, List.set_cons_zero, List.set_cons_succ]
        repeat ((refine seq_exact ?_ (by rfl) (by rfl) (fun w1 hU => ?_) ?_); (rotate_left 1); (focus (have hk := hU.un.cell; clear hU; go_simp <;> with_reducible rfl)); (simp only [Act.put, List.setIfInBounds_toArray, List.set_cons_zero, List.set_cons_succ]))
        repeat ((refine seq_skip (by rfl) ?_); (simp only [Act.put, List.setIfInBounds_toArray, List.set_cons_zero, List.set_cons_succ]))
        repeat ((refine seq_exact ?_ (by rfl) (by rfl) (fun w1 hU => ?_) ?_); (rotate_left 1); (focus (go_simp <;> with_reducible rfl)); (simp only [Act.put, List.setIfInBounds_toArray, List.set_cons_zero, List.set_cons_succ]))
        intro w7 hw7 _
        simp only [List.drop_succ_cons, List.drop_nil]
        have HX7 := hide (HX.out.trans ((Ext.alloc wr _).trans hw7.un))
        clear hw7
        go_wp2_with fail
        go_ret
        exact ⟨ret_bool (by rw [HV.out, HR.out, Bool.false_and]), HX7.out⟩
      have q2' : decide (cnt len ≤ cs[j].1) = false := by simpa using q2
      obtain ⟨pe, hpe⟩ : ∃ pe, ((cs[j].2.length : Int) == szI len cs[j].1) = pe := ⟨_, rfl⟩
      have HPE := hide hpe
      have hpe' : ((cs[j].2.length : Int) != szI len cs[j].1) = !pe := by rw [← hpe]; rfl
      clear hpe
      go_wp2_with fail
      refine wp_region_ext 23 2 [(9, fun v => v = .int .i64 (cnt len), fun _ _ => True), (20, fun v => v = .int .i64 (szI len cs[j].1), fun _ _ => True)] mixed (by kernel_rfl) ⟨fun _ _ _ _ _ => trivial, fun _ _ _ _ _ => trivial, trivial⟩ ?_
      repeat ((refine seq_exact ?_ (by rfl) (by rfl) (fun w1 hU => ?_) ?_); (rotate_left 1); (focus (have hk := hU.un.cell; clear hU; go_simp <;> with_reducible rfl)); (simp only [Act.put, List.setIfInBounds_toArray, List.set_cons_zero, List.set_cons_succ]))
      refine seq_opaque _ _ (by rfl) rfl ⟨_, rfl⟩ (by simp) (fun w5 hU _ K hK => ?_) ?_
      · go_simp
        refine (count_any _ _ (by omega)).mono ?_
        rintro e w6 ⟨rfl, rfl⟩
        exact hK _ _ (Ext.refl _) rfl trivial
      rintro _ rfl
      simp only [Act.put, List.setIfInBounds_toArray, List.set_cons_zero, List.set_cons_succ]
      repeat ((refine seq_exact ?_ (by rfl) (by rfl) (fun w1 hU => ?_) ?_); (rotate_left 1); (focus (have hk := hU.un.cell; clear hU; go_simp <;> with_reducible rfl)); (simp only [Act.put, List.setIfInBounds_toArray, List.set_cons_zero, List.set_cons_succ]))
      refine seq_opaque _ _ (by rfl) rfl ⟨_, rfl⟩ (by simp) (fun w5 hU _ K hK => ?_) ?_
      · go_simp
        refine (size_any _ _ _ (by omega)).mono ?_
        rintro e w6 ⟨rfl, rfl⟩
        exact hK _ _ (Ext.refl _) rfl trivial
      rintro _ rfl
      simp only [Act.put, List.setIfInBounds_toArray, List.set_cons_zero, List.set_cons_succ]
      repeat ((refine seq_exact ?_ (by rfl) (by rfl) (fun w1 hU => ?_) ?_); (rotate_left 1); (focus (have hh := hpe'; go_simp <;> with_reducible rfl)); (simp only [Act.put, List.setIfInBounds_toArray, List.set_cons_zero, List.set_cons_succ]))
      intro w7 hw7 _
      simp only [List.drop_succ_cons, List.drop_nil]
      have HX7 := hide (HX.out.trans ((Ext.alloc wr _).trans hw7.un))
      have hb7 := ((Blk.new wr 43 #[.int .i64 cs[j].1, .slice A1 cs[j].2.length c1]).ext hw7.un).cell
      have HP7 := hide ((HP.out.alloc (.cells #[.int .i64 cs[j].1, .slice A1 cs[j].2.length c1] 43)).ext hw7.un)
      clear hw7 hpe'
      cases pe
      · have HR := hide (show ordOk len (-1) cs = false by
          rw [HT.out, HDR.out]; simp only [ordOk]; rw [if_pos (.inr (.inr (by have := HPE.out; simpa using this)))])
        go_wp2_with fail
        go_ret
        exact ⟨ret_bool (by rw [HV.out, HR.out, Bool.false_and]), HX7.out⟩
      · go_wp2_with fail
        go_roundw
        case rel =>
          refine ⟨j + 1, cs[j].1, by omega, by go_num, rfl, HP7.out, HX7.out, hide ?_⟩
          rw [HT.out, HDR.out]
          simp only [ordOk]
          rw [if_neg]
          have := HPE.out
          simp at this
          omega
        case measure => simp [intOf]; omega
    · have hjj : j = cs.length := by omega
      have HO := hide (show ordOk len (-1) cs = true by rw [HT.out, hjj, List.drop_length]; rfl)
      subst hjj
      obtain ⟨N, hN⟩ : ∃ N : Nat, cnt len = (N : Int) := ⟨(cnt len).toNat, by omega⟩
      have HN := hide hN
      have hN2 : N ≤ 24000 := by omega
      clear hN
      go_wp2_with (go_at_call 15; refine (count_any _ _ (by omega)).mono ?_; rw [HN.out]; rintro e w' ⟨rfl, rfl⟩)
      go_loopw [59] (fun i wr => ∃ k : Nat, k ≤ N ∧ i = .int .i64 k ∧ Blk wr w.heap.size 29 #[.int .i64 len, .slice A cs.length cap] ∧ Ext w wr ∧ Hid (covTo len n cs k = true)) (fun i _ => N - (intOf i).toNat)
      case atStart => exact ⟨0, Nat.zero_le _, rfl, HP.out, HX.out, hide rfl⟩
      case round =>
        obtain ⟨k, hk, rfl, hp2, hx2, HT2⟩ := hrel
        have hpc2 := hp2.cell
        have hz2 := hp2.lt
        have HP2 := hide hp2
        have HX2 := hide hx2
        clear hp2 hpc hz0
        by_cases hkN : k < N
        · have HC2 := hide (HC.out.ext hx2)
          clear hx2 hx
          obtain ⟨fe, hfe⟩ : ∃ fe, fb cs k = fe := ⟨_, rfl⟩
          have HFE := hide hfe
          clear hfe
          obtain ⟨pe, hpe⟩ : ∃ pe, (szI n k == szI len k) = pe := ⟨_, rfl⟩
          have HPE := hide hpe
          have HPE' := hide (show (szI n k != szI len k) = !pe by rw [← hpe]; rfl)
          clear hpe
          go_wp2_with (go_at_call 49; refine (find_any _ _ _ _ _ _ HC2.out hl).mono ?_; rw [HFE.out]; rintro e w3 ⟨D, d, rfl, _, hq⟩; have HQ := hide hq; have hpc3 := (HP2.out.ext hq).cell; have hz3 := (HP2.out.ext hq).lt; clear hq hpc2 hz2)
          refine wp_region_ext 12 2 [(5, fun v => v = .int .i64 (szI n k), fun _ _ => True), (9, fun v => v = .int .i64 (szI len k), fun _ _ => True)] mixed (by kernel_rfl) ⟨fun _ _ _ _ _ => trivial, fun _ _ _ _ _ => trivial, trivial⟩ ?_
          cases fe
          · repeat ((refine seq_exact ?_ (by rfl) (by rfl) (fun w1 hU => ?_) ?_); (rotate_left 1); (focus (have hk := hU.un.cell; clear hU; go_simp <;> with_reducible rfl)); (simp only [Act.put, List.setIfInBounds_toArray, List.set_cons_zero, List.set_cons_succ]))
            refine seq_opaque _ _ (by rfl) rfl ⟨_, rfl⟩ (by simp) (fun w5 hU _ K hK => ?_) ?_
            · go_simp
              refine (size_any _ _ _ (by omega)).mono ?_
              rintro e w6 ⟨rfl, rfl⟩
              exact hK _ _ (Ext.refl _) rfl trivial
            rintro _ rfl
            simp only [Act.put, List.setIfInBounds_toArray, List.set_cons_zero, List.set_cons_succ]
            repeat ((refine seq_exact ?_ (by rfl) (by rfl) (fun w1 hU => ?_) ?_); (rotate_left 1); (focus (have hk := hU.un.cell; clear hU; go_simp <;> with_reducible rfl)); (simp only [Act.put, List.setIfInBounds_toArray, List.set_cons_zero, List.set_cons_succ]))
            refine seq_opaque _ _ (by rfl) rfl ⟨_, rfl⟩ (by simp) (fun w5 hU _ K hK => ?_) ?_
            · go_simp
              refine (size_any _ _ _ (by omega)).mono ?_
              rintro e w6 ⟨rfl, rfl⟩
              exact hK _ _ (Ext.refl _) rfl trivial
            rintro _ rfl
            simp only [Act.put, List.setIfInBounds_toArray, List.set_cons_zero, List.set_cons_succ]
            repeat ((refine seq_exact ?_ (by rfl) (by rfl) (fun w1 hU => ?_) ?_); (rotate_left 1); (focus (have hh := HPE'.out; go_simp <;> with_reducible rfl)); (simp only [Act.put, List.setIfInBounds_toArray, List.set_cons_zero, List.set_cons_succ]))
            intro w7 hw7 _
            simp only [List.drop_succ_cons, List.drop_nil]
            have HX7 := hide ((HX2.out.trans HQ.out).trans hw7.un)
            have HP7 := hide ((HP2.out.ext HQ.out).ext hw7.un)
            clear hw7
            cases pe
            · go_wp2_with fail
              go_ret
              have hf : covTo len n cs (k + 1) = false := by simp only [covTo]; rw [HFE.out, HPE.out]; simp
              exact ⟨ret_bool (by rw [HV.out, HN.out, Int.toNat_natCast, covTo_mono len n cs hf (by omega), Bool.and_false]), HX7.out⟩
            · go_wp2_with fail
              go_roundw
              case rel => exact ⟨k + 1, by omega, by go_num, HP7.out, HX7.out, hide (by simp only [covTo]; rw [HT2.out, HPE.out]; simp)⟩
              case measure => simp [intOf]; omega
          · repeat ((refine seq_exact ?_ (by rfl) (by rfl) (fun w1 hU => ?_) ?_); (rotate_left 1); (focus (go_simp <;> with_reducible rfl)); (simp only [Act.put, List.setIfInBounds_toArray, List.set_cons_zero, List.set_cons_succ]))
            repeat ((refine seq_skip (by rfl) ?_); (simp only [Act.put, List.setIfInBounds_toArray, List.set_cons_zero, List.set_cons_succ]))
            repeat ((refine seq_exact ?_ (by rfl) (by rfl) (fun w1 hU => ?_) ?_); (rotate_left 1); (focus (go_simp <;> with_reducible rfl)); (simp only [Act.put, List.setIfInBounds_toArray, List.set_cons_zero, List.set_cons_succ]))
            intro w7 hw7 _
            simp only [List.drop_succ_cons, List.drop_nil]
            have HX7 := hide ((HX2.out.trans HQ.out).trans hw7.un)
            have HP7 := hide ((HP2.out.ext HQ.out).ext hw7.un)
            clear hw7
            go_wp2_with fail
            go_roundw
            case rel => exact ⟨k + 1, by omega, by go_num, HP7.out, HX7.out, hide (by simp only [covTo]; rw [HT2.out, HFE.out]; simp)⟩
            case measure => simp [intOf]; omega
        · have hkk : k = N := by omega
          subst hkk
          go_wp2_with fail
          go_ret
          exact ⟨ret_bool (by rw [HV.out, HN.out, Int.toNat_natCast, HO.out, HT2.out]; rfl), HX2.out⟩

theorem valid_any (len n : Int) (A : Option Addr) (cap : Nat) (cs : List Chg) (w : World) (hc : Chs w A cap cs) (hl : cs.length ≤ 65536) (hd : ∀ c ∈ cs, c.2.length ≤ 65536) (hn2 : n ≤ 9223372036854775807) :
    Calls Try.prog 23 #[.agg #[.int .i64 len, .slice A cs.length cap], .int .i64 n] w fun e w' => e = .returned (.bool (validP len cs n)) ∧ Ext w w' := by
  by_cases h : 0 ≤ n ∧ 0 ≤ len ∧ len ≤ 24000
  · exact valid_good len n A cap cs w hc hl hd h.1 hn2 h.2.1 h.2.2
  · refine valid_bad len n A cap cs w ?_
    unfold lenOk
    simp
    omega
end Go.Proofs.Ytfcmngiekdhfpaa
