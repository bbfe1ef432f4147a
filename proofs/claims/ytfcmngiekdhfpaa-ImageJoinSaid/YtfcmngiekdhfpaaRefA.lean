/-
  Valid of the reference asks the same of a patch as Valid of the program.
-/
import Derived.Test.YtfcmngiekdhfpaaImgF
import Derived.IntWalk
namespace Go.Proofs.Ytfcmngiekdhfpaa
open Go.RowKit
set_option linter.unusedVariables false

set_option maxRecDepth 100000 in
theorem rvalid3_bad (len n : Int) (A : Option Addr) (cap : Nat) (cs : List Chg) (w : World) (hb : lenOk len n = false) :
    Calls Try.prog 42 #[.agg #[.int .i64 len, .slice A cs.length cap], .int .i64 n] w fun e w' => e = .returned (.bool (validP len cs n)) ∧ Ext w w' := by
  have HV := hide (validP_bad (cs := cs) hb)
  by_cases h1 : n < 0
  · clear hb
    go_enter Try.func42, Try.ntmps42
    go_wp2_with fail
    go_ret
    exact ⟨ret_bool HV.out.symm, Ext.alloc w _⟩
  by_cases h2 : len < 0
  · clear hb
    go_enter Try.func42, Try.ntmps42
    go_wp2_with fail
    go_ret
    exact ⟨ret_bool HV.out.symm, Ext.alloc w _⟩
  have h3 : 24000 < len := by
    by_cases h3 : 24000 < len
    · exact h3
    · rw [lenOk_good (by omega) (by omega) (by omega)] at hb; cases hb
  clear hb
  go_enter Try.func42, Try.ntmps42
  go_wp2_with fail
  go_ret
  exact ⟨ret_bool HV.out.symm, Ext.alloc w _⟩
theorem szI_zero {len k : Int} (h : szI len k = 0) : k < 0 ∨ cnt len ≤ k := by
  unfold szI at h
  split at h
  · assumption
  · rename_i h'
    unfold cnt at h'
    split at h' <;> omega
theorem szI_nonzero {len k : Int} (h : szI len k ≠ 0) : 0 ≤ k ∧ k < cnt len := by
  unfold szI at h
  split at h
  · exact absurd rfl h
  · omega
theorem ord_bad {len last : Int} {cs : List Chg} {j : Nat} (hlt : j < cs.length) (h : cs[j].1 ≤ last ∨ cnt len ≤ cs[j].1 ∨ (cs[j].2.length : Int) ≠ szI len cs[j].1) : ordOk len last (cs.drop j) = false := by
  rw [drop_at cs j hlt]; simp only [ordOk]; rw [if_pos h]
theorem ord_good {len last : Int} {cs : List Chg} {j : Nat} (hlt : j < cs.length) (h1 : last < cs[j].1) (h2 : cs[j].1 < cnt len) (h3 : (cs[j].2.length : Int) = szI len cs[j].1) : ordOk len last (cs.drop j) = ordOk len cs[j].1 (cs.drop (j + 1)) := by
  rw [drop_at cs j hlt]; simp only [ordOk]; rw [if_neg (by omega)]
theorem wrap_pred {i : Nat} (h : i ≤ 65536) : IntKind.i64.wrap (i : Int) = i := IntWalk.i64_in _ (by omega)
/-- The last page before change j. -/
def lastOf (cs : List Chg) (j : Nat) : Int := if h : 0 < j ∧ j ≤ cs.length then (cs[j - 1]'(by omega)).1 else -1

set_option maxRecDepth 100000 in
set_option maxHeartbeats 4000000 in
theorem rvalid3_good (len n : Int) (A : Option Addr) (cap : Nat) (cs : List Chg) (w : World) (hc : Chs w A cap cs) (hl : cs.length ≤ 65536) (hd : ∀ c ∈ cs, c.2.length ≤ 65536) (hn1 : 0 ≤ n) (hn2 : n ≤ 9223372036854775807) (hl1 : 0 ≤ len) (hl2 : len ≤ 24000) :
    Calls Try.prog 42 #[.agg #[.int .i64 len, .slice A cs.length cap], .int .i64 n] w fun e w' => e = .returned (.bool (validP len cs n)) ∧ Ext w w' := by
  have HV := hide (show validP len cs n = (ordOk len (-1) cs && covTo len n cs (cnt len).toNat) by unfold validP; rw [lenOk_good hn1 hl1 hl2, Bool.true_and])
  have HC := hide hc
  have hcn : 0 ≤ cnt len ∧ cnt len ≤ 24000 := by unfold cnt; split <;> omega
  clear hc
  go_enter Try.func42, Try.ntmps42
  go_wp2_with fail
  go_loopw [5] (fun i wr => ∃ j : Nat, j ≤ cs.length ∧ i = .int .i64 j ∧ Blk wr w.heap.size 35 #[.int .i64 len, .slice A cs.length cap] ∧ Ext w wr ∧ Hid (-1 ≤ lastOf cs j ∧ ordOk len (-1) cs = ordOk len (lastOf cs j) (cs.drop j))) (fun i _ => cs.length - (intOf i).toNat)
  case atStart => exact ⟨0, Nat.zero_le _, rfl, Blk.new w _ _, Ext.alloc w _, hide ⟨by simp [lastOf], by simp [lastOf]⟩⟩
  case round =>
    obtain ⟨j, hj, rfl, hp, hx, HT⟩ := hrel
    have hpc := hp.cell
    have hz0 := hp.lt
    have HP := hide hp
    have HX := hide hx
    clear hp
    by_cases hlt : j < cs.length
    · obtain ⟨b1, o1, A1, c1, rfl, hb1, hc1, hd1, hs1⟩ := (HC.out.ext hx).at_ j hlt
      have hdl := hd _ (List.getElem_mem hlt)
      have HCX := hide (HC.out.ext hx)
      clear hs1 hx hd
      by_cases q1 : szI len cs[j].1 = 0
      · have HR := hide (show ordOk len (-1) cs = false by rw [HT.out.2]; refine ord_bad hlt ?_; have := HT.out.1; rcases szI_zero q1 with h | h <;> omega)
        have q1' : (szI len cs[j].1 == 0) = true := by simpa using q1
        clear q1
        go_wp2_with fail
        refine wp_region_ext 33 2 [(4, fun v => v = .int .i64 (szI len cs[j].1), fun _ _ => True), (14, fun v => v = .int .i64 (szI len cs[j].1), fun _ _ => True)] mixed (by kernel_rfl) ⟨fun _ _ _ _ _ => trivial, fun _ _ _ _ _ => trivial, trivial⟩ ?_
        repeat ((refine seq_exact ?_ (by rfl) (by rfl) (fun w1 hU => ?_) ?_); (rotate_left 1); (focus (have hk := hU.un.cell; clear hU; go_simp <;> with_reducible rfl)); (simp only [Act.put, List.setIfInBounds_toArray, List.set_cons_zero, List.set_cons_succ]))
        refine seq_opaque _ _ (by rfl) rfl ⟨_, rfl⟩ (by simp) (fun w5 hU _ K hK => ?_) ?_
        · go_simp
          refine (rsize_any _ _ _ (by omega)).mono ?_
          rintro e w6 ⟨rfl, rfl⟩
          exact hK _ _ (Ext.refl _) rfl trivial
        rintro _ rfl
        simp only [Act.put, List.setIfInBounds_toArray, List.set_cons_zero, List.set_cons_succ]
        repeat (first | ((refine seq_skip (by rfl) ?_); (simp only [Act.put, List.setIfInBounds_toArray, List.set_cons_zero, List.set_cons_succ])) | ((refine seq_exact ?_ (by rfl) (by rfl) (fun w1 hU => ?_) ?_); (rotate_left 1); (focus (have hk := hU.un.cell; have hh := q1'; clear hU; go_simp <;> with_reducible rfl)); (simp only [Act.put, List.setIfInBounds_toArray, List.set_cons_zero, List.set_cons_succ])))
        intro w7 hw7 _
        simp only [List.drop_succ_cons, List.drop_nil]
        have HX7 := hide (HX.out.trans ((Ext.alloc wr _).trans hw7.un))
        clear hw7
        go_wp2_with fail
        go_ret
        exact ⟨ret_bool (by rw [HV.out, HR.out, Bool.false_and]), HX7.out⟩
      have q1' : (szI len cs[j].1 == 0) = false := by simpa using q1
      obtain ⟨g1, g2⟩ := szI_nonzero q1
      by_cases q2 : (cs[j].2.length : Int) = szI len cs[j].1
      rotate_left
      · have HR := hide (show ordOk len (-1) cs = false by rw [HT.out.2]; exact ord_bad hlt (.inr (.inr q2)))
        have q2' : ((cs[j].2.length : Int) != szI len cs[j].1) = true := by simpa using q2
        clear q1 q2 g1 g2
        go_wp2_with fail
        refine wp_region_ext 33 2 [(4, fun v => v = .int .i64 (szI len cs[j].1), fun _ _ => True), (14, fun v => v = .int .i64 (szI len cs[j].1), fun _ _ => True)] mixed (by kernel_rfl) ⟨fun _ _ _ _ _ => trivial, fun _ _ _ _ _ => trivial, trivial⟩ ?_
        repeat ((refine seq_exact ?_ (by rfl) (by rfl) (fun w1 hU => ?_) ?_); (rotate_left 1); (focus (have hk := hU.un.cell; clear hU; go_simp <;> with_reducible rfl)); (simp only [Act.put, List.setIfInBounds_toArray, List.set_cons_zero, List.set_cons_succ]))
        refine seq_opaque _ _ (by rfl) rfl ⟨_, rfl⟩ (by simp) (fun w5 hU _ K hK => ?_) ?_
        · go_simp
          refine (rsize_any _ _ _ (by omega)).mono ?_
          rintro e w6 ⟨rfl, rfl⟩
          exact hK _ _ (Ext.refl _) rfl trivial
        rintro _ rfl
        simp only [Act.put, List.setIfInBounds_toArray, List.set_cons_zero, List.set_cons_succ]
        repeat (first | ((refine seq_skip (by rfl) ?_); (simp only [Act.put, List.setIfInBounds_toArray, List.set_cons_zero, List.set_cons_succ])) | ((refine seq_exact ?_ (by rfl) (by rfl) (fun w1 hU => ?_) ?_); (rotate_left 1); (focus (have hk := hU.un.cell; have hh := q1'; have hg := q2'; clear hU; go_simp <;> with_reducible rfl)); (simp only [Act.put, List.setIfInBounds_toArray, List.set_cons_zero, List.set_cons_succ])))
        refine seq_opaque _ _ (by rfl) rfl ⟨_, rfl⟩ (by simp) (fun w5 hU _ K hK => ?_) ?_
        · go_simp
          refine (rsize_any _ _ _ (by omega)).mono ?_
          rintro e w6 ⟨rfl, rfl⟩
          exact hK _ _ (Ext.refl _) rfl trivial
        rintro _ rfl
        simp only [Act.put, List.setIfInBounds_toArray, List.set_cons_zero, List.set_cons_succ]
        repeat (first | ((refine seq_skip (by rfl) ?_); (simp only [Act.put, List.setIfInBounds_toArray, List.set_cons_zero, List.set_cons_succ])) | ((refine seq_exact ?_ (by rfl) (by rfl) (fun w1 hU => ?_) ?_); (rotate_left 1); (focus (have hk := hU.un.cell; have hh := q1'; have hg := q2'; clear hU; go_simp <;> with_reducible rfl)); (simp only [Act.put, List.setIfInBounds_toArray, List.set_cons_zero, List.set_cons_succ])))
        intro w7 hw7 _
        simp only [List.drop_succ_cons, List.drop_nil]
        have HX7 := hide (HX.out.trans ((Ext.alloc wr _).trans hw7.un))
        have HP7 := hide ((HP.out.alloc (.cells #[.int .i64 cs[j].1, .slice A1 cs[j].2.length c1] 88)).ext hw7.un)
        clear hw7
        go_wp2_with fail
        go_ret
        exact ⟨ret_bool (by rw [HV.out, HR.out, Bool.false_and]), HX7.out⟩
      have q2' : ((cs[j].2.length : Int) != szI len cs[j].1) = false := by simpa using q2
      have hG := fun (hlast : lastOf cs j < cs[j].1) => (show -1 ≤ lastOf cs (j + 1) ∧ ordOk len (-1) cs = ordOk len (lastOf cs (j + 1)) (cs.drop (j + 1)) by
        have e : lastOf cs (j + 1) = cs[j].1 := by unfold lastOf; rw [dif_pos ⟨by omega, by omega⟩]; rfl
        rw [e]
        exact ⟨by omega, by rw [HT.out.2]; exact ord_good hlt hlast g2 q2⟩)
      have HGG := hide hG
      clear hG q2
      by_cases h0 : 0 < j
      · obtain ⟨i, rfl⟩ : ∃ i, j = i + 1 := ⟨j - 1, by omega⟩
        have hll : lastOf cs (i + 1) = cs[i].1 := by unfold lastOf; rw [dif_pos ⟨by omega, by omega⟩]; rfl
        obtain ⟨b2, o2, A2, c2, hbe, _, hp1, _, _⟩ := HCX.out.at_ i (by omega)
        injection hbe with hbe
        injection hbe with e1 e2
        subst e1 e2
        have HWP := hide (wrap_pred (i := i) (by omega))
        have hil : i < cs.length := by omega
        by_cases q3 : cs[i + 1].1 ≤ cs[i].1
        · have HR := hide (show ordOk len (-1) cs = false by rw [HT.out.2, hll]; exact ord_bad hlt (.inl q3))
          clear hll HGG
          go_wp2_with fail
          refine wp_region_ext 33 2 [(4, fun v => v = .int .i64 (szI len cs[i + 1].1), fun _ _ => True), (14, fun v => v = .int .i64 (szI len cs[i + 1].1), fun _ _ => True)] mixed (by kernel_rfl) ⟨fun _ _ _ _ _ => trivial, fun _ _ _ _ _ => trivial, trivial⟩ ?_
          repeat ((refine seq_exact ?_ (by rfl) (by rfl) (fun w1 hU => ?_) ?_); (rotate_left 1); (focus (have hk := hU.un.cell; clear hU; go_simp <;> with_reducible rfl)); (simp only [Act.put, List.setIfInBounds_toArray, List.set_cons_zero, List.set_cons_succ]))
          refine seq_opaque _ _ (by rfl) rfl ⟨_, rfl⟩ (by simp) (fun w5 hU _ K hK => ?_) ?_
          · go_simp
            refine (rsize_any _ _ _ (by omega)).mono ?_
            rintro e w6 ⟨rfl, rfl⟩
            exact hK _ _ (Ext.refl _) rfl trivial
          rintro _ rfl
          simp only [Act.put, List.setIfInBounds_toArray, List.set_cons_zero, List.set_cons_succ]
          repeat (first | ((refine seq_skip (by rfl) ?_); (simp only [Act.put, List.setIfInBounds_toArray, List.set_cons_zero, List.set_cons_succ])) | ((refine seq_exact ?_ (by rfl) (by rfl) (fun w1 hU => ?_) ?_); (rotate_left 1); (focus (have hk := hU.un.cell; have hh := q1'; have hg := q2'; have hw := HWP.out; clear hU; go_simp <;> with_reducible rfl)); (simp only [Act.put, List.setIfInBounds_toArray, List.set_cons_zero, List.set_cons_succ])))
          refine seq_opaque _ _ (by rfl) rfl ⟨_, rfl⟩ (by simp) (fun w5 hU _ K hK => ?_) ?_
          · go_simp
            refine (rsize_any _ _ _ (by omega)).mono ?_
            rintro e w6 ⟨rfl, rfl⟩
            exact hK _ _ (Ext.refl _) rfl trivial
          rintro _ rfl
          simp only [Act.put, List.setIfInBounds_toArray, List.set_cons_zero, List.set_cons_succ]
          repeat (first | ((refine seq_skip (by rfl) ?_); (simp only [Act.put, List.setIfInBounds_toArray, List.set_cons_zero, List.set_cons_succ])) | ((refine seq_exact ?_ (by rfl) (by rfl) (fun w1 hU => ?_) ?_); (rotate_left 1); (focus (have hk := hU.un.cell; have hh := q1'; have hg := q2'; have hw := HWP.out; clear hU; go_simp <;> with_reducible rfl)); (simp only [Act.put, List.setIfInBounds_toArray, List.set_cons_zero, List.set_cons_succ])))
          intro w7 hw7 _
          simp only [List.drop_succ_cons, List.drop_nil]
          have HX7 := hide (HX.out.trans ((Ext.alloc wr _).trans hw7.un))
          have HP7 := hide ((HP.out.alloc (.cells #[.int .i64 cs[i + 1].1, .slice A1 cs[i + 1].2.length c1] 88)).ext hw7.un)
          clear hw7
          go_wp2_with fail
          go_ret
          exact ⟨ret_bool (by rw [HV.out, HR.out, Bool.false_and]), HX7.out⟩
        · have HG := hide (HGG.out (by rw [hll]; omega))
          clear hll HGG
          go_wp2_with fail
          refine wp_region_ext 33 2 [(4, fun v => v = .int .i64 (szI len cs[i + 1].1), fun _ _ => True), (14, fun v => v = .int .i64 (szI len cs[i + 1].1), fun _ _ => True)] mixed (by kernel_rfl) ⟨fun _ _ _ _ _ => trivial, fun _ _ _ _ _ => trivial, trivial⟩ ?_
          repeat ((refine seq_exact ?_ (by rfl) (by rfl) (fun w1 hU => ?_) ?_); (rotate_left 1); (focus (have hk := hU.un.cell; clear hU; go_simp <;> with_reducible rfl)); (simp only [Act.put, List.setIfInBounds_toArray, List.set_cons_zero, List.set_cons_succ]))
          refine seq_opaque _ _ (by rfl) rfl ⟨_, rfl⟩ (by simp) (fun w5 hU _ K hK => ?_) ?_
          · go_simp
            refine (rsize_any _ _ _ (by omega)).mono ?_
            rintro e w6 ⟨rfl, rfl⟩
            exact hK _ _ (Ext.refl _) rfl trivial
          rintro _ rfl
          simp only [Act.put, List.setIfInBounds_toArray, List.set_cons_zero, List.set_cons_succ]
          repeat (first | ((refine seq_skip (by rfl) ?_); (simp only [Act.put, List.setIfInBounds_toArray, List.set_cons_zero, List.set_cons_succ])) | ((refine seq_exact ?_ (by rfl) (by rfl) (fun w1 hU => ?_) ?_); (rotate_left 1); (focus (have hk := hU.un.cell; have hh := q1'; have hg := q2'; have hw := HWP.out; clear hU; go_simp <;> with_reducible rfl)); (simp only [Act.put, List.setIfInBounds_toArray, List.set_cons_zero, List.set_cons_succ])))
          refine seq_opaque _ _ (by rfl) rfl ⟨_, rfl⟩ (by simp) (fun w5 hU _ K hK => ?_) ?_
          · go_simp
            refine (rsize_any _ _ _ (by omega)).mono ?_
            rintro e w6 ⟨rfl, rfl⟩
            exact hK _ _ (Ext.refl _) rfl trivial
          rintro _ rfl
          simp only [Act.put, List.setIfInBounds_toArray, List.set_cons_zero, List.set_cons_succ]
          repeat (first | ((refine seq_skip (by rfl) ?_); (simp only [Act.put, List.setIfInBounds_toArray, List.set_cons_zero, List.set_cons_succ])) | ((refine seq_exact ?_ (by rfl) (by rfl) (fun w1 hU => ?_) ?_); (rotate_left 1); (focus (have hk := hU.un.cell; have hh := q1'; have hg := q2'; have hw := HWP.out; clear hU; go_simp <;> with_reducible rfl)); (simp only [Act.put, List.setIfInBounds_toArray, List.set_cons_zero, List.set_cons_succ])))
          intro w7 hw7 _
          simp only [List.drop_succ_cons, List.drop_nil]
          have HX7 := hide (HX.out.trans ((Ext.alloc wr _).trans hw7.un))
          have HP7 := hide ((HP.out.alloc (.cells #[.int .i64 cs[i + 1].1, .slice A1 cs[i + 1].2.length c1] 88)).ext hw7.un)
          clear hw7
          go_wp2_with fail
          go_roundw
          case rel => exact ⟨i + 1 + 1, by omega, by go_num, HP7.out, HX7.out, hide HG.out⟩
          case measure => simp [intOf]; omega
      · have hj0 : j = 0 := by omega
        have HG := hide (HGG.out (by subst hj0; simp [lastOf]; omega))
        clear hj0 HGG
        go_wp2_with fail
        refine wp_region_ext 33 2 [(4, fun v => v = .int .i64 (szI len cs[j].1), fun _ _ => True), (14, fun v => v = .int .i64 (szI len cs[j].1), fun _ _ => True)] mixed (by kernel_rfl) ⟨fun _ _ _ _ _ => trivial, fun _ _ _ _ _ => trivial, trivial⟩ ?_
        repeat ((refine seq_exact ?_ (by rfl) (by rfl) (fun w1 hU => ?_) ?_); (rotate_left 1); (focus (have hk := hU.un.cell; clear hU; go_simp <;> with_reducible rfl)); (simp only [Act.put, List.setIfInBounds_toArray, List.set_cons_zero, List.set_cons_succ]))
        refine seq_opaque _ _ (by rfl) rfl ⟨_, rfl⟩ (by simp) (fun w5 hU _ K hK => ?_) ?_
        · go_simp
          refine (rsize_any _ _ _ (by omega)).mono ?_
          rintro e w6 ⟨rfl, rfl⟩
          exact hK _ _ (Ext.refl _) rfl trivial
        rintro _ rfl
        simp only [Act.put, List.setIfInBounds_toArray, List.set_cons_zero, List.set_cons_succ]
        repeat (first | ((refine seq_skip (by rfl) ?_); (simp only [Act.put, List.setIfInBounds_toArray, List.set_cons_zero, List.set_cons_succ])) | ((refine seq_exact ?_ (by rfl) (by rfl) (fun w1 hU => ?_) ?_); (rotate_left 1); (focus (have hk := hU.un.cell; have hh := q1'; have hg := q2'; clear hU; go_simp <;> with_reducible rfl)); (simp only [Act.put, List.setIfInBounds_toArray, List.set_cons_zero, List.set_cons_succ])))
        refine seq_opaque _ _ (by rfl) rfl ⟨_, rfl⟩ (by simp) (fun w5 hU _ K hK => ?_) ?_
        · go_simp
          refine (rsize_any _ _ _ (by omega)).mono ?_
          rintro e w6 ⟨rfl, rfl⟩
          exact hK _ _ (Ext.refl _) rfl trivial
        rintro _ rfl
        simp only [Act.put, List.setIfInBounds_toArray, List.set_cons_zero, List.set_cons_succ]
        repeat (first | ((refine seq_skip (by rfl) ?_); (simp only [Act.put, List.setIfInBounds_toArray, List.set_cons_zero, List.set_cons_succ])) | ((refine seq_exact ?_ (by rfl) (by rfl) (fun w1 hU => ?_) ?_); (rotate_left 1); (focus (have hk := hU.un.cell; have hh := q1'; have hg := q2'; clear hU; go_simp <;> with_reducible rfl)); (simp only [Act.put, List.setIfInBounds_toArray, List.set_cons_zero, List.set_cons_succ])))
        intro w7 hw7 _
        simp only [List.drop_succ_cons, List.drop_nil]
        have HX7 := hide (HX.out.trans ((Ext.alloc wr _).trans hw7.un))
        have HP7 := hide ((HP.out.alloc (.cells #[.int .i64 cs[j].1, .slice A1 cs[j].2.length c1] 88)).ext hw7.un)
        clear hw7
        go_wp2_with fail
        go_roundw
        case rel => exact ⟨j + 1, by omega, by go_num, HP7.out, HX7.out, hide HG.out⟩
        case measure => simp [intOf]; omega
    · have hjj : j = cs.length := by omega
      have HO := hide (show ordOk len (-1) cs = true by rw [HT.out.2, hjj, List.drop_length]; rfl)
      subst hjj
      obtain ⟨N, hN⟩ : ∃ N : Nat, cnt len = (N : Int) := ⟨(cnt len).toNat, by omega⟩
      have HN := hide hN
      have hN2 : N ≤ 24000 := by omega
      clear hN
      go_wp2_with fail
      go_loopw [7] (fun i wr => ∃ k : Nat, k ≤ N ∧ i = .int .i64 k ∧ Blk wr w.heap.size 35 #[.int .i64 len, .slice A cs.length cap] ∧ Ext w wr ∧ Hid (covTo len n cs k = true)) (fun i _ => N - (intOf i).toNat)
      case atStart => exact ⟨0, Nat.zero_le _, rfl, HP.out, HX.out, hide rfl⟩
      case round =>
        obtain ⟨k, hk, rfl, hp2, hx2, HT2⟩ := hrel
        have hpc2 := hp2.cell
        have hz2 := hp2.lt
        have HP2 := hide hp2
        have HX2 := hide hx2
        have HC2 := hide (HC.out.ext hx2)
        clear hp2 hpc hz0 hx2 hx
        by_cases hkN : k < N
        · obtain ⟨f, hf⟩ : ∃ f, fi cs k = f := ⟨_, rfl⟩
          have hfb := fi_fb cs k
          rw [hf] at hfb
          have HFI := hide hf
          have HFB := hide hfb
          clear hf hfb
          go_wp2_with (go_at_call 17; refine (rcount_any _ _ (by omega)).mono ?_; rw [HN.out]; rintro e w' ⟨rfl, rfl⟩)
          by_cases hpe : szI n k = szI len k
          · have HPE := hide (show (szI n k != szI len k) = false by simpa using hpe)
            have HFL := hide (show True from trivial)
            have HCV := hide (show (fb cs k || szI n k == szI len k) = true by simp [hpe])
            clear hpe
            refine wp_region_ext 15 2 [(2, fun v => v = .int .i64 (szI n k), fun _ _ => True), (6, fun v => v = .int .i64 (szI len k), fun _ _ => True), (12, fun v => v = .int .i64 f, fun _ _ => True)] mixed (by kernel_rfl) ⟨fun _ _ _ _ _ => trivial, fun _ _ _ _ _ => trivial, fun _ _ _ _ _ => trivial, trivial⟩ ?_
            repeat (first | ((refine seq_skip (by rfl) ?_); (simp only [Act.put, List.setIfInBounds_toArray, List.set_cons_zero, List.set_cons_succ])) | ((refine seq_exact ?_ (by rfl) (by rfl) (fun w1 hU => ?_) ?_); (rotate_left 1); (focus (have hk := (HP2.out.ext hU.un).cell; have hh := HPE.out; have hg := HFL.out; clear hU; go_simp <;> with_reducible rfl)); (simp only [Act.put, List.setIfInBounds_toArray, List.set_cons_zero, List.set_cons_succ])))
            refine seq_opaque _ _ (by rfl) rfl ⟨_, rfl⟩ (by simp) (fun w5 hU _ K hK => ?_) ?_
            · go_simp
              refine (rsize_any _ _ _ (by omega)).mono ?_
              rintro e w6 ⟨rfl, rfl⟩
              exact hK _ _ (Ext.refl _) rfl trivial
            rintro _ rfl
            simp only [Act.put, List.setIfInBounds_toArray, List.set_cons_zero, List.set_cons_succ]
            repeat (first | ((refine seq_skip (by rfl) ?_); (simp only [Act.put, List.setIfInBounds_toArray, List.set_cons_zero, List.set_cons_succ])) | ((refine seq_exact ?_ (by rfl) (by rfl) (fun w1 hU => ?_) ?_); (rotate_left 1); (focus (have hk := (HP2.out.ext hU.un).cell; have hh := HPE.out; have hg := HFL.out; clear hU; go_simp <;> with_reducible rfl)); (simp only [Act.put, List.setIfInBounds_toArray, List.set_cons_zero, List.set_cons_succ])))
            refine seq_opaque _ _ (by rfl) rfl ⟨_, rfl⟩ (by simp) (fun w5 hU _ K hK => ?_) ?_
            · go_simp
              refine (rsize_any _ _ _ (by omega)).mono ?_
              rintro e w6 ⟨rfl, rfl⟩
              exact hK _ _ (Ext.refl _) rfl trivial
            rintro _ rfl
            simp only [Act.put, List.setIfInBounds_toArray, List.set_cons_zero, List.set_cons_succ]
            repeat (first | ((refine seq_skip (by rfl) ?_); (simp only [Act.put, List.setIfInBounds_toArray, List.set_cons_zero, List.set_cons_succ])) | ((refine seq_exact ?_ (by rfl) (by rfl) (fun w1 hU => ?_) ?_); (rotate_left 1); (focus (have hk := (HP2.out.ext hU.un).cell; have hh := HPE.out; have hg := HFL.out; clear hU; go_simp <;> with_reducible rfl)); (simp only [Act.put, List.setIfInBounds_toArray, List.set_cons_zero, List.set_cons_succ])))
            intro w7 hw7 _
            simp only [List.drop_succ_cons, List.drop_nil]
            have HX7 := hide (HX2.out.trans hw7.un)
            have HP7 := hide (HP2.out.ext hw7.un)
            clear hw7
            go_wp2_with fail
            go_roundw
            case rel => exact ⟨k + 1, by omega, by go_num, HP7.out, HX7.out, hide (by simp only [covTo]; rw [HT2.out, HCV.out]; rfl)⟩
            case measure => simp [intOf]; omega
          have HPE := hide (show (szI n k != szI len k) = true by simpa using hpe)
          by_cases hf0 : f < 0
          · have HFL := hide (show decide (f < 0) = true by simpa using hf0)
            have HCV := hide (show (fb cs k || szI n k == szI len k) = false by
              have : fb cs k = false := by rw [← HFB.out]; exact hf0
              rw [this]; simpa using hpe)
            clear hpe hf0
            refine wp_region_ext 15 2 [(2, fun v => v = .int .i64 (szI n k), fun _ _ => True), (6, fun v => v = .int .i64 (szI len k), fun _ _ => True), (12, fun v => v = .int .i64 f, fun _ _ => True)] mixed (by kernel_rfl) ⟨fun _ _ _ _ _ => trivial, fun _ _ _ _ _ => trivial, fun _ _ _ _ _ => trivial, trivial⟩ ?_
            repeat (first | ((refine seq_skip (by rfl) ?_); (simp only [Act.put, List.setIfInBounds_toArray, List.set_cons_zero, List.set_cons_succ])) | ((refine seq_exact ?_ (by rfl) (by rfl) (fun w1 hU => ?_) ?_); (rotate_left 1); (focus (have hk := (HP2.out.ext hU.un).cell; have hh := HPE.out; have hg := HFL.out; clear hU; go_simp <;> with_reducible rfl)); (simp only [Act.put, List.setIfInBounds_toArray, List.set_cons_zero, List.set_cons_succ])))
            refine seq_opaque _ _ (by rfl) rfl ⟨_, rfl⟩ (by simp) (fun w5 hU _ K hK => ?_) ?_
            · go_simp
              refine (rsize_any _ _ _ (by omega)).mono ?_
              rintro e w6 ⟨rfl, rfl⟩
              exact hK _ _ (Ext.refl _) rfl trivial
            rintro _ rfl
            simp only [Act.put, List.setIfInBounds_toArray, List.set_cons_zero, List.set_cons_succ]
            repeat (first | ((refine seq_skip (by rfl) ?_); (simp only [Act.put, List.setIfInBounds_toArray, List.set_cons_zero, List.set_cons_succ])) | ((refine seq_exact ?_ (by rfl) (by rfl) (fun w1 hU => ?_) ?_); (rotate_left 1); (focus (have hk := (HP2.out.ext hU.un).cell; have hh := HPE.out; have hg := HFL.out; clear hU; go_simp <;> with_reducible rfl)); (simp only [Act.put, List.setIfInBounds_toArray, List.set_cons_zero, List.set_cons_succ])))
            refine seq_opaque _ _ (by rfl) rfl ⟨_, rfl⟩ (by simp) (fun w5 hU _ K hK => ?_) ?_
            · go_simp
              refine (rsize_any _ _ _ (by omega)).mono ?_
              rintro e w6 ⟨rfl, rfl⟩
              exact hK _ _ (Ext.refl _) rfl trivial
            rintro _ rfl
            simp only [Act.put, List.setIfInBounds_toArray, List.set_cons_zero, List.set_cons_succ]
            repeat (first | ((refine seq_skip (by rfl) ?_); (simp only [Act.put, List.setIfInBounds_toArray, List.set_cons_zero, List.set_cons_succ])) | ((refine seq_exact ?_ (by rfl) (by rfl) (fun w1 hU => ?_) ?_); (rotate_left 1); (focus (have hk := (HP2.out.ext hU.un).cell; have hh := HPE.out; have hg := HFL.out; clear hU; go_simp <;> with_reducible rfl)); (simp only [Act.put, List.setIfInBounds_toArray, List.set_cons_zero, List.set_cons_succ])))
            refine seq_opaque _ _ (by rfl) rfl ⟨_, rfl⟩ (by simp) (fun w5 hU _ K hK => ?_) ?_
            · have hq := rfind_any k A cap cs w5 (HC2.out.ext hU.un) hl
              rw [HFI.out] at hq
              go_simp
              refine hq.mono ?_
              rintro e w6 ⟨rfl, rfl⟩
              exact hK _ _ (Ext.refl _) rfl trivial
            rintro _ rfl
            simp only [Act.put, List.setIfInBounds_toArray, List.set_cons_zero, List.set_cons_succ]
            repeat (first | ((refine seq_skip (by rfl) ?_); (simp only [Act.put, List.setIfInBounds_toArray, List.set_cons_zero, List.set_cons_succ])) | ((refine seq_exact ?_ (by rfl) (by rfl) (fun w1 hU => ?_) ?_); (rotate_left 1); (focus (have hk := (HP2.out.ext hU.un).cell; have hh := HPE.out; have hg := HFL.out; clear hU; go_simp <;> with_reducible rfl)); (simp only [Act.put, List.setIfInBounds_toArray, List.set_cons_zero, List.set_cons_succ])))
            intro w7 hw7 _
            simp only [List.drop_succ_cons, List.drop_nil]
            have HX7 := hide (HX2.out.trans hw7.un)
            have HP7 := hide (HP2.out.ext hw7.un)
            clear hw7
            go_wp2_with fail
            go_ret
            have hf : covTo len n cs (k + 1) = false := by simp only [covTo]; rw [HCV.out, Bool.and_false]
            exact ⟨ret_bool (by rw [HV.out, HN.out, Int.toNat_natCast, covTo_mono len n cs hf (by omega), Bool.and_false]), HX7.out⟩
          · have HFL := hide (show decide (f < 0) = false by simpa using hf0)
            have HCV := hide (show (fb cs k || szI n k == szI len k) = true by
              cases h : fb cs k with
              | true => rfl
              | false => rw [h] at HFB; exact absurd (by rw [HFB.out]) hf0)
            clear hpe hf0
            refine wp_region_ext 15 2 [(2, fun v => v = .int .i64 (szI n k), fun _ _ => True), (6, fun v => v = .int .i64 (szI len k), fun _ _ => True), (12, fun v => v = .int .i64 f, fun _ _ => True)] mixed (by kernel_rfl) ⟨fun _ _ _ _ _ => trivial, fun _ _ _ _ _ => trivial, fun _ _ _ _ _ => trivial, trivial⟩ ?_
            repeat (first | ((refine seq_skip (by rfl) ?_); (simp only [Act.put, List.setIfInBounds_toArray, List.set_cons_zero, List.set_cons_succ])) | ((refine seq_exact ?_ (by rfl) (by rfl) (fun w1 hU => ?_) ?_); (rotate_left 1); (focus (have hk := (HP2.out.ext hU.un).cell; have hh := HPE.out; have hg := HFL.out; clear hU; go_simp <;> with_reducible rfl)); (simp only [Act.put, List.setIfInBounds_toArray, List.set_cons_zero, List.set_cons_succ])))
            refine seq_opaque _ _ (by rfl) rfl ⟨_, rfl⟩ (by simp) (fun w5 hU _ K hK => ?_) ?_
            · go_simp
              refine (rsize_any _ _ _ (by omega)).mono ?_
              rintro e w6 ⟨rfl, rfl⟩
              exact hK _ _ (Ext.refl _) rfl trivial
            rintro _ rfl
            simp only [Act.put, List.setIfInBounds_toArray, List.set_cons_zero, List.set_cons_succ]
            repeat (first | ((refine seq_skip (by rfl) ?_); (simp only [Act.put, List.setIfInBounds_toArray, List.set_cons_zero, List.set_cons_succ])) | ((refine seq_exact ?_ (by rfl) (by rfl) (fun w1 hU => ?_) ?_); (rotate_left 1); (focus (have hk := (HP2.out.ext hU.un).cell; have hh := HPE.out; have hg := HFL.out; clear hU; go_simp <;> with_reducible rfl)); (simp only [Act.put, List.setIfInBounds_toArray, List.set_cons_zero, List.set_cons_succ])))
            refine seq_opaque _ _ (by rfl) rfl ⟨_, rfl⟩ (by simp) (fun w5 hU _ K hK => ?_) ?_
            · go_simp
              refine (rsize_any _ _ _ (by omega)).mono ?_
              rintro e w6 ⟨rfl, rfl⟩
              exact hK _ _ (Ext.refl _) rfl trivial
            rintro _ rfl
            simp only [Act.put, List.setIfInBounds_toArray, List.set_cons_zero, List.set_cons_succ]
            repeat (first | ((refine seq_skip (by rfl) ?_); (simp only [Act.put, List.setIfInBounds_toArray, List.set_cons_zero, List.set_cons_succ])) | ((refine seq_exact ?_ (by rfl) (by rfl) (fun w1 hU => ?_) ?_); (rotate_left 1); (focus (have hk := (HP2.out.ext hU.un).cell; have hh := HPE.out; have hg := HFL.out; clear hU; go_simp <;> with_reducible rfl)); (simp only [Act.put, List.setIfInBounds_toArray, List.set_cons_zero, List.set_cons_succ])))
            refine seq_opaque _ _ (by rfl) rfl ⟨_, rfl⟩ (by simp) (fun w5 hU _ K hK => ?_) ?_
            · have hq := rfind_any k A cap cs w5 (HC2.out.ext hU.un) hl
              rw [HFI.out] at hq
              go_simp
              refine hq.mono ?_
              rintro e w6 ⟨rfl, rfl⟩
              exact hK _ _ (Ext.refl _) rfl trivial
            rintro _ rfl
            simp only [Act.put, List.setIfInBounds_toArray, List.set_cons_zero, List.set_cons_succ]
            repeat (first | ((refine seq_skip (by rfl) ?_); (simp only [Act.put, List.setIfInBounds_toArray, List.set_cons_zero, List.set_cons_succ])) | ((refine seq_exact ?_ (by rfl) (by rfl) (fun w1 hU => ?_) ?_); (rotate_left 1); (focus (have hk := (HP2.out.ext hU.un).cell; have hh := HPE.out; have hg := HFL.out; clear hU; go_simp <;> with_reducible rfl)); (simp only [Act.put, List.setIfInBounds_toArray, List.set_cons_zero, List.set_cons_succ])))
            intro w7 hw7 _
            simp only [List.drop_succ_cons, List.drop_nil]
            have HX7 := hide (HX2.out.trans hw7.un)
            have HP7 := hide (HP2.out.ext hw7.un)
            clear hw7
            go_wp2_with fail
            go_roundw
            case rel => exact ⟨k + 1, by omega, by go_num, HP7.out, HX7.out, hide (by simp only [covTo]; rw [HT2.out, HCV.out]; rfl)⟩
            case measure => simp [intOf]; omega
        · have hkk : k = N := by omega
          subst hkk
          go_wp2_with (go_at_call 17; refine (rcount_any _ _ (by omega)).mono ?_; rw [HN.out]; rintro e w' ⟨rfl, rfl⟩)
          go_ret
          exact ⟨ret_bool (by rw [HV.out, HN.out, Int.toNat_natCast, HO.out, HT2.out]; rfl), HX2.out⟩

theorem rvalid3_any (len n : Int) (A : Option Addr) (cap : Nat) (cs : List Chg) (w : World) (hc : Chs w A cap cs) (hl : cs.length ≤ 65536) (hd : ∀ c ∈ cs, c.2.length ≤ 65536) (hn2 : n ≤ 9223372036854775807) :
    Calls Try.prog 42 #[.agg #[.int .i64 len, .slice A cs.length cap], .int .i64 n] w fun e w' => e = .returned (.bool (validP len cs n)) ∧ Ext w w' := by
  by_cases h : 0 ≤ n ∧ 0 ≤ len ∧ len ≤ 24000
  · exact rvalid3_good len n A cap cs w hc hl hd h.1 hn2 h.2.1 h.2.2
  · refine rvalid3_bad len n A cap cs w ?_
    unfold lenOk
    simp
    omega
end Go.Proofs.Ytfcmngiekdhfpaa
