/-
  Cut out of an elder text of mine (AttG) by cutdecl.py.
-/
import Derived.Test.YtfjddphjjhhjpaaDoorSeq
import Derived.Test.YtfjddphjjhhjpaaDoorVoc
import Derived.Test.YtfjddphjjhhjpaaDoorSeqIn
import Derived.Test.YtfjddphjjhhjpaaDoorFcImgA
import Derived.Test.YtfjddphjjhhjpaaDoorFcChg
import Derived.Test.YtfjddphjjhhjpaaDoorFcImgB
import Derived.Test.YtfjddphjjhhjpaaDoorFcEqA
import Derived.Test.YtfjddphjjhhjpaaDoorFcLawD
import Derived.Test.YtfjddphjjhhjpaaDoorFcAttA
import Derived.Test.YtfjddphjjhhjpaaDoorFcAttB
import Derived.Test.YtfjddphjjhhjpaaDoorFcAttD
import Derived.Test.YtfjddphjjhhjpaaDoorFcAttE
import Derived.Test.YtfjddphjjhhjpaaDoorFcAttF
namespace Go.Proofs.YtfjddphjjhhjpaaDoor
open Go.RowKit
set_option linter.unusedVariables false


set_option maxRecDepth 100000 in
set_option maxHeartbeats 4000000 in
theorem fvalid_a (c n e k s p m : Int) (w : World) (hk : 1 ≤ k ∧ k ≤ 3) (h1 : inB c 1 10 = true) (h2 : inB n 1 1000000 = true) (h3 : inB k 1 9 = true) : Calls Tryd.prog 13 #[.agg #[.int .i64 c, .int .i64 n, .int .i64 e, .int .i64 k, .int .i64 s, .int .i64 p, .int .i64 m]] w fun e_1 w' => e_1 = .returned (.bool (inB e 0 1 && (inB s 0 4000 && ((p == 0) && (m == 0))))) ∧ Ext w w' := by
  have hk0 : k ≠ 0 := by omega
  have HK := hide hk
  clear hk
  have hP := Blk.new w 28 #[.int .i64 c, .int .i64 n, .int .i64 e, .int .i64 k, .int .i64 s, .int .i64 p, .int .i64 m]
  have hc := hP.cell
  have H1 := hide h1
  have H2 := hide h2
  have H3 := hide h3
  clear h1 h2 h3
  obtain ⟨e01, he01⟩ : ∃ t, inB e 0 1 = t := ⟨_, rfl⟩
  have He01 := hide he01
  clear he01
  obtain ⟨s4, hs4⟩ : ∃ t, inB s 0 4000 = t := ⟨_, rfl⟩
  have Hs4 := hide hs4
  clear hs4
  go_enter Tryd.func13, Tryd.ntmps13
  go_wp2_with (go_at_call 45; refine (within_any _ _ _ _).mono ?_; (first | rw [H1.out] | rw [H2.out] | rw [H3.out]); rintro e w' ⟨rfl, rfl⟩)
  have hR := Blk.new (w.alloc (.cells #[.int .i64 c, .int .i64 n, .int .i64 e, .int .i64 k, .int .i64 s, .int .i64 p, .int .i64 m] 28)) 28 #[.int .i64 c, .int .i64 n, .int .i64 0, .int .i64 k, .int .i64 0, .int .i64 0, .int .i64 0]
  have hP2 := hP.alloc (.cells #[.int .i64 c, .int .i64 n, .int .i64 0, .int .i64 k, .int .i64 0, .int .i64 0, .int .i64 0] 28)
  have hx := (Ext.alloc w (.cells #[.int .i64 c, .int .i64 n, .int .i64 e, .int .i64 k, .int .i64 s, .int .i64 p, .int .i64 m] 28)).alloc' (.cells #[.int .i64 c, .int .i64 n, .int .i64 0, .int .i64 k, .int .i64 0, .int .i64 0, .int .i64 0] 28)
  simp only [World.size_alloc] at hR
  generalize hwa : (w.alloc (.cells #[.int .i64 c, .int .i64 n, .int .i64 e, .int .i64 k, .int .i64 s, .int .i64 p, .int .i64 m] 28)).alloc (.cells #[.int .i64 c, .int .i64 n, .int .i64 0, .int .i64 k, .int .i64 0, .int .i64 0, .int .i64 0] 28) = wa at *
  clear hwa hc hP
  refine (used_a _ _ _ _ _ _ _ _ _ hR HK.out).mono ?_
  rintro e_1 w2 ⟨h1, rfl, hh1, hf1, he2⟩
  have HR := hide (hR.ext he2)
  have HP := hide (hP2.ext he2)
  have HX := hide (hx.trans he2)
  have HF1 := hide hf1
  have hzP := (hP2.ext he2).lt
  have hzR := (hR.ext he2).lt
  have hz2 := he2.size
  have hzR0 := hR.lt
  clear hR hP2 hx he2 hf1
  go_wp2_with fail
  refine (used_a _ _ _ _ _ _ _ _ _ HP.out HK.out).mono ?_
  rintro e_1 wr ⟨h2, rfl, hh2, hf2, he2⟩
  have HR := hide (HR.out.ext he2)
  have HP := hide (HP.out.ext he2)
  have HX := hide (HX.out.trans he2)
  have HF1 := hide (HF1.out.ext he2)
  have hz1 := HF1.out.lt
  have HF2 := hide hf2
  have hz2' := hf2.lt
  have hf := hf2.cell
  unfold fldA at hf
  have hzr := he2.size
  clear he2 hf2
  go_wp2_with fail
  refine wp_loop_rounds 3 ?_
  -- round 0
  rw [rounds_succ]
  go_wp2_with fail
  have HG := hide (Blk.new wr 79 #[.pointer (some ⟨w.heap.size, 2, none⟩), .int .i64 0, .int .i64 1])
  have heg := Ext.alloc wr (.cells #[.pointer (some ⟨w.heap.size, 2, none⟩), .int .i64 0, .int .i64 1] 79)
  have HP := hide (HP.out.ext heg)
  have HR := hide (HR.out.ext heg)
  have HF1 := hide (HF1.out.ext heg)
  have HF2 := hide (HF2.out.ext heg)
  have HX := hide (HX.out.trans heg)
  have hzs := heg.size
  have hwsz : (wr.alloc (.cells #[.pointer (some ⟨w.heap.size, 2, none⟩), .int .i64 0, .int .i64 1] 79)).heap.size = wr.heap.size + 1 := World.size_alloc _ _
  generalize hws : wr.alloc (.cells #[.pointer (some ⟨w.heap.size, 2, none⟩), .int .i64 0, .int .i64 1] 79) = ws at *
  clear hws heg hf
  refine wp_region_ext 9 3 [(8, fun v => v = .bool e01, fun _ _ => True)] mixed (by kernel_rfl) ⟨fun _ _ _ _ _ => trivial, trivial⟩ ?_
  repeat ((refine seq_exact ?_ (by rfl) (by rfl) (fun w1 hU => ?_) ?_); (rotate_left 1); (focus (have h4 := (HG.out.ext hU.un).cell; have h5 := (HP.out.ext hU.un).cell; have h6 := (HP.out.ext hU.un).lt; clear hU; go_simp <;> with_reducible rfl)); (simp only [Act.put, List.setIfInBounds_toArray, List.set_cons_zero, List.set_cons_succ]))
  refine seq_opaque _ _ (by rfl) rfl ⟨_, rfl⟩ (by simp) (fun w5 hU _ K hK => ?_) ?_
  · go_simp
    refine (within_any _ _ _ _).mono ?_
    rw [He01.out]
    rintro e_1 w6 ⟨rfl, rfl⟩
    exact hK _ _ (Ext.refl _) rfl trivial
  rintro _ rfl
  simp only [Act.put, List.setIfInBounds_toArray, List.set_cons_zero, List.set_cons_succ]
  intro wt hwt _
  simp only [List.drop_succ_cons, List.drop_zero]
  have heg := hwt.un
  have HP := hide (HP.out.ext heg)
  have HR := hide (HR.out.ext heg)
  have HF1 := hide (HF1.out.ext heg)
  have HF2 := hide (HF2.out.ext heg)
  have HG := hide (HG.out.ext heg)
  have HX := hide (HX.out.trans heg)
  have hzt := heg.size
  clear hwt heg
  cases e01
  · go_wp2_with fail
    go_ret
    exact ⟨ret_bool (by simp [He01.out]), HX.out⟩
  go_wp2_with fail
  refine wp_region_ext 10 3 [] mixed (by kernel_rfl) trivial ?_
  repeat ((refine seq_exact ?_ (by rfl) (by rfl) (fun w1 hU => ?_) ?_); (rotate_left 1); (focus (have h4 := (HG.out.ext hU.un).cell; have h5 := (HP.out.ext hU.un).cell; have h6 := (HP.out.ext hU.un).lt; have h7 := (HF1.out.ext hU.un).cell; have h8 := (HR.out.ext hU.un).lt; unfold fldA at h7; clear hU; go_simp <;> with_reducible rfl)); (simp only [Act.put, List.setIfInBounds_toArray, List.set_cons_zero, List.set_cons_succ]))
  intro wu hwu _
  simp only [List.drop_succ_cons, List.drop_zero]
  have heg := hwu.un
  have hbR := HR.out.ext heg
  have hcR := hbR.cell
  have hfR := hbR.frozen
  have hcR2 := hcR 2
  have hfR2 := hfR 2
  have HR := hide (show Blk (wu.setCell ⟨w.heap.size + 1, 2, none⟩ (.int .i64 e)) (w.heap.size + 1) 28 #[.int .i64 c, .int .i64 n, .int .i64 e, .int .i64 k, .int .i64 0, .int .i64 0, .int .i64 0] from by have := hbR.set 2 (.int .i64 e); simpa using this)
  have HP := hide ((HP.out.ext heg).far (p := ⟨w.heap.size + 1, 2, none⟩) (by simp) (.int .i64 e))
  have HF1 := hide ((HF1.out.ext heg).far (p := ⟨w.heap.size + 1, 2, none⟩) (by simp; omega) (.int .i64 e))
  have HF2 := hide ((HF2.out.ext heg).far (p := ⟨w.heap.size + 1, 2, none⟩) (by simp; omega) (.int .i64 e))
  have HX := hide ((HX.out.trans heg).set (p := ⟨w.heap.size + 1, 2, none⟩) (by simp) (.int .i64 e))
  clear hwu heg HG hbR
  go_wp2_with fail
  generalize hwr : wu.setCell ⟨w.heap.size + 1, 2, none⟩ (.int .i64 e) = wr at *
  clear hwr hcR hfR hcR2 hfR2
  have hf := HF2.out.cell
  unfold fldA at hf
  have hz1 := HF1.out.lt
  have hz2' := HF2.out.lt
  -- round 1
  rw [rounds_succ]
  go_wp2_with fail
  have HG := hide (Blk.new wr 79 #[.pointer (some ⟨w.heap.size, 4, none⟩), .int .i64 0, .int .i64 4000])
  have heg := Ext.alloc wr (.cells #[.pointer (some ⟨w.heap.size, 4, none⟩), .int .i64 0, .int .i64 4000] 79)
  have HP := hide (HP.out.ext heg)
  have HR := hide (HR.out.ext heg)
  have HF1 := hide (HF1.out.ext heg)
  have HF2 := hide (HF2.out.ext heg)
  have HX := hide (HX.out.trans heg)
  have hzs := heg.size
  have hwsz : (wr.alloc (.cells #[.pointer (some ⟨w.heap.size, 4, none⟩), .int .i64 0, .int .i64 4000] 79)).heap.size = wr.heap.size + 1 := World.size_alloc _ _
  generalize hws : wr.alloc (.cells #[.pointer (some ⟨w.heap.size, 4, none⟩), .int .i64 0, .int .i64 4000] 79) = ws at *
  clear hws heg hf
  refine wp_region_ext 9 3 [(8, fun v => v = .bool s4, fun _ _ => True)] mixed (by kernel_rfl) ⟨fun _ _ _ _ _ => trivial, trivial⟩ ?_
  repeat ((refine seq_exact ?_ (by rfl) (by rfl) (fun w1 hU => ?_) ?_); (rotate_left 1); (focus (have h4 := (HG.out.ext hU.un).cell; have h5 := (HP.out.ext hU.un).cell; have h6 := (HP.out.ext hU.un).lt; clear hU; go_simp <;> with_reducible rfl)); (simp only [Act.put, List.setIfInBounds_toArray, List.set_cons_zero, List.set_cons_succ]))
  refine seq_opaque _ _ (by rfl) rfl ⟨_, rfl⟩ (by simp) (fun w5 hU _ K hK => ?_) ?_
  · go_simp
    refine (within_any _ _ _ _).mono ?_
    rw [Hs4.out]
    rintro e_1 w6 ⟨rfl, rfl⟩
    exact hK _ _ (Ext.refl _) rfl trivial
  rintro _ rfl
  simp only [Act.put, List.setIfInBounds_toArray, List.set_cons_zero, List.set_cons_succ]
  intro wt hwt _
  simp only [List.drop_succ_cons, List.drop_zero]
  have heg := hwt.un
  have HP := hide (HP.out.ext heg)
  have HR := hide (HR.out.ext heg)
  have HF1 := hide (HF1.out.ext heg)
  have HF2 := hide (HF2.out.ext heg)
  have HG := hide (HG.out.ext heg)
  have HX := hide (HX.out.trans heg)
  have hzt := heg.size
  clear hwt heg
  cases s4
  · go_wp2_with fail
    go_ret
    exact ⟨ret_bool (by simp [He01.out, Hs4.out]), HX.out⟩
  go_wp2_with fail
  refine wp_region_ext 10 3 [] mixed (by kernel_rfl) trivial ?_
  repeat ((refine seq_exact ?_ (by rfl) (by rfl) (fun w1 hU => ?_) ?_); (rotate_left 1); (focus (have h4 := (HG.out.ext hU.un).cell; have h5 := (HP.out.ext hU.un).cell; have h6 := (HP.out.ext hU.un).lt; have h7 := (HF1.out.ext hU.un).cell; have h8 := (HR.out.ext hU.un).lt; unfold fldA at h7; clear hU; go_simp <;> with_reducible rfl)); (simp only [Act.put, List.setIfInBounds_toArray, List.set_cons_zero, List.set_cons_succ]))
  intro wu hwu _
  simp only [List.drop_succ_cons, List.drop_zero]
  have heg := hwu.un
  have hbR := HR.out.ext heg
  have hcR := hbR.cell
  have hfR := hbR.frozen
  have hcR2 := hcR 4
  have hfR2 := hfR 4
  have HR := hide (show Blk (wu.setCell ⟨w.heap.size + 1, 4, none⟩ (.int .i64 s)) (w.heap.size + 1) 28 #[.int .i64 c, .int .i64 n, .int .i64 e, .int .i64 k, .int .i64 s, .int .i64 0, .int .i64 0] from by have := hbR.set 4 (.int .i64 s); simpa using this)
  have HP := hide ((HP.out.ext heg).far (p := ⟨w.heap.size + 1, 4, none⟩) (by simp) (.int .i64 s))
  have HF1 := hide ((HF1.out.ext heg).far (p := ⟨w.heap.size + 1, 4, none⟩) (by simp; omega) (.int .i64 s))
  have HF2 := hide ((HF2.out.ext heg).far (p := ⟨w.heap.size + 1, 4, none⟩) (by simp; omega) (.int .i64 s))
  have HX := hide ((HX.out.trans heg).set (p := ⟨w.heap.size + 1, 4, none⟩) (by simp) (.int .i64 s))
  clear hwu heg HG hbR
  go_wp2_with fail
  generalize hwr : wu.setCell ⟨w.heap.size + 1, 4, none⟩ (.int .i64 s) = wr at *
  clear hwr hcR hfR hcR2 hfR2
  have hf := HF2.out.cell
  unfold fldA at hf
  have hz1 := HF1.out.lt
  have hz2' := HF2.out.lt
  rw [rounds_succ]
  have hcP := HP.out.cell
  have hcR := HR.out.cell
  clear hf
  go_wp2_with fail
  all_goals (go_ret; exact ⟨ret_bool (by rw [He01.out, Hs4.out, Bool.eq_iff_iff]; simp <;> omega), HX.out⟩)
set_option maxRecDepth 100000 in
set_option maxHeartbeats 4000000 in
theorem fvalid_b (c n e k s p m : Int) (w : World) (hk : 4 ≤ k ∧ k ≤ 7) (h1 : inB c 1 10 = true) (h2 : inB n 1 1000000 = true) (h3 : inB k 1 9 = true) : Calls Tryd.prog 13 #[.agg #[.int .i64 c, .int .i64 n, .int .i64 e, .int .i64 k, .int .i64 s, .int .i64 p, .int .i64 m]] w fun e_1 w' => e_1 = .returned (.bool (inB e 0 1 && ((s == 0) && (inB p 0 24000 && inB m 1 255)))) ∧ Ext w w' := by
  have hk0 : k ≠ 0 := by omega
  have HK := hide hk
  clear hk
  have hP := Blk.new w 28 #[.int .i64 c, .int .i64 n, .int .i64 e, .int .i64 k, .int .i64 s, .int .i64 p, .int .i64 m]
  have hc := hP.cell
  have H1 := hide h1
  have H2 := hide h2
  have H3 := hide h3
  clear h1 h2 h3
  obtain ⟨e01, he01⟩ : ∃ t, inB e 0 1 = t := ⟨_, rfl⟩
  have He01 := hide he01
  clear he01
  obtain ⟨pl, hpl⟩ : ∃ t, inB p 0 24000 = t := ⟨_, rfl⟩
  have Hpl := hide hpl
  clear hpl
  obtain ⟨mm, hmm⟩ : ∃ t, inB m 1 255 = t := ⟨_, rfl⟩
  have Hmm := hide hmm
  clear hmm
  go_enter Tryd.func13, Tryd.ntmps13
  go_wp2_with (go_at_call 45; refine (within_any _ _ _ _).mono ?_; (first | rw [H1.out] | rw [H2.out] | rw [H3.out]); rintro e w' ⟨rfl, rfl⟩)
  have hR := Blk.new (w.alloc (.cells #[.int .i64 c, .int .i64 n, .int .i64 e, .int .i64 k, .int .i64 s, .int .i64 p, .int .i64 m] 28)) 28 #[.int .i64 c, .int .i64 n, .int .i64 0, .int .i64 k, .int .i64 0, .int .i64 0, .int .i64 0]
  have hP2 := hP.alloc (.cells #[.int .i64 c, .int .i64 n, .int .i64 0, .int .i64 k, .int .i64 0, .int .i64 0, .int .i64 0] 28)
  have hx := (Ext.alloc w (.cells #[.int .i64 c, .int .i64 n, .int .i64 e, .int .i64 k, .int .i64 s, .int .i64 p, .int .i64 m] 28)).alloc' (.cells #[.int .i64 c, .int .i64 n, .int .i64 0, .int .i64 k, .int .i64 0, .int .i64 0, .int .i64 0] 28)
  simp only [World.size_alloc] at hR
  generalize hwa : (w.alloc (.cells #[.int .i64 c, .int .i64 n, .int .i64 e, .int .i64 k, .int .i64 s, .int .i64 p, .int .i64 m] 28)).alloc (.cells #[.int .i64 c, .int .i64 n, .int .i64 0, .int .i64 k, .int .i64 0, .int .i64 0, .int .i64 0] 28) = wa at *
  clear hwa hc hP
  refine (used_b _ _ _ _ _ _ _ _ _ hR HK.out).mono ?_
  rintro e_1 w2 ⟨h1, rfl, hh1, hf1, he2⟩
  have HR := hide (hR.ext he2)
  have HP := hide (hP2.ext he2)
  have HX := hide (hx.trans he2)
  have HF1 := hide hf1
  have hzP := (hP2.ext he2).lt
  have hzR := (hR.ext he2).lt
  have hz2 := he2.size
  have hzR0 := hR.lt
  clear hR hP2 hx he2 hf1
  go_wp2_with fail
  refine (used_b _ _ _ _ _ _ _ _ _ HP.out HK.out).mono ?_
  rintro e_1 wr ⟨h2, rfl, hh2, hf2, he2⟩
  have HR := hide (HR.out.ext he2)
  have HP := hide (HP.out.ext he2)
  have HX := hide (HX.out.trans he2)
  have HF1 := hide (HF1.out.ext he2)
  have hz1 := HF1.out.lt
  have HF2 := hide hf2
  have hz2' := hf2.lt
  have hf := hf2.cell
  unfold fldB at hf
  have hzr := he2.size
  clear he2 hf2
  go_wp2_with fail
  refine wp_loop_rounds 4 ?_
  -- round 0
  rw [rounds_succ]
  go_wp2_with fail
  have HG := hide (Blk.new wr 79 #[.pointer (some ⟨w.heap.size, 2, none⟩), .int .i64 0, .int .i64 1])
  have heg := Ext.alloc wr (.cells #[.pointer (some ⟨w.heap.size, 2, none⟩), .int .i64 0, .int .i64 1] 79)
  have HP := hide (HP.out.ext heg)
  have HR := hide (HR.out.ext heg)
  have HF1 := hide (HF1.out.ext heg)
  have HF2 := hide (HF2.out.ext heg)
  have HX := hide (HX.out.trans heg)
  have hzs := heg.size
  have hwsz : (wr.alloc (.cells #[.pointer (some ⟨w.heap.size, 2, none⟩), .int .i64 0, .int .i64 1] 79)).heap.size = wr.heap.size + 1 := World.size_alloc _ _
  generalize hws : wr.alloc (.cells #[.pointer (some ⟨w.heap.size, 2, none⟩), .int .i64 0, .int .i64 1] 79) = ws at *
  clear hws heg hf
  refine wp_region_ext 9 3 [(8, fun v => v = .bool e01, fun _ _ => True)] mixed (by kernel_rfl) ⟨fun _ _ _ _ _ => trivial, trivial⟩ ?_
  repeat ((refine seq_exact ?_ (by rfl) (by rfl) (fun w1 hU => ?_) ?_); (rotate_left 1); (focus (have h4 := (HG.out.ext hU.un).cell; have h5 := (HP.out.ext hU.un).cell; have h6 := (HP.out.ext hU.un).lt; clear hU; go_simp <;> with_reducible rfl)); (simp only [Act.put, List.setIfInBounds_toArray, List.set_cons_zero, List.set_cons_succ]))
  refine seq_opaque _ _ (by rfl) rfl ⟨_, rfl⟩ (by simp) (fun w5 hU _ K hK => ?_) ?_
  · go_simp
    refine (within_any _ _ _ _).mono ?_
    rw [He01.out]
    rintro e_1 w6 ⟨rfl, rfl⟩
    exact hK _ _ (Ext.refl _) rfl trivial
  rintro _ rfl
  simp only [Act.put, List.setIfInBounds_toArray, List.set_cons_zero, List.set_cons_succ]
  intro wt hwt _
  simp only [List.drop_succ_cons, List.drop_zero]
  have heg := hwt.un
  have HP := hide (HP.out.ext heg)
  have HR := hide (HR.out.ext heg)
  have HF1 := hide (HF1.out.ext heg)
  have HF2 := hide (HF2.out.ext heg)
  have HG := hide (HG.out.ext heg)
  have HX := hide (HX.out.trans heg)
  have hzt := heg.size
  clear hwt heg
  cases e01
  · go_wp2_with fail
    go_ret
    exact ⟨ret_bool (by simp [He01.out]), HX.out⟩
  go_wp2_with fail
  refine wp_region_ext 10 3 [] mixed (by kernel_rfl) trivial ?_
  repeat ((refine seq_exact ?_ (by rfl) (by rfl) (fun w1 hU => ?_) ?_); (rotate_left 1); (focus (have h4 := (HG.out.ext hU.un).cell; have h5 := (HP.out.ext hU.un).cell; have h6 := (HP.out.ext hU.un).lt; have h7 := (HF1.out.ext hU.un).cell; have h8 := (HR.out.ext hU.un).lt; unfold fldB at h7; clear hU; go_simp <;> with_reducible rfl)); (simp only [Act.put, List.setIfInBounds_toArray, List.set_cons_zero, List.set_cons_succ]))
  intro wu hwu _
  simp only [List.drop_succ_cons, List.drop_zero]
  have heg := hwu.un
  have hbR := HR.out.ext heg
  have hcR := hbR.cell
  have hfR := hbR.frozen
  have hcR2 := hcR 2
  have hfR2 := hfR 2
  have HR := hide (show Blk (wu.setCell ⟨w.heap.size + 1, 2, none⟩ (.int .i64 e)) (w.heap.size + 1) 28 #[.int .i64 c, .int .i64 n, .int .i64 e, .int .i64 k, .int .i64 0, .int .i64 0, .int .i64 0] from by have := hbR.set 2 (.int .i64 e); simpa using this)
  have HP := hide ((HP.out.ext heg).far (p := ⟨w.heap.size + 1, 2, none⟩) (by simp) (.int .i64 e))
  have HF1 := hide ((HF1.out.ext heg).far (p := ⟨w.heap.size + 1, 2, none⟩) (by simp; omega) (.int .i64 e))
  have HF2 := hide ((HF2.out.ext heg).far (p := ⟨w.heap.size + 1, 2, none⟩) (by simp; omega) (.int .i64 e))
  have HX := hide ((HX.out.trans heg).set (p := ⟨w.heap.size + 1, 2, none⟩) (by simp) (.int .i64 e))
  clear hwu heg HG hbR
  go_wp2_with fail
  generalize hwr : wu.setCell ⟨w.heap.size + 1, 2, none⟩ (.int .i64 e) = wr at *
  clear hwr hcR hfR hcR2 hfR2
  have hf := HF2.out.cell
  unfold fldB at hf
  have hz1 := HF1.out.lt
  have hz2' := HF2.out.lt
  -- round 1
  rw [rounds_succ]
  go_wp2_with fail
  have HG := hide (Blk.new wr 79 #[.pointer (some ⟨w.heap.size, 5, none⟩), .int .i64 0, .int .i64 24000])
  have heg := Ext.alloc wr (.cells #[.pointer (some ⟨w.heap.size, 5, none⟩), .int .i64 0, .int .i64 24000] 79)
  have HP := hide (HP.out.ext heg)
  have HR := hide (HR.out.ext heg)
  have HF1 := hide (HF1.out.ext heg)
  have HF2 := hide (HF2.out.ext heg)
  have HX := hide (HX.out.trans heg)
  have hzs := heg.size
  have hwsz : (wr.alloc (.cells #[.pointer (some ⟨w.heap.size, 5, none⟩), .int .i64 0, .int .i64 24000] 79)).heap.size = wr.heap.size + 1 := World.size_alloc _ _
  generalize hws : wr.alloc (.cells #[.pointer (some ⟨w.heap.size, 5, none⟩), .int .i64 0, .int .i64 24000] 79) = ws at *
  clear hws heg hf
  refine wp_region_ext 9 3 [(8, fun v => v = .bool pl, fun _ _ => True)] mixed (by kernel_rfl) ⟨fun _ _ _ _ _ => trivial, trivial⟩ ?_
  repeat ((refine seq_exact ?_ (by rfl) (by rfl) (fun w1 hU => ?_) ?_); (rotate_left 1); (focus (have h4 := (HG.out.ext hU.un).cell; have h5 := (HP.out.ext hU.un).cell; have h6 := (HP.out.ext hU.un).lt; clear hU; go_simp <;> with_reducible rfl)); (simp only [Act.put, List.setIfInBounds_toArray, List.set_cons_zero, List.set_cons_succ]))
  refine seq_opaque _ _ (by rfl) rfl ⟨_, rfl⟩ (by simp) (fun w5 hU _ K hK => ?_) ?_
  · go_simp
    refine (within_any _ _ _ _).mono ?_
    rw [Hpl.out]
    rintro e_1 w6 ⟨rfl, rfl⟩
    exact hK _ _ (Ext.refl _) rfl trivial
  rintro _ rfl
  simp only [Act.put, List.setIfInBounds_toArray, List.set_cons_zero, List.set_cons_succ]
  intro wt hwt _
  simp only [List.drop_succ_cons, List.drop_zero]
  have heg := hwt.un
  have HP := hide (HP.out.ext heg)
  have HR := hide (HR.out.ext heg)
  have HF1 := hide (HF1.out.ext heg)
  have HF2 := hide (HF2.out.ext heg)
  have HG := hide (HG.out.ext heg)
  have HX := hide (HX.out.trans heg)
  have hzt := heg.size
  clear hwt heg
  cases pl
  · go_wp2_with fail
    go_ret
    exact ⟨ret_bool (by simp [He01.out, Hpl.out]), HX.out⟩
  go_wp2_with fail
  refine wp_region_ext 10 3 [] mixed (by kernel_rfl) trivial ?_
  repeat ((refine seq_exact ?_ (by rfl) (by rfl) (fun w1 hU => ?_) ?_); (rotate_left 1); (focus (have h4 := (HG.out.ext hU.un).cell; have h5 := (HP.out.ext hU.un).cell; have h6 := (HP.out.ext hU.un).lt; have h7 := (HF1.out.ext hU.un).cell; have h8 := (HR.out.ext hU.un).lt; unfold fldB at h7; clear hU; go_simp <;> with_reducible rfl)); (simp only [Act.put, List.setIfInBounds_toArray, List.set_cons_zero, List.set_cons_succ]))
  intro wu hwu _
  simp only [List.drop_succ_cons, List.drop_zero]
  have heg := hwu.un
  have hbR := HR.out.ext heg
  have hcR := hbR.cell
  have hfR := hbR.frozen
  have hcR2 := hcR 5
  have hfR2 := hfR 5
  have HR := hide (show Blk (wu.setCell ⟨w.heap.size + 1, 5, none⟩ (.int .i64 p)) (w.heap.size + 1) 28 #[.int .i64 c, .int .i64 n, .int .i64 e, .int .i64 k, .int .i64 0, .int .i64 p, .int .i64 0] from by have := hbR.set 5 (.int .i64 p); simpa using this)
  have HP := hide ((HP.out.ext heg).far (p := ⟨w.heap.size + 1, 5, none⟩) (by simp) (.int .i64 p))
  have HF1 := hide ((HF1.out.ext heg).far (p := ⟨w.heap.size + 1, 5, none⟩) (by simp; omega) (.int .i64 p))
  have HF2 := hide ((HF2.out.ext heg).far (p := ⟨w.heap.size + 1, 5, none⟩) (by simp; omega) (.int .i64 p))
  have HX := hide ((HX.out.trans heg).set (p := ⟨w.heap.size + 1, 5, none⟩) (by simp) (.int .i64 p))
  clear hwu heg HG hbR
  go_wp2_with fail
  generalize hwr : wu.setCell ⟨w.heap.size + 1, 5, none⟩ (.int .i64 p) = wr at *
  clear hwr hcR hfR hcR2 hfR2
  have hf := HF2.out.cell
  unfold fldB at hf
  have hz1 := HF1.out.lt
  have hz2' := HF2.out.lt
  -- round 2
  rw [rounds_succ]
  go_wp2_with fail
  have HG := hide (Blk.new wr 79 #[.pointer (some ⟨w.heap.size, 6, none⟩), .int .i64 1, .int .i64 255])
  have heg := Ext.alloc wr (.cells #[.pointer (some ⟨w.heap.size, 6, none⟩), .int .i64 1, .int .i64 255] 79)
  have HP := hide (HP.out.ext heg)
  have HR := hide (HR.out.ext heg)
  have HF1 := hide (HF1.out.ext heg)
  have HF2 := hide (HF2.out.ext heg)
  have HX := hide (HX.out.trans heg)
  have hzs := heg.size
  have hwsz : (wr.alloc (.cells #[.pointer (some ⟨w.heap.size, 6, none⟩), .int .i64 1, .int .i64 255] 79)).heap.size = wr.heap.size + 1 := World.size_alloc _ _
  generalize hws : wr.alloc (.cells #[.pointer (some ⟨w.heap.size, 6, none⟩), .int .i64 1, .int .i64 255] 79) = ws at *
  clear hws heg hf
  refine wp_region_ext 9 3 [(8, fun v => v = .bool mm, fun _ _ => True)] mixed (by kernel_rfl) ⟨fun _ _ _ _ _ => trivial, trivial⟩ ?_
  repeat ((refine seq_exact ?_ (by rfl) (by rfl) (fun w1 hU => ?_) ?_); (rotate_left 1); (focus (have h4 := (HG.out.ext hU.un).cell; have h5 := (HP.out.ext hU.un).cell; have h6 := (HP.out.ext hU.un).lt; clear hU; go_simp <;> with_reducible rfl)); (simp only [Act.put, List.setIfInBounds_toArray, List.set_cons_zero, List.set_cons_succ]))
  refine seq_opaque _ _ (by rfl) rfl ⟨_, rfl⟩ (by simp) (fun w5 hU _ K hK => ?_) ?_
  · go_simp
    refine (within_any _ _ _ _).mono ?_
    rw [Hmm.out]
    rintro e_1 w6 ⟨rfl, rfl⟩
    exact hK _ _ (Ext.refl _) rfl trivial
  rintro _ rfl
  simp only [Act.put, List.setIfInBounds_toArray, List.set_cons_zero, List.set_cons_succ]
  intro wt hwt _
  simp only [List.drop_succ_cons, List.drop_zero]
  have heg := hwt.un
  have HP := hide (HP.out.ext heg)
  have HR := hide (HR.out.ext heg)
  have HF1 := hide (HF1.out.ext heg)
  have HF2 := hide (HF2.out.ext heg)
  have HG := hide (HG.out.ext heg)
  have HX := hide (HX.out.trans heg)
  have hzt := heg.size
  clear hwt heg
  cases mm
  · go_wp2_with fail
    go_ret
    exact ⟨ret_bool (by simp [He01.out, Hpl.out, Hmm.out]), HX.out⟩
  go_wp2_with fail
  refine wp_region_ext 10 3 [] mixed (by kernel_rfl) trivial ?_
  repeat ((refine seq_exact ?_ (by rfl) (by rfl) (fun w1 hU => ?_) ?_); (rotate_left 1); (focus (have h4 := (HG.out.ext hU.un).cell; have h5 := (HP.out.ext hU.un).cell; have h6 := (HP.out.ext hU.un).lt; have h7 := (HF1.out.ext hU.un).cell; have h8 := (HR.out.ext hU.un).lt; unfold fldB at h7; clear hU; go_simp <;> with_reducible rfl)); (simp only [Act.put, List.setIfInBounds_toArray, List.set_cons_zero, List.set_cons_succ]))
  intro wu hwu _
  simp only [List.drop_succ_cons, List.drop_zero]
  have heg := hwu.un
  have hbR := HR.out.ext heg
  have hcR := hbR.cell
  have hfR := hbR.frozen
  have hcR2 := hcR 6
  have hfR2 := hfR 6
  have HR := hide (show Blk (wu.setCell ⟨w.heap.size + 1, 6, none⟩ (.int .i64 m)) (w.heap.size + 1) 28 #[.int .i64 c, .int .i64 n, .int .i64 e, .int .i64 k, .int .i64 0, .int .i64 p, .int .i64 m] from by have := hbR.set 6 (.int .i64 m); simpa using this)
  have HP := hide ((HP.out.ext heg).far (p := ⟨w.heap.size + 1, 6, none⟩) (by simp) (.int .i64 m))
  have HF1 := hide ((HF1.out.ext heg).far (p := ⟨w.heap.size + 1, 6, none⟩) (by simp; omega) (.int .i64 m))
  have HF2 := hide ((HF2.out.ext heg).far (p := ⟨w.heap.size + 1, 6, none⟩) (by simp; omega) (.int .i64 m))
  have HX := hide ((HX.out.trans heg).set (p := ⟨w.heap.size + 1, 6, none⟩) (by simp) (.int .i64 m))
  clear hwu heg HG hbR
  go_wp2_with fail
  generalize hwr : wu.setCell ⟨w.heap.size + 1, 6, none⟩ (.int .i64 m) = wr at *
  clear hwr hcR hfR hcR2 hfR2
  have hf := HF2.out.cell
  unfold fldB at hf
  have hz1 := HF1.out.lt
  have hz2' := HF2.out.lt
  rw [rounds_succ]
  have hcP := HP.out.cell
  have hcR := HR.out.cell
  clear hf
  go_wp2_with fail
  all_goals (go_ret; exact ⟨ret_bool (by rw [He01.out, Hpl.out, Hmm.out, Bool.eq_iff_iff]; simp <;> omega), HX.out⟩)
set_option maxRecDepth 100000 in
set_option maxHeartbeats 4000000 in
theorem fvalid_c (c n e k s p m : Int) (w : World) (hk : k = 8) (h1 : inB c 1 10 = true) (h2 : inB n 1 1000000 = true) (h3 : inB k 1 9 = true) : Calls Tryd.prog 13 #[.agg #[.int .i64 c, .int .i64 n, .int .i64 e, .int .i64 k, .int .i64 s, .int .i64 p, .int .i64 m]] w fun e_1 w' => e_1 = .returned (.bool ((e == 0) && (inB s 0 4000 && ((p == 0) && (m == 0))))) ∧ Ext w w' := by
  have hk0 : k ≠ 0 := by omega
  have HK := hide hk
  clear hk
  have hP := Blk.new w 28 #[.int .i64 c, .int .i64 n, .int .i64 e, .int .i64 k, .int .i64 s, .int .i64 p, .int .i64 m]
  have hc := hP.cell
  have H1 := hide h1
  have H2 := hide h2
  have H3 := hide h3
  clear h1 h2 h3
  obtain ⟨s4, hs4⟩ : ∃ t, inB s 0 4000 = t := ⟨_, rfl⟩
  have Hs4 := hide hs4
  clear hs4
  go_enter Tryd.func13, Tryd.ntmps13
  go_wp2_with (go_at_call 45; refine (within_any _ _ _ _).mono ?_; (first | rw [H1.out] | rw [H2.out] | rw [H3.out]); rintro e w' ⟨rfl, rfl⟩)
  have hR := Blk.new (w.alloc (.cells #[.int .i64 c, .int .i64 n, .int .i64 e, .int .i64 k, .int .i64 s, .int .i64 p, .int .i64 m] 28)) 28 #[.int .i64 c, .int .i64 n, .int .i64 0, .int .i64 k, .int .i64 0, .int .i64 0, .int .i64 0]
  have hP2 := hP.alloc (.cells #[.int .i64 c, .int .i64 n, .int .i64 0, .int .i64 k, .int .i64 0, .int .i64 0, .int .i64 0] 28)
  have hx := (Ext.alloc w (.cells #[.int .i64 c, .int .i64 n, .int .i64 e, .int .i64 k, .int .i64 s, .int .i64 p, .int .i64 m] 28)).alloc' (.cells #[.int .i64 c, .int .i64 n, .int .i64 0, .int .i64 k, .int .i64 0, .int .i64 0, .int .i64 0] 28)
  simp only [World.size_alloc] at hR
  generalize hwa : (w.alloc (.cells #[.int .i64 c, .int .i64 n, .int .i64 e, .int .i64 k, .int .i64 s, .int .i64 p, .int .i64 m] 28)).alloc (.cells #[.int .i64 c, .int .i64 n, .int .i64 0, .int .i64 k, .int .i64 0, .int .i64 0, .int .i64 0] 28) = wa at *
  clear hwa hc hP
  refine (used_c _ _ _ _ _ _ _ _ _ hR HK.out).mono ?_
  rintro e_1 w2 ⟨h1, rfl, hh1, hf1, he2⟩
  have HR := hide (hR.ext he2)
  have HP := hide (hP2.ext he2)
  have HX := hide (hx.trans he2)
  have HF1 := hide hf1
  have hzP := (hP2.ext he2).lt
  have hzR := (hR.ext he2).lt
  have hz2 := he2.size
  have hzR0 := hR.lt
  clear hR hP2 hx he2 hf1
  go_wp2_with fail
  refine (used_c _ _ _ _ _ _ _ _ _ HP.out HK.out).mono ?_
  rintro e_1 wr ⟨h2, rfl, hh2, hf2, he2⟩
  have HR := hide (HR.out.ext he2)
  have HP := hide (HP.out.ext he2)
  have HX := hide (HX.out.trans he2)
  have HF1 := hide (HF1.out.ext he2)
  have hz1 := HF1.out.lt
  have HF2 := hide hf2
  have hz2' := hf2.lt
  have hf := hf2.cell
  unfold fldC at hf
  have hzr := he2.size
  clear he2 hf2
  go_wp2_with fail
  refine wp_loop_rounds 2 ?_
  -- round 0
  rw [rounds_succ]
  go_wp2_with fail
  have HG := hide (Blk.new wr 79 #[.pointer (some ⟨w.heap.size, 4, none⟩), .int .i64 0, .int .i64 4000])
  have heg := Ext.alloc wr (.cells #[.pointer (some ⟨w.heap.size, 4, none⟩), .int .i64 0, .int .i64 4000] 79)
  have HP := hide (HP.out.ext heg)
  have HR := hide (HR.out.ext heg)
  have HF1 := hide (HF1.out.ext heg)
  have HF2 := hide (HF2.out.ext heg)
  have HX := hide (HX.out.trans heg)
  have hzs := heg.size
  have hwsz : (wr.alloc (.cells #[.pointer (some ⟨w.heap.size, 4, none⟩), .int .i64 0, .int .i64 4000] 79)).heap.size = wr.heap.size + 1 := World.size_alloc _ _
  generalize hws : wr.alloc (.cells #[.pointer (some ⟨w.heap.size, 4, none⟩), .int .i64 0, .int .i64 4000] 79) = ws at *
  clear hws heg hf
  refine wp_region_ext 9 3 [(8, fun v => v = .bool s4, fun _ _ => True)] mixed (by kernel_rfl) ⟨fun _ _ _ _ _ => trivial, trivial⟩ ?_
  repeat ((refine seq_exact ?_ (by rfl) (by rfl) (fun w1 hU => ?_) ?_); (rotate_left 1); (focus (have h4 := (HG.out.ext hU.un).cell; have h5 := (HP.out.ext hU.un).cell; have h6 := (HP.out.ext hU.un).lt; clear hU; go_simp <;> with_reducible rfl)); (simp only [Act.put, List.setIfInBounds_toArray, List.set_cons_zero, List.set_cons_succ]))
  refine seq_opaque _ _ (by rfl) rfl ⟨_, rfl⟩ (by simp) (fun w5 hU _ K hK => ?_) ?_
  · go_simp
    refine (within_any _ _ _ _).mono ?_
    rw [Hs4.out]
    rintro e_1 w6 ⟨rfl, rfl⟩
    exact hK _ _ (Ext.refl _) rfl trivial
  rintro _ rfl
  simp only [Act.put, List.setIfInBounds_toArray, List.set_cons_zero, List.set_cons_succ]
  intro wt hwt _
  simp only [List.drop_succ_cons, List.drop_zero]
  have heg := hwt.un
  have HP := hide (HP.out.ext heg)
  have HR := hide (HR.out.ext heg)
  have HF1 := hide (HF1.out.ext heg)
  have HF2 := hide (HF2.out.ext heg)
  have HG := hide (HG.out.ext heg)
  have HX := hide (HX.out.trans heg)
  have hzt := heg.size
  clear hwt heg
  cases s4
  · go_wp2_with fail
    go_ret
    exact ⟨ret_bool (by simp [Hs4.out]), HX.out⟩
  go_wp2_with fail
  refine wp_region_ext 10 3 [] mixed (by kernel_rfl) trivial ?_
  repeat ((refine seq_exact ?_ (by rfl) (by rfl) (fun w1 hU => ?_) ?_); (rotate_left 1); (focus (have h4 := (HG.out.ext hU.un).cell; have h5 := (HP.out.ext hU.un).cell; have h6 := (HP.out.ext hU.un).lt; have h7 := (HF1.out.ext hU.un).cell; have h8 := (HR.out.ext hU.un).lt; unfold fldC at h7; clear hU; go_simp <;> with_reducible rfl)); (simp only [Act.put, List.setIfInBounds_toArray, List.set_cons_zero, List.set_cons_succ]))
  intro wu hwu _
  simp only [List.drop_succ_cons, List.drop_zero]
  have heg := hwu.un
  have hbR := HR.out.ext heg
  have hcR := hbR.cell
  have hfR := hbR.frozen
  have hcR2 := hcR 4
  have hfR2 := hfR 4
  have HR := hide (show Blk (wu.setCell ⟨w.heap.size + 1, 4, none⟩ (.int .i64 s)) (w.heap.size + 1) 28 #[.int .i64 c, .int .i64 n, .int .i64 0, .int .i64 k, .int .i64 s, .int .i64 0, .int .i64 0] from by have := hbR.set 4 (.int .i64 s); simpa using this)
  have HP := hide ((HP.out.ext heg).far (p := ⟨w.heap.size + 1, 4, none⟩) (by simp) (.int .i64 s))
  have HF1 := hide ((HF1.out.ext heg).far (p := ⟨w.heap.size + 1, 4, none⟩) (by simp; omega) (.int .i64 s))
  have HF2 := hide ((HF2.out.ext heg).far (p := ⟨w.heap.size + 1, 4, none⟩) (by simp; omega) (.int .i64 s))
  have HX := hide ((HX.out.trans heg).set (p := ⟨w.heap.size + 1, 4, none⟩) (by simp) (.int .i64 s))
  clear hwu heg HG hbR
  go_wp2_with fail
  generalize hwr : wu.setCell ⟨w.heap.size + 1, 4, none⟩ (.int .i64 s) = wr at *
  clear hwr hcR hfR hcR2 hfR2
  have hf := HF2.out.cell
  unfold fldC at hf
  have hz1 := HF1.out.lt
  have hz2' := HF2.out.lt
  rw [rounds_succ]
  have hcP := HP.out.cell
  have hcR := HR.out.cell
  clear hf
  go_wp2_with fail
  all_goals (go_ret; exact ⟨ret_bool (by rw [Hs4.out, Bool.eq_iff_iff]; simp <;> omega), HX.out⟩)
set_option maxRecDepth 100000 in
set_option maxHeartbeats 4000000 in
theorem fvalid_d (c n e k s p m : Int) (w : World) (hk : k = 9) (h1 : inB c 1 10 = true) (h2 : inB n 1 1000000 = true) (h3 : inB k 1 9 = true) : Calls Tryd.prog 13 #[.agg #[.int .i64 c, .int .i64 n, .int .i64 e, .int .i64 k, .int .i64 s, .int .i64 p, .int .i64 m]] w fun e_1 w' => e_1 = .returned (.bool ((e == 0) && ((s == 0) && ((p == 0) && (m == 0))))) ∧ Ext w w' := by
  have hk0 : k ≠ 0 := by omega
  have HK := hide hk
  clear hk
  have hP := Blk.new w 28 #[.int .i64 c, .int .i64 n, .int .i64 e, .int .i64 k, .int .i64 s, .int .i64 p, .int .i64 m]
  have hc := hP.cell
  have H1 := hide h1
  have H2 := hide h2
  have H3 := hide h3
  clear h1 h2 h3
  go_enter Tryd.func13, Tryd.ntmps13
  go_wp2_with (go_at_call 45; refine (within_any _ _ _ _).mono ?_; (first | rw [H1.out] | rw [H2.out] | rw [H3.out]); rintro e w' ⟨rfl, rfl⟩)
  have hR := Blk.new (w.alloc (.cells #[.int .i64 c, .int .i64 n, .int .i64 e, .int .i64 k, .int .i64 s, .int .i64 p, .int .i64 m] 28)) 28 #[.int .i64 c, .int .i64 n, .int .i64 0, .int .i64 k, .int .i64 0, .int .i64 0, .int .i64 0]
  have hP2 := hP.alloc (.cells #[.int .i64 c, .int .i64 n, .int .i64 0, .int .i64 k, .int .i64 0, .int .i64 0, .int .i64 0] 28)
  have hx := (Ext.alloc w (.cells #[.int .i64 c, .int .i64 n, .int .i64 e, .int .i64 k, .int .i64 s, .int .i64 p, .int .i64 m] 28)).alloc' (.cells #[.int .i64 c, .int .i64 n, .int .i64 0, .int .i64 k, .int .i64 0, .int .i64 0, .int .i64 0] 28)
  simp only [World.size_alloc] at hR
  generalize hwa : (w.alloc (.cells #[.int .i64 c, .int .i64 n, .int .i64 e, .int .i64 k, .int .i64 s, .int .i64 p, .int .i64 m] 28)).alloc (.cells #[.int .i64 c, .int .i64 n, .int .i64 0, .int .i64 k, .int .i64 0, .int .i64 0, .int .i64 0] 28) = wa at *
  clear hwa hc hP
  refine (used_d _ _ _ _ _ _ _ _ _ hR HK.out).mono ?_
  rintro e_1 w2 ⟨rfl, he2⟩
  have HR := hide (hR.ext he2)
  have HP := hide (hP2.ext he2)
  have HX := hide (hx.trans he2)
  clear hR hP2 hx he2
  go_wp2_with fail
  refine (used_d _ _ _ _ _ _ _ _ _ HP.out HK.out).mono ?_
  rintro e_1 w3 ⟨rfl, he2⟩
  have hcR := (HR.out.ext he2).cell
  have hcP := (HP.out.ext he2).cell
  have HX := hide (HX.out.trans he2)
  clear he2
  go_wp2_with fail
  refine wp_loop_rounds 1 ?_
  rw [rounds_succ]
  go_wp2_with fail
  all_goals (go_ret; exact ⟨ret_bool (by rw [Bool.eq_iff_iff]; simp <;> omega), HX.out⟩)
theorem fvalid_any (x : Pl) (w : World) : Calls Tryd.prog 13 #[.agg #[.int .i64 x.c, .int .i64 x.n, .int .i64 x.e, .int .i64 x.k, .int .i64 x.s, .int .i64 x.p, .int .i64 x.m]] w fun e w' => e = .returned (.bool (validPl x)) ∧ Ext w w' := by
  obtain ⟨c, n, e, k, s, p, m⟩ := x
  simp only
  by_cases hk : k = 0
  · subst hk; exact fvalid_0 c n e s p m w
  cases h1 : inB c 1 10 with
  | false =>
    refine (fvalid_x c n e k s p m w hk (.inl h1)).mono ?_
    rintro e_1 w' ⟨rfl, h⟩
    exact ⟨ret_bool (by unfold validPl; simp only; rw [if_neg hk, if_pos h1]), h⟩
  | true =>
  cases h2 : inB n 1 1000000 with
  | false =>
    refine (fvalid_x c n e k s p m w hk (.inr (.inl h2))).mono ?_
    rintro e_1 w' ⟨rfl, h⟩
    exact ⟨ret_bool (by unfold validPl; simp only; rw [if_neg hk, if_neg (by simp [h1]), if_pos h2]), h⟩
  | true =>
  have hV : validPl ⟨c, n, e, k, s, p, m⟩ = if inB k 1 3 then inB e 0 1 && (inB s 0 4000 && ((p == 0) && (m == 0)))
      else if inB k 4 7 then inB e 0 1 && ((s == 0) && (inB p 0 24000 && inB m 1 255))
      else if k == 8 then (e == 0) && (inB s 0 4000 && ((p == 0) && (m == 0)))
      else (k == 9) && ((e == 0) && ((s == 0) && ((p == 0) && (m == 0)))) := by
    unfold validPl; simp only; rw [if_neg hk, if_neg (by simp [h1]), if_neg (by simp [h2])]
  rw [hV]
  by_cases ka : 1 ≤ k ∧ k ≤ 3
  · rw [if_pos (by unfold inB; simp; exact ka)]
    exact fvalid_a c n e k s p m w ka h1 h2 (by unfold inB; simp; omega)
  rw [if_neg (by unfold inB; simp; omega)]
  by_cases kb : 4 ≤ k ∧ k ≤ 7
  · rw [if_pos (by unfold inB; simp; exact kb)]
    exact fvalid_b c n e k s p m w kb h1 h2 (by unfold inB; simp; omega)
  rw [if_neg (by unfold inB; simp; omega)]
  by_cases kc : k = 8
  · rw [if_pos (by simp [kc])]
    exact fvalid_c c n e k s p m w kc h1 h2 (by unfold inB; simp; omega)
  rw [if_neg (by simp [kc])]
  by_cases kd : k = 9
  · rw [show (k == 9) = true from by simp [kd], Bool.true_and]
    exact fvalid_d c n e k s p m w kd h1 h2 (by unfold inB; simp; omega)
  · rw [show (k == 9) = false from by simp [kd], Bool.false_and]
    exact fvalid_x c n e k s p m w hk (.inr (.inr (by unfold inB; simp; omega)))
end Go.Proofs.YtfjddphjjhhjpaaDoor
