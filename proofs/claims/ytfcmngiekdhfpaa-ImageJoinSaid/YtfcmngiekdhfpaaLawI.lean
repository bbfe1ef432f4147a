/-
  The walk of ImageJoin.
-/
import Derived.Test.YtfcmngiekdhfpaaJoinB
import Derived.Test.YtfcmngiekdhfpaaLawC
namespace Go.Proofs.Ytfcmngiekdhfpaa
open Go.RowKit
set_option linter.unusedVariables false

theorem jok_parts {plen qlen n : Int} {ps qs : List Chg} (h : jE plen qlen n ps qs = 0) : jok plen qlen n ps qs = true := by
  unfold jE at h
  split at h
  · assumption
  · cases h
theorem jE_ways (plen qlen n : Int) (ps qs : List Chg) : jE plen qlen n ps qs = 0 ∨ jE plen qlen n ps qs = 1 := by
  unfold jE
  split
  · exact .inl rfl
  · exact .inr rfl
set_option maxRecDepth 100000 in
set_option maxHeartbeats 4000000 in
theorem join_law (A P Q : Option Addr) (ca cp cq : Nat) (a : List UInt8) (plen qlen n : Int) (ps qs : List Chg) (w : World) (ha : Sl w A ca a) (hp : Chs w P cp ps) (hq : Chs w Q cq qs) (hn : n ≤ 9223372036854775807) :
    Calls Try.prog 12 #[.slice A a.length ca, .agg #[.int .i64 plen, .slice P ps.length cp, .int .i64 qlen, .slice Q qs.length cq], .int .i64 n] w fun e w' => e = .returned (.bool true) ∧ Ext w w' := by
  have HA := hide ha
  have HP := hide hp
  have HQ := hide hq
  have hma := ha.max
  have hla := ha.le
  unfold maxLen at hma
  have HB0 := hide (Blk.new w 74 #[.int .i64 plen, .slice P ps.length cp, .int .i64 qlen, .slice Q qs.length cq])
  clear ha hp hq
  go_enter Try.func12, Try.ntmps12
  go_wp2_with (go_at_call 14; refine (awake_any _).mono ?_; rintro e w1 ⟨rfl, hE1⟩; have HB1 := hide (HB0.out.ext hE1); have HE1 := hide ((Ext.alloc w _).trans hE1); clear hE1)
  clear HB0
  have hz1 := HB1.out.lt
  refine wp_region_take 6 3 [(4, ShP, PNew w1 35 #[.int .i64 0, .slice none 0 0]), (5, ShP, PNew w1 35 #[.int .i64 0, .slice none 0 0])] [4, 5] [2, 3] mixed (by kernel_rfl) (by kernel_rfl) (by kernel_rfl) (by rfl)
    ⟨fun _ _ _ h hx => h.ext hx, fun _ _ _ h hx => h.ext hx, trivial⟩ (fun i hi => ?_) ?_
  · have : i = 4 ∨ i = 5 := by simpa using hi
    rcases this with rfl | rfl
    · exact ⟨_, _, rfl, PNew.old⟩
    · exact ⟨_, _, rfl, PNew.old⟩
  repeat ((refine seq_exact ?_ (by rfl) (by rfl) (fun w1 hU => ?_) ?_); (rotate_left 1); (focus (have h4 := (HB1.out.ext hU.un).cell; clear hU; go_simp <;> with_reducible rfl)); (simp only [Act.put, List.setIfInBounds_toArray, List.set_cons_zero, List.set_cons_succ]))
  refine seq_new _ _ (by rfl) rfl ⟨_, 0, rfl⟩ (by simp) (fun w5 hU hp K hK => ?_) ?_
  · have hz := Ext.size hU.un
    go_simp
    exact hK _ _ (Ext.alloc w5 _) ⟨_, rfl⟩ ⟨_, rfl, hz, Blk.new w5 _ _⟩ (newP rfl)
  rintro _ ⟨g1, rfl⟩
  simp only [Act.put, List.setIfInBounds_toArray, List.set_cons_zero, List.set_cons_succ]
  refine seq_new _ _ (by rfl) rfl ⟨_, 0, rfl⟩ (by simp) (fun w5 hU hp K hK => ?_) ?_
  · have hz := Ext.size hU.un
    go_simp
    exact hK _ _ (Ext.alloc w5 _) ⟨_, rfl⟩ ⟨_, rfl, hz, Blk.new w5 _ _⟩ (newP rfl)
  rintro _ ⟨g2, rfl⟩
  simp only [Act.put, List.setIfInBounds_toArray, List.set_cons_zero, List.set_cons_succ]
  intro w2 hw2 hp hpair
  have hne : g1 ≠ g2 := ptr_ne' (hpair 4 5 _ _ _ _ trivial trivial (by omega) (by omega) rfl rfl rfl rfl rfl rfl (by omega) (by rfl) (by rfl))
  obtain ⟨z2, b2⟩ := PNew.at_ (hp _ (.head _))
  obtain ⟨z1, b1⟩ := PNew.at_ (hp _ (.tail _ (.head _)))
  clear hp hpair
  simp only [List.drop_succ_cons, List.drop_zero]
  have hne2 : g2 ≠ g1 := fun e => hne e.symm
  have c1 := b1.put2 (.int .i64 plen) (.slice P ps.length cp)
  have c2 := b2.put2_far hne2 (.int .i64 plen) (.slice P ps.length cp)
  have d1 := c1.put2_far hne (.int .i64 qlen) (.slice Q qs.length cq)
  have d2 := c2.put2 (.int .i64 qlen) (.slice Q qs.length cq)
  have HT1 := hide (Ext.put2 hw2 (g := g1) z1 (.int .i64 plen) (.slice P ps.length cp))
  have HT2 := hide ((Ext.put2 hw2 (g := g1) z1 (.int .i64 plen) (.slice P ps.length cp)).put2 (g := g2) z2 (.int .i64 qlen) (.slice Q qs.length cq))
  have hcc1 := b1.cell
  have hff1 := b1.frozen
  have hcc2 := c2.cell
  have hff2 := c2.frozen
  have HD1 := hide d1
  have HD2 := hide d2
  clear b1 b2 c1 c2 d1 d2 hw2
  refine tailS_step (by rfl) (by simp) (fun K hK => ?_)
  go_simp
  refine hK _ _ ?_ ?_
  · exact HT1.out
  clear hK
  refine tailS_step (by rfl) (by simp) (fun K hK => ?_)
  go_simp
  refine hK _ _ ?_ ?_
  · exact HT2.out
  clear hK
  refine tailS_nil ?_
  generalize hwe : ((((w2.setCell ⟨g1, 0, none⟩ (.int .i64 plen)).setCell ⟨g1, 1, none⟩ (.slice P ps.length cp)).setCell ⟨g2, 0, none⟩ (.int .i64 qlen)).setCell ⟨g2, 1, none⟩ (.slice Q qs.length cq)) = we at *
  have HE2 := hide (HE1.out.trans HT2.out.un)
  clear hwe hcc1 hff1 hcc2 hff2 HT1 HT2 HB1 HE1
  have hc1 := HD1.out.cell
  have hc2 := HD2.out.cell
  by_cases hl : 2000 < a.length
  · have hl' : (2000 : Int) < a.length := by omega
    go_wp2_with fail
    go_ret
    exact ⟨rfl, HE2.out⟩
  have hl' : ¬ (2000 : Int) < a.length := by omega
  cases hfp : fewP plen ps with
  | false =>
    have HF := hide hfp
    clear hfp
    go_wp2_with (go_at_call 37; refine (few_any _ _ _ _ _ (HP.out.ext HE2.out)).mono ?_; rw [HF.out]; rintro e w3 ⟨rfl, hE3⟩; have HE3 := hide (HE2.out.trans hE3); clear hE3)
    go_ret
    exact ⟨rfl, HE3.out⟩
  | true =>
  obtain ⟨hdp, hpl, hlp⟩ := fewP_parts hfp
  have HFP := hide hfp
  clear hfp
  have HDP := hide (show ∀ c ∈ ps, c.2.length ≤ 65536 from fun c hc => Nat.le_trans (hdp c hc) (by omega))
  clear hdp
  go_wp2_with fail
  refine (few_any _ _ _ _ _ (HP.out.ext HE2.out)).mono ?_
  rw [HFP.out]
  rintro e w3 ⟨rfl, hE3⟩
  have HD1 := hide (HD1.out.ext hE3)
  have HD2 := hide (HD2.out.ext hE3)
  have HE3 := hide (HE2.out.trans hE3)
  clear hc1 hc2 hE3 HE2
  have hc1 := HD1.out.cell
  have hc2 := HD2.out.cell
  cases hfq : fewP qlen qs with
  | false =>
    have HF := hide hfq
    clear hfq
    go_wp2_with (go_at_call 37; refine (few_any _ _ _ _ _ (HQ.out.ext HE3.out)).mono ?_; rw [HF.out]; rintro e w4 ⟨rfl, hE4⟩; have HE4 := hide (HE3.out.trans hE4); clear hE4)
    go_ret
    exact ⟨rfl, HE4.out⟩
  | true =>
  obtain ⟨hdq, hql, hlq⟩ := fewP_parts hfq
  have HFQ := hide hfq
  clear hfq
  have HDQ := hide (show ∀ c ∈ qs, c.2.length ≤ 65536 from fun c hc => Nat.le_trans (hdq c hc) (by omega))
  clear hdq
  go_wp2_with fail
  refine (few_any _ _ _ _ _ (HQ.out.ext HE3.out)).mono ?_
  rw [HFQ.out]
  rintro e w4 ⟨rfl, hE4⟩
  have HD1 := hide (HD1.out.ext hE4)
  have HD2 := hide (HD2.out.ext hE4)
  have HE4 := hide (HE3.out.trans hE4)
  clear hc1 hc2 hE4 HE3
  have hc1 := HD1.out.cell
  have hc2 := HD2.out.cell
  have hz1 := HD1.out.lt
  have hz2 := HD2.out.lt
  go_wp2_with fail
  obtain ⟨jn, hjn⟩ : ∃ jn, jN plen qlen n ps qs = jn := ⟨_, rfl⟩
  obtain ⟨je, hje⟩ : ∃ je, jE plen qlen n ps qs = je := ⟨_, rfl⟩
  obtain ⟨jl, hjl⟩ : ∃ jl, jL plen qlen n ps qs = jl := ⟨_, rfl⟩
  have HJ := hide (fun (P' Q' : Option Addr) (c d : Nat) (w : World) (h1 : Chs w P' c ps) (h2 : Chs w Q' d qs) => join_any plen qlen n P' Q' c d ps qs w h1 h2 (by omega) (by omega) HDP.out HDQ.out hn (by omega))
  have HR := hide (fun (P' Q' : Option Addr) (c d : Nat) (w : World) (h1 : Chs w P' c ps) (h2 : Chs w Q' d qs) => rjoin_any plen qlen n P' Q' c d ps qs w h1 h2 (by omega) (by omega) HDP.out HDQ.out hn (by omega))
  have hjll := jL_length plen qlen n ps qs
  have HJD := hide (jL_data plen qlen n ps qs HDP.out HDQ.out)
  simp only [hjn, hje, hjl] at HJ HR HJD hjll
  clear hjn hje hjl
  refine wp_region_take 10 4 [(1, ShPt plen ps.length, FPt plen ps), (3, ShPt qlen qs.length, FPt qlen qs), (5, ShTu jn jl.length je, FTu 43 jn jl je), (9, ShP, PNew w4 29 #[.int .i64 0, .slice none 0 0])] [9] [8] mixed (by kernel_rfl) (by kernel_rfl) (by kernel_rfl) (by rfl)
    ⟨fun _ _ _ h hx => h.ext hx, fun _ _ _ h hx => h.ext hx, fun _ _ _ h hx => h.ext hx, fun _ _ _ h hx => h.ext hx, trivial⟩ (fun i hi => ?_) ?_
  · obtain rfl : i = 9 := by simpa using hi
    exact ⟨_, _, rfl, PNew.old⟩
  repeat ((refine seq_exact ?_ (by rfl) (by rfl) (fun w1 hU => ?_) ?_); (rotate_left 1); (focus (have h4 := (HD1.out.ext hU.un).cell; clear hU; go_simp <;> with_reducible rfl)); (simp only [Act.put, List.setIfInBounds_toArray, List.set_cons_zero, List.set_cons_succ]))
  refine seq_opaque _ _ (by rfl) rfl ⟨_, none, 0, rfl⟩ (by simp) (fun w5 hU hp K hK => ?_) ?_
  · go_simp
    refine (to_any _ _ _ _ _ (HP.out.ext (HE4.out.trans hU.un)) (by omega) HDP.out).mono ?_
    rintro e w6 ⟨C', c', rfl, h3, h4⟩
    exact hK _ _ h4 ⟨C', c', rfl⟩ ⟨C', c', rfl, h3⟩
  rintro _ ⟨C1, k1, rfl⟩
  simp only [Act.put, List.setIfInBounds_toArray, List.set_cons_zero, List.set_cons_succ]
  repeat ((refine seq_exact ?_ (by rfl) (by rfl) (fun w1 hU => ?_) ?_); (rotate_left 1); (focus (have h4 := (HD2.out.ext hU.un).cell; clear hU; go_simp <;> with_reducible rfl)); (simp only [Act.put, List.setIfInBounds_toArray, List.set_cons_zero, List.set_cons_succ]))
  refine seq_opaque _ _ (by rfl) rfl ⟨_, none, 0, rfl⟩ (by simp) (fun w5 hU hp K hK => ?_) ?_
  · go_simp
    refine (to_any _ _ _ _ _ (HQ.out.ext (HE4.out.trans hU.un)) (by omega) HDQ.out).mono ?_
    rintro e w6 ⟨C', c', rfl, h3, h4⟩
    exact hK _ _ h4 ⟨C', c', rfl⟩ ⟨C', c', rfl, h3⟩
  rintro _ ⟨C2, k2, rfl⟩
  simp only [Act.put, List.setIfInBounds_toArray, List.set_cons_zero, List.set_cons_succ]
  repeat ((refine seq_exact ?_ (by rfl) (by rfl) (fun w1 hU => ?_) ?_); (rotate_left 1); (focus (go_simp <;> with_reducible rfl)); (simp only [Act.put, List.setIfInBounds_toArray, List.set_cons_zero, List.set_cons_succ]))
  refine seq_opaque _ _ (by rfl) rfl ⟨_, none, 0, rfl⟩ (by simp) (fun w5 hU hp K hK => ?_) ?_
  · have s1 := FPt.chs (hp _ (.tail _ (.head _)) (by kernel_rfl))
    have s2 := FPt.chs (hp _ (.head _) (by kernel_rfl))
    clear hp
    go_simp
    refine (HJ.out _ _ _ _ _ s1 s2).mono ?_
    rintro e w6 ⟨C', c', rfl, h3, h4⟩
    exact hK _ _ h4 ⟨C', c', rfl⟩ ⟨C', c', rfl, h3.base_le (Nat.zero_le _)⟩
  rintro _ ⟨C3, k3, rfl⟩
  simp only [Act.put, List.setIfInBounds_toArray, List.set_cons_zero, List.set_cons_succ]
  repeat ((refine seq_exact ?_ (by rfl) (by rfl) (fun w1 hU => ?_) ?_); (rotate_left 1); (focus (go_simp <;> with_reducible rfl)); (simp only [Act.put, List.setIfInBounds_toArray, List.set_cons_zero, List.set_cons_succ]))
  refine seq_new _ _ (by rfl) rfl ⟨_, 0, rfl⟩ (by simp) (fun w5 hU hp K hK => ?_) ?_
  · have hz := Ext.size hU.un
    go_simp
    exact hK _ _ (Ext.alloc w5 _) ⟨_, rfl⟩ ⟨_, rfl, hz, Blk.new w5 _ _⟩ (newP rfl)
  rintro _ ⟨g3, rfl⟩
  simp only [Act.put, List.setIfInBounds_toArray, List.set_cons_zero, List.set_cons_succ]
  intro w5 hw5 hp _
  obtain ⟨z3, b3⟩ := PNew.at_ (hp _ (.head _))
  have f3 := FTu.chs (hp _ (.tail _ (.head _)))
  clear hp
  simp only [List.drop_succ_cons, List.drop_zero]
  have HTX := hide (Ext.put2 hw5 (g := g3) z3 (.int .i64 jn) (.slice C3 jl.length k3))
  have HD3 := hide (b3.put2 (.int .i64 jn) (.slice C3 jl.length k3))
  have HC3 := hide (f3.put2 b3 (by simp [noB]) (by decide) (.int .i64 jn) (.slice C3 jl.length k3) rfl)
  have hcc := b3.cell
  have hff := b3.frozen
  clear b3 f3 hw5
  refine tailS_step (by rfl) (by simp) (fun K hK => ?_)
  go_simp
  refine hK _ _ ?_ ?_
  · exact HTX.out
  clear hK
  refine tailS_step (by rfl) (by simp) (fun K hK => ?_)
  go_simp
  refine hK _ _ ?_ ?_
  · exact HTX.out
  clear hK
  refine tailS_nil ?_
  generalize hwe : ((w5.setCell ⟨g3, 0, none⟩ (.int .i64 jn)).setCell ⟨g3, 1, none⟩ (.slice C3 jl.length k3)) = w6 at *
  have HD1 := hide (HD1.out.ext HTX.out.un)
  have HD2 := hide (HD2.out.ext HTX.out.un)
  have HE6 := hide (HE4.out.trans HTX.out.un)
  clear hwe hcc hff HTX HE4 hc1 hc2
  have hc1 := HD1.out.cell
  have hc2 := HD2.out.cell
  have hc3 := HD3.out.cell
  have hz3 := HD3.out.lt
  go_wp2_with (go_at_call 40; refine (HR.out _ _ _ _ _ (HP.out.ext HE6.out) (HQ.out.ext HE6.out)).mono ?_; rintro e w7 ⟨C4, k4, rfl, hf4, hE7⟩; have HC4 := hide hf4; have HC3 := hide (HC3.out.ext hE7); have HD1 := hide (HD1.out.ext hE7); have HD2 := hide (HD2.out.ext hE7); have HD3 := hide (HD3.out.ext hE7); have HE7 := hide (HE6.out.trans hE7); clear hE7 hf4 hc1 hc2 hc3; have hz7 := HD3.out.lt)
  have HB4 := hide (Blk.new w7 35 #[.int .i64 jn, .slice C4 jl.length k4])
  have HX8 := hide (Ext.alloc w7 (.cells #[.int .i64 jn, .slice C4 jl.length k4] 35))
  have HC3 := hide (HC3.out.chs.2.ext HX8.out)
  have HC4 := hide (HC4.out.chs.2.ext HX8.out)
  have HD1 := hide (HD1.out.ext HX8.out)
  have HD2 := hide (HD2.out.ext HX8.out)
  have HD3 := hide (HD3.out.ext HX8.out)
  have HE8 := hide (HE7.out.trans HX8.out)
  clear HX8 HE7 HE6
  refine wp_region_ext 10 3 [(5, ShPt jn jl.length, FPt jn jl), (7, fun v => v = .bool true, fun _ _ => True)] mixed (by kernel_rfl) ⟨fun _ _ _ h hx => h.ext hx, fun _ _ _ _ _ => trivial, trivial⟩ ?_
  repeat ((refine seq_exact ?_ (by rfl) (by rfl) (fun w1 hU => ?_) ?_); (rotate_left 1); (focus (have h4 := (HD3.out.ext hU.un).cell; have h5 := (HB4.out.ext hU.un).cell; clear hU; go_simp <;> with_reducible rfl)); (simp only [Act.put, List.setIfInBounds_toArray, List.set_cons_zero, List.set_cons_succ]))
  refine seq_opaque _ _ (by rfl) rfl ⟨_, none, 0, rfl⟩ (by simp) (fun w9 hU _ K hK => ?_) ?_
  · go_simp
    refine (from_any _ _ _ _ _ (HC3.out.ext hU.un) (by omega) HJD.out).mono ?_
    rintro e w6 ⟨C', c', rfl, h3, h4⟩
    exact hK _ _ h4 ⟨C', c', rfl⟩ ⟨C', c', rfl, h3⟩
  rintro _ ⟨C5, k5, rfl⟩
  simp only [Act.put, List.setIfInBounds_toArray, List.set_cons_zero, List.set_cons_succ]
  repeat ((refine seq_exact ?_ (by rfl) (by rfl) (fun w1 hU => ?_) ?_); (rotate_left 1); (focus (have h4 := (HD3.out.ext hU.un).cell; have h5 := (HB4.out.ext hU.un).cell; clear hU; go_simp <;> with_reducible rfl)); (simp only [Act.put, List.setIfInBounds_toArray, List.set_cons_zero, List.set_cons_succ]))
  refine seq_opaque _ _ (by rfl) rfl ⟨_, rfl⟩ (by simp) (fun w9 hU hp K hK => ?_) ?_
  · have hs := FPt.chs (hp _ (.head _) (by kernel_rfl))
    clear hp
    go_simp
    refine (requal_any _ _ _ _ _ _ _ _ _ hs (HC4.out.ext hU.un) (by omega) (by omega)).mono ?_
    rintro e w6 ⟨rfl, h4⟩
    exact hK _ _ h4 (by simp) trivial
  rintro _ rfl
  simp only [Act.put, List.setIfInBounds_toArray, List.set_cons_zero, List.set_cons_succ]
  repeat ((refine seq_exact ?_ (by rfl) (by rfl) (fun w1 hU => ?_) ?_); (rotate_left 1); (focus (go_simp <;> with_reducible rfl)); (simp only [Act.put, List.setIfInBounds_toArray, List.set_cons_zero, List.set_cons_succ]))
  intro w9 hw9 _
  simp only [List.drop_succ_cons, List.drop_nil]
  generalize hw8 : w7.alloc (.cells #[.int .i64 jn, .slice C4 jl.length k4] 35) = w8 at *
  have HD1 := hide (HD1.out.ext hw9.un)
  have HD2 := hide (HD2.out.ext hw9.un)
  have HE9 := hide (HE8.out.trans hw9.un)
  clear hw9 hw8 HE8 HD3 HB4 HC3 HC4 HJ HR HJD
  have hc1 := HD1.out.cell
  have hc2 := HD2.out.cell
  have hz1 := HD1.out.lt
  have hz2 := HD2.out.lt
  go_wp2_with fail
  obtain ⟨kn, hkn⟩ : ∃ kn, jN plen qlen a.length ps qs = kn := ⟨_, rfl⟩
  obtain ⟨ke, hke⟩ : ∃ ke, jE plen qlen a.length ps qs = ke := ⟨_, rfl⟩
  obtain ⟨kl, hkl⟩ : ∃ kl, jL plen qlen a.length ps qs = kl := ⟨_, rfl⟩
  have HJ := hide (fun (P' Q' : Option Addr) (c d : Nat) (w : World) (h1 : Chs w P' c ps) (h2 : Chs w Q' d qs) => join_any plen qlen a.length P' Q' c d ps qs w h1 h2 (by omega) (by omega) HDP.out HDQ.out (by omega) (by omega))
  have hkll := jL_length plen qlen a.length ps qs
  have HJD := hide (jL_data plen qlen a.length ps qs HDP.out HDQ.out)
  simp only [hkn, hke, hkl] at HJ HJD hkll
  have HKN := hide hkn
  have HKE := hide hke
  have HKL := hide hkl
  clear hkn hke hkl
  refine wp_region_take 11 4 [(1, ShPt plen ps.length, FPt plen ps), (3, ShPt qlen qs.length, FPt qlen qs), (6, ShTu kn kl.length ke, FTu 43 kn kl ke), (10, ShP, PNew w9 29 #[.int .i64 0, .slice none 0 0])] [10] [9] mixed (by kernel_rfl) (by kernel_rfl) (by kernel_rfl) (by rfl)
    ⟨fun _ _ _ h hx => h.ext hx, fun _ _ _ h hx => h.ext hx, fun _ _ _ h hx => h.ext hx, fun _ _ _ h hx => h.ext hx, trivial⟩ (fun i hi => ?_) ?_
  · obtain rfl : i = 10 := by simpa using hi
    exact ⟨_, _, rfl, PNew.old⟩
  repeat ((refine seq_exact ?_ (by rfl) (by rfl) (fun w1 hU => ?_) ?_); (rotate_left 1); (focus (have h4 := (HD1.out.ext hU.un).cell; clear hU; go_simp <;> with_reducible rfl)); (simp only [Act.put, List.setIfInBounds_toArray, List.set_cons_zero, List.set_cons_succ]))
  refine seq_opaque _ _ (by rfl) rfl ⟨_, none, 0, rfl⟩ (by simp) (fun w5 hU hp K hK => ?_) ?_
  · go_simp
    refine (to_any _ _ _ _ _ (HP.out.ext (HE9.out.trans hU.un)) (by omega) HDP.out).mono ?_
    rintro e w6 ⟨C', c', rfl, h3, h4⟩
    exact hK _ _ h4 ⟨C', c', rfl⟩ ⟨C', c', rfl, h3⟩
  rintro _ ⟨C6, k6, rfl⟩
  simp only [Act.put, List.setIfInBounds_toArray, List.set_cons_zero, List.set_cons_succ]
  repeat ((refine seq_exact ?_ (by rfl) (by rfl) (fun w1 hU => ?_) ?_); (rotate_left 1); (focus (have h4 := (HD2.out.ext hU.un).cell; clear hU; go_simp <;> with_reducible rfl)); (simp only [Act.put, List.setIfInBounds_toArray, List.set_cons_zero, List.set_cons_succ]))
  refine seq_opaque _ _ (by rfl) rfl ⟨_, none, 0, rfl⟩ (by simp) (fun w5 hU hp K hK => ?_) ?_
  · go_simp
    refine (to_any _ _ _ _ _ (HQ.out.ext (HE9.out.trans hU.un)) (by omega) HDQ.out).mono ?_
    rintro e w6 ⟨C', c', rfl, h3, h4⟩
    exact hK _ _ h4 ⟨C', c', rfl⟩ ⟨C', c', rfl, h3⟩
  rintro _ ⟨C7, k7, rfl⟩
  simp only [Act.put, List.setIfInBounds_toArray, List.set_cons_zero, List.set_cons_succ]
  repeat ((refine seq_exact ?_ (by rfl) (by rfl) (fun w1 hU => ?_) ?_); (rotate_left 1); (focus (go_simp <;> with_reducible rfl)); (simp only [Act.put, List.setIfInBounds_toArray, List.set_cons_zero, List.set_cons_succ]))
  refine seq_opaque _ _ (by rfl) rfl ⟨_, none, 0, rfl⟩ (by simp) (fun w5 hU hp K hK => ?_) ?_
  · have s1 := FPt.chs (hp _ (.tail _ (.head _)) (by kernel_rfl))
    have s2 := FPt.chs (hp _ (.head _) (by kernel_rfl))
    clear hp
    go_simp
    refine (HJ.out _ _ _ _ _ s1 s2).mono ?_
    rintro e w6 ⟨C', c', rfl, h3, h4⟩
    exact hK _ _ h4 ⟨C', c', rfl⟩ ⟨C', c', rfl, h3.base_le (Nat.zero_le _)⟩
  rintro _ ⟨C8, k8, rfl⟩
  simp only [Act.put, List.setIfInBounds_toArray, List.set_cons_zero, List.set_cons_succ]
  repeat ((refine seq_exact ?_ (by rfl) (by rfl) (fun w1 hU => ?_) ?_); (rotate_left 1); (focus (go_simp <;> with_reducible rfl)); (simp only [Act.put, List.setIfInBounds_toArray, List.set_cons_zero, List.set_cons_succ]))
  refine seq_new _ _ (by rfl) rfl ⟨_, 0, rfl⟩ (by simp) (fun w5 hU hp K hK => ?_) ?_
  · have hz := Ext.size hU.un
    go_simp
    exact hK _ _ (Ext.alloc w5 _) ⟨_, rfl⟩ ⟨_, rfl, hz, Blk.new w5 _ _⟩ (newP rfl)
  rintro _ ⟨g4, rfl⟩
  simp only [Act.put, List.setIfInBounds_toArray, List.set_cons_zero, List.set_cons_succ]
  intro w10 hw10 hp _
  obtain ⟨z4, b4⟩ := PNew.at_ (hp _ (.head _))
  have f4 := FTu.chs (hp _ (.tail _ (.head _)))
  clear hp
  simp only [List.drop_succ_cons, List.drop_zero]
  have HTX := hide (Ext.put2 hw10 (g := g4) z4 (.int .i64 kn) (.slice C8 kl.length k8))
  have HD4 := hide (b4.put2 (.int .i64 kn) (.slice C8 kl.length k8))
  have HC8 := hide (f4.put2 b4 (by simp [noB]) (by decide) (.int .i64 kn) (.slice C8 kl.length k8) rfl)
  have hcc := b4.cell
  have hff := b4.frozen
  clear b4 f4 hw10
  refine tailS_step (by rfl) (by simp) (fun K hK => ?_)
  go_simp
  refine hK _ _ ?_ ?_
  · exact HTX.out
  clear hK
  refine tailS_step (by rfl) (by simp) (fun K hK => ?_)
  go_simp
  refine hK _ _ ?_ ?_
  · exact HTX.out
  clear hK
  refine tailS_nil ?_
  generalize hwe : ((w10.setCell ⟨g4, 0, none⟩ (.int .i64 kn)).setCell ⟨g4, 1, none⟩ (.slice C8 kl.length k8)) = w11 at *
  have HD1 := hide (HD1.out.ext HTX.out.un)
  have HD2 := hide (HD2.out.ext HTX.out.un)
  have HE11 := hide (HE9.out.trans HTX.out.un)
  have HC8 := hide HC8.out.chs.2
  clear hwe hcc hff HTX HE9 hc1 hc2 HJ
  have hc1 := HD1.out.cell
  have hc2 := HD2.out.cell
  have hc4 := HD4.out.cell
  have hz4 := HD4.out.lt
  have hz1 := HD1.out.lt
  have hz2 := HD2.out.lt
  rcases jE_ways plen qlen a.length ps qs with h0 | h1
  rotate_left
  · have hk1 : (ke == 1) = true := by rw [← HKE.out, h1]; rfl
    have hk0 : (ke != 0) = true := by rw [← HKE.out, h1]; rfl
    clear h1
    go_wp2_with fail
    go_ret
    exact ⟨ret_bool (by rfl), HE11.out⟩
  · have hok := jok_parts h0
    have hk0 : ke = 0 := by rw [← HKE.out, h0]
    subst hk0
    clear h0
    unfold jok at hok
    simp only [Bool.and_eq_true] at hok
    obtain ⟨v1, v2⟩ := hok
    obtain ⟨p, rfl⟩ := Int.eq_ofNat_of_zero_le (validP_parts v1).2.1
    obtain ⟨q, rfl⟩ := Int.eq_ofNat_of_zero_le (validP_parts v2).2.1
    have hkn : (q : Int) = kn := by rw [← HKN.out]; unfold jN jok; rw [v1, v2]; rfl
    subst hkn
    have hkl : joinTo ps qs (cntN q) = kl := by rw [← HKL.out]; unfold jL jok; rw [v1, v2]; rfl
    subst hkl
    have HV3 := hide (show validP (q : Int) (joinTo ps qs (cntN q)) a.length = true from joined_valid v1 v2)
    have HSM := hide (joined_same (a := a) v1 v2)
    have hap : (applied a p ps).length = p := applied_length a p ps (validP_parts v1).2.2.2.1
    have HAP := hide hap
    have HV1 := hide v1
    have HV2 := hide v2
    clear v1 v2 hap HKN HKE HKL
    go_wp2_with fail
    refine (to_any _ _ _ _ _ (HP.out.ext HE11.out) (by omega) HDP.out).mono ?_
    rintro e w12 ⟨C9, k9, rfl, h9, hE⟩
    have HC9 := hide h9
    have HD1 := hide (HD1.out.ext hE)
    have HD2 := hide (HD2.out.ext hE)
    have HD4 := hide (HD4.out.ext hE)
    have HC8 := hide (HC8.out.ext hE)
    have HE12 := hide (HE11.out.trans hE)
    clear h9 hE hc1 hc2 hc4 HE11
    have hc2 := HD2.out.cell
    go_wp2_with fail
    refine (apply_good p A ca a C9 k9 ps _ (HA.out.ext HE12.out) HC9.out (by omega) HDP.out HV1.out).mono ?_
    rintro e w13 ⟨B1, rfl, h9, hE⟩
    have HB1 := hide h9
    have HD2 := hide (HD2.out.ext hE)
    have HD4 := hide (HD4.out.ext hE)
    have HC8 := hide (HC8.out.ext hE)
    have HE13 := hide (HE12.out.trans hE)
    clear h9 hE hc2 HE12
    have hc2 := HD2.out.cell
    have hz2 := HD2.out.lt
    go_wp2_with fail
    refine (to_any _ _ _ _ _ (HQ.out.ext HE13.out) (by omega) HDQ.out).mono ?_
    rintro e w14 ⟨C10, k10, rfl, h9, hE⟩
    have HC10 := hide h9
    have HD4 := hide (HD4.out.ext hE)
    have HC8 := hide (HC8.out.ext hE)
    have HB1 := hide (HB1.out.ext hE)
    have HE14 := hide (HE13.out.trans hE)
    clear h9 hE hc2 HE13
    go_wp2_with fail
    have hq2 := apply_good q B1 p (applied a p ps) C10 k10 qs w14 HB1.out HC10.out (by omega) HDQ.out (by rw [HAP.out]; exact HV2.out)
    rw [HAP.out] at hq2
    refine hq2.mono ?_
    clear hq2
    rintro e w15 ⟨B2, rfl, h9, hE⟩
    have HB2 := hide h9
    have HD4 := hide (HD4.out.ext hE)
    have HC8 := hide (HC8.out.ext hE)
    have HE15 := hide (HE14.out.trans hE)
    clear h9 hE HE14
    have hc4 := HD4.out.cell
    have hz4 := HD4.out.lt
    go_wp2_with fail
    refine (apply_good q A ca a C8 k8 (joinTo ps qs (cntN q)) _ (HA.out.ext HE15.out) HC8.out (by omega) HJD.out HV3.out).mono ?_
    rintro e w16 ⟨B3, rfl, h9, hE⟩
    have HB3 := hide h9
    have HB2 := hide (HB2.out.ext hE)
    have HD4 := hide (HD4.out.ext hE)
    have HC8 := hide (HC8.out.ext hE)
    have HE16 := hide (HE15.out.trans hE)
    clear h9 hE HE15 hc4
    have hc4 := HD4.out.cell
    have hz4 := HD4.out.lt
    go_wp2_with fail
    refine (valid_any _ _ _ _ _ _ HC8.out (by omega) HJD.out (by omega)).mono ?_
    rw [HV3.out]
    rintro e w17 ⟨rfl, hE⟩
    have hl2 : (applied (applied a p ps) q qs).length = q := applied_length _ q qs (validP_parts HV2.out).2.2.2.1
    have hl3 : (applied a q (joinTo ps qs (cntN q))).length = q := applied_length a q _ (validP_parts HV3.out).2.2.2.1
    have hs2 := (HB2.out.ext hE).convert (P := Try.prog) (src := 22) (dst := 9) Try.underlying22 Try.underlying5 Try.underlying9
    have hs3 := (HB3.out.ext hE).convert (P := Try.prog) (src := 22) (dst := 9) Try.underlying22 Try.underlying5 Try.underlying9
    rw [hl2, HSM.out] at hs2
    rw [hl3] at hs3
    have HE17 := hide (HE16.out.trans hE)
    clear hl2 hl3 hE
    go_wp2_with fail
    go_ret
    exact ⟨ret_bool (by simp), HE17.out⟩
end Go.Proofs.Ytfcmngiekdhfpaa
