/-
  The walk of ImageApply.
-/
import Derived.Test.YtfcmngiekdhfpaaJoinB
import Derived.Test.YtfcmngiekdhfpaaLawC
import Derived.Test.YtfcmngiekdhfpaaLawD
namespace Go.Proofs.Ytfcmngiekdhfpaa
open Go.RowKit
set_option linter.unusedVariables false

theorem u8_inc (x : UInt8) : ((x + 1).toNat : Int) = ((x.toNat : Int) + 1) % 256 := by
  rw [UInt8.toNat_add]
  have : (1 : UInt8).toNat = 1 := rfl
  rw [this]
  omega
set_option maxRecDepth 100000 in
set_option maxHeartbeats 4000000 in
theorem apply_law (A P Q : Option Addr) (ca cp cq : Nat) (a : List UInt8) (plen qlen n : Int) (ps qs : List Chg) (w : World) (ha : Sl w A ca a) (hp : Chs w P cp ps) (hq : Chs w Q cq qs) (hn : n ≤ 9223372036854775807) :
    Calls Try.prog 13 #[.slice A a.length ca, .agg #[.int .i64 plen, .slice P ps.length cp, .int .i64 qlen, .slice Q qs.length cq], .int .i64 n] w fun e w' => e = .returned (.bool true) ∧ Ext w w' := by
  have HA := hide ha
  have HP := hide hp
  have HQ := hide hq
  have hma := ha.max
  have hla := ha.le
  unfold maxLen at hma
  have HB0 := hide (Blk.new w 74 #[.int .i64 plen, .slice P ps.length cp, .int .i64 qlen, .slice Q qs.length cq])
  clear ha hp hq
  go_enter Try.func13, Try.ntmps13
  go_wp2_with (go_at_call 14; refine (awake_any _).mono ?_; rintro e w1 ⟨rfl, hE1⟩; have HB1 := hide (HB0.out.ext hE1); have HE1 := hide ((Ext.alloc w _).trans hE1); clear hE1)
  clear HB0
  have hz1 := HB1.out.lt
  refine wp_region_take 6 3 [(4, ShP, PNew w1 35 #[.int .i64 0, .slice none 0 0]), (5, ShP, PNew w1 35 #[.int .i64 0, .slice none 0 0])] [4, 5] [2, 3] mixed (by kernel_rfl) (by kernel_rfl) (by kernel_rfl) (by rfl)
    ⟨fun _ _ _ h hx => h.ext hx, fun _ _ _ h hx => h.ext hx, trivial⟩ (fun i hi => ?_) ?_
  · have : i = 4 ∨ i = 5 := by simpa using hi
    rcases this with rfl | rfl
    · exact ⟨_, _, rfl, PNew.old⟩
    · exact ⟨_, _, rfl, PNew.old⟩
  repeat ((refine seq_exact ?_ (by rfl) (by rfl) (fun w1 hU => ?_) ?_); (rotate_left 1); (focus (have h4 := (HB1.out.ext hU.un).cell; clear hU; go_simp <;> with_reducible rfl)); (simp only [Act.put, List.setIfInBounds_toArray, List.set_cons_zero, List.set_cons_succ]))
  refine seq_new _ _ (by rfl) rfl ⟨_, 0, rfl⟩ (by simp) (fun w5 hU hp K hK => ?_) ?_
  · have hz := Ext.size hU.un
    go_simp
    exact hK _ _ (Ext.alloc w5 _) ⟨_, rfl⟩ ⟨_, rfl, hz, Blk.new w5 _ _⟩ (newP rfl)
  rintro _ ⟨g1, rfl⟩
  simp only [Act.put, List.setIfInBounds_toArray, List.set_cons_zero, List.set_cons_succ]
  refine seq_new _ _ (by rfl) rfl ⟨_, 0, rfl⟩ (by simp) (fun w5 hU hp K hK => ?_) ?_
  · have hz := Ext.size hU.un
    go_simp
    exact hK _ _ (Ext.alloc w5 _) ⟨_, rfl⟩ ⟨_, rfl, hz, Blk.new w5 _ _⟩ (newP rfl)
  rintro _ ⟨g2, rfl⟩
  simp only [Act.put, List.setIfInBounds_toArray, List.set_cons_zero, List.set_cons_succ]
  intro w2 hw2 hp hpair
  have hne : g1 ≠ g2 := ptr_ne' (hpair 4 5 _ _ _ _ trivial trivial (by omega) (by omega) rfl rfl rfl rfl rfl rfl (by omega) (by rfl) (by rfl))
  obtain ⟨z2, b2⟩ := PNew.at_ (hp _ (.head _))
  obtain ⟨z1, b1⟩ := PNew.at_ (hp _ (.tail _ (.head _)))
  clear hp hpair
  simp only [List.drop_succ_cons, List.drop_zero]
  have hne2 : g2 ≠ g1 := fun e => hne e.symm
  have c1 := b1.put2 (.int .i64 plen) (.slice P ps.length cp)
  have c2 := b2.put2_far hne2 (.int .i64 plen) (.slice P ps.length cp)
  have d1 := c1.put2_far hne (.int .i64 qlen) (.slice Q qs.length cq)
  have d2 := c2.put2 (.int .i64 qlen) (.slice Q qs.length cq)
  have HT1 := hide (Ext.put2 hw2 (g := g1) z1 (.int .i64 plen) (.slice P ps.length cp))
  have HT2 := hide ((Ext.put2 hw2 (g := g1) z1 (.int .i64 plen) (.slice P ps.length cp)).put2 (g := g2) z2 (.int .i64 qlen) (.slice Q qs.length cq))
  have hcc1 := b1.cell
  have hff1 := b1.frozen
  have hcc2 := c2.cell
  have hff2 := c2.frozen
  have HD1 := hide d1
  have HD2 := hide d2
  clear b1 b2 c1 c2 d1 d2 hw2
  refine tailS_step (by rfl) (by simp) (fun K hK => ?_)
  go_simp
  refine hK _ _ ?_ ?_
  · exact HT1.out
  clear hK
  refine tailS_step (by rfl) (by simp) (fun K hK => ?_)
  go_simp
  refine hK _ _ ?_ ?_
  · exact HT2.out
  clear hK
  refine tailS_nil ?_
  generalize hwe : ((((w2.setCell ⟨g1, 0, none⟩ (.int .i64 plen)).setCell ⟨g1, 1, none⟩ (.slice P ps.length cp)).setCell ⟨g2, 0, none⟩ (.int .i64 qlen)).setCell ⟨g2, 1, none⟩ (.slice Q qs.length cq)) = we at *
  have HE2 := hide (HE1.out.trans HT2.out.un)
  clear hwe hcc1 hff1 hcc2 hff2 HT1 HT2 HB1 HE1
  have hc1 := HD1.out.cell
  have hc2 := HD2.out.cell
  by_cases hl : 2000 < a.length
  · have hl' : (2000 : Int) < a.length := by omega
    go_wp2_with fail
    go_ret
    exact ⟨rfl, HE2.out⟩
  have hl' : ¬ (2000 : Int) < a.length := by omega
  cases hfp : fewP plen ps with
  | false =>
    have HF := hide hfp
    clear hfp
    go_wp2_with (go_at_call 37; refine (few_any _ _ _ _ _ (HP.out.ext HE2.out)).mono ?_; rw [HF.out]; rintro e w3 ⟨rfl, hE3⟩; have HE3 := hide (HE2.out.trans hE3); clear hE3)
    go_ret
    exact ⟨rfl, HE3.out⟩
  | true =>
  obtain ⟨hdp, hpl, hlp⟩ := fewP_parts hfp
  have HFP := hide hfp
  clear hfp
  have HDP := hide (show ∀ c ∈ ps, c.2.length ≤ 65536 from fun c hc => Nat.le_trans (hdp c hc) (by omega))
  clear hdp
  go_wp2_with fail
  refine (few_any _ _ _ _ _ (HP.out.ext HE2.out)).mono ?_
  rw [HFP.out]
  rintro e w3 ⟨rfl, hE3⟩
  have HD1 := hide (HD1.out.ext hE3)
  have HD2 := hide (HD2.out.ext hE3)
  have HE3 := hide (HE2.out.trans hE3)
  clear hc1 hc2 hE3 HE2
  have hc1 := HD1.out.cell
  have hc2 := HD2.out.cell
  cases hfq : fewP qlen qs with
  | false =>
    have HF := hide hfq
    clear hfq
    go_wp2_with (go_at_call 37; refine (few_any _ _ _ _ _ (HQ.out.ext HE3.out)).mono ?_; rw [HF.out]; rintro e w4 ⟨rfl, hE4⟩; have HE4 := hide (HE3.out.trans hE4); clear hE4)
    go_ret
    exact ⟨rfl, HE4.out⟩
  | true =>
  obtain ⟨hdq, hql, hlq⟩ := fewP_parts hfq
  have HFQ := hide hfq
  clear hfq
  have HDQ := hide (show ∀ c ∈ qs, c.2.length ≤ 65536 from fun c hc => Nat.le_trans (hdq c hc) (by omega))
  clear hdq
  go_wp2_with fail
  refine (few_any _ _ _ _ _ (HQ.out.ext HE3.out)).mono ?_
  rw [HFQ.out]
  rintro e w4 ⟨rfl, hE4⟩
  have HD1 := hide (HD1.out.ext hE4)
  have HD2 := hide (HD2.out.ext hE4)
  have HE4 := hide (HE3.out.trans hE4)
  clear hc1 hc2 hE4 HE3
  have hc1 := HD1.out.cell
  have hc2 := HD2.out.cell
  have hz1 := HD1.out.lt
  have hz2 := HD2.out.lt
  have HAC := hide (HA.out.ext HE4.out)
  go_wp2_with (first
    | (at_builtin; refine wpList_appendE bt rfl _ _ rfl w4.heap.size _ rfl (EmB.new w4 5 (Nat.le_refl _)) A ca a rfl (HAC.out.ext (Ext.alloc w4 _)) (by omega) (by simp) ?_; intro A2 c2 w5 hm2 he2; have HIN := hide hm2.sl.2; have HD1 := hide (HD1.out.ext ((Ext.alloc w4 _).trans he2)); have HD2 := hide (HD2.out.ext ((Ext.alloc w4 _).trans he2)); have HE5 := hide (HE4.out.trans ((Ext.alloc w4 _).trans he2)); clear hc1 hc2 hm2 he2 HE4; have hc1 := HD1.out.cell; have hc2 := HD2.out.cell)
    | fail)
  refine (to_any _ _ _ _ _ (HP.out.ext HE5.out) (by omega) HDP.out).mono ?_
  rintro e w6 ⟨C9, k9, rfl, h9, hE⟩
  have HIN := hide (HIN.out.ext (hE.alloc' (.cells #[.int .i64 plen, .slice C9 ps.length k9] 29)))
  have HOC := hide (h9.ext (Ext.alloc w6 (.cells #[.int .i64 plen, .slice C9 ps.length k9] 29)))
  have HO := hide (Blk.new w6 29 #[.int .i64 plen, .slice C9 ps.length k9])
  have HD1 := hide (HD1.out.ext (hE.alloc' (.cells #[.int .i64 plen, .slice C9 ps.length k9] 29)))
  have HD2 := hide (HD2.out.ext (hE.alloc' (.cells #[.int .i64 plen, .slice C9 ps.length k9] 29)))
  have HE7 := hide (HE5.out.trans (hE.alloc' (.cells #[.int .i64 plen, .slice C9 ps.length k9] 29)))
  have hz6 := (h9.ext (Ext.refl w6)).le
  clear h9 hE hc1 hc2 HE5
  go_wp2_with fail
  obtain ⟨ae, hae⟩ : ∃ ae, apE a plen ps = ae := ⟨_, rfl⟩
  obtain ⟨al, hal⟩ : ∃ al, apL a plen ps = al := ⟨_, rfl⟩
  have hall := apL_length a plen ps
  have HAP := hide (applyO_any plen A2 c2 a C9 k9 ps (w6.alloc (.cells #[.int .i64 plen, .slice C9 ps.length k9] 29)) HIN.out HOC.out (by omega) HDP.out)
  have HRP := hide (fun (w' : World) (h : Ext (w6.alloc (.cells #[.int .i64 plen, .slice C9 ps.length k9] 29)) w') => rapplyO_any plen A ca a P cp ps w' (HA.out.ext (HE7.out.trans h)) (by omega) (HP.out.ext (HE7.out.trans h)) (by omega) HDP.out)
  simp only [hae, hal] at HAP HRP hall
  clear hae hal
  generalize hw7 : w6.alloc (.cells #[.int .i64 plen, .slice C9 ps.length k9] 29) = w7 at *
  have hz67 : w6.heap.size < w7.heap.size := by rw [← hw7]; simp
  clear hw7
  refine HAP.out.mono ?_
  rintro e w8 ⟨B, cb, rfl, hb, hE⟩
  have HBO := hide hb
  have HE8 := hide hE
  clear hb hE HAP
  have hc1 := (HD1.out.ext HE8.out).cell
  go_wp2_with fail
  refine (HRP.out w8 HE8.out).mono ?_
  rintro e w9 ⟨C, cc, rfl, hcO, hE⟩
  have HCO := hide hcO
  have HBO9 := hide (HBO.out.ext hE)
  have HE9 := hide (HE8.out.trans hE)
  have hz89 := hE.size
  have hz78 := HE8.out.size
  clear hcO hE HRP hc1 HE8
  cases al with
  | nil =>
    simp only [List.length_nil] at HBO9 HCO
    go_wp2_with fail
    have HB := hide HBO9.out.sl.2
    have HC := hide HCO.out.sl.2
    have HIN := hide (HIN.out.ext HE9.out)
    have HA0 := hide (HA.out.ext (HE7.out.trans HE9.out))
    have HP0 := hide (HP.out.ext (HE7.out.trans HE9.out))
    have HQ0 := hide (HQ.out.ext (HE7.out.trans HE9.out))
    have HD1 := hide (HD1.out.ext HE9.out)
    have HD2 := hide (HD2.out.ext HE9.out)
    have HO := hide (HO.out.ext HE9.out)
    have HOC := hide (HOC.out.ext HE9.out)
    have HEX := hide (HE7.out.trans HE9.out)
    clear HBO HBO9 HCO HE7 HE9
    obtain ⟨vn, hvn⟩ : ∃ vn, validP plen ps n = vn := ⟨_, rfl⟩
    have HVN := hide hvn
    clear hvn
    obtain ⟨ee, hee⟩ : ∃ ee, (plen == qlen && decide (ps = qs)) = ee := ⟨_, rfl⟩
    have HEE := hide hee
    clear hee
    have HS1 := hide fun (w : World) (h : Ext w9 w) => (HB.out.ext h).convert (P := Try.prog) (src := 22) (dst := 9) Try.underlying22 Try.underlying5 Try.underlying9
    have HS2 := hide fun (w : World) (h : Ext w9 w) => (HC.out.ext h).convert (P := Try.prog) (src := 22) (dst := 9) Try.underlying22 Try.underlying5 Try.underlying9
    have HS3 := hide fun (w : World) (h : Ext w9 w) => (HIN.out.ext h).convert (P := Try.prog) (src := 22) (dst := 9) Try.underlying22 Try.underlying5 Try.underlying9
    have HS4 := hide fun (w : World) (h : Ext w9 w) => (HA0.out.ext h).convert (P := Try.prog) (src := 22) (dst := 9) Try.underlying22 Try.underlying5 Try.underlying9
    clear HB HC HIN HA0
    refine wp_region_ext 42 4 [(19, ShPt plen ps.length, FPt plen ps), (21, fun v => v = .bool true, fun _ _ => True), (26, fun v => v = .bool vn, fun _ _ => True), (29, fun v => v = .bool vn, fun _ _ => True), (35, ShPt qlen qs.length, FPt qlen qs), (36, fun v => v = .bool ee, fun _ _ => True), (39, fun v => v = .bool ee, fun _ _ => True)] mixed (by kernel_rfl)
      ⟨fun _ _ _ h hx => h.ext hx, fun _ _ _ _ _ => trivial, fun _ _ _ _ _ => trivial, fun _ _ _ _ _ => trivial, fun _ _ _ h hx => h.ext hx, fun _ _ _ _ _ => trivial, fun _ _ _ _ _ => trivial, trivial⟩ ?_
    repeat ((refine seq_exact ?_ (by rfl) (by rfl) (fun w1 hU => ?_) ?_); (rotate_left 1); (focus (have h1 := (HO.out.ext hU.un).cell; have h2 := (HD1.out.ext hU.un).cell; have h3 := (HD2.out.ext hU.un).cell; have s1 := HS1.out w1 hU.un; have s2 := HS2.out w1 hU.un; have s3 := HS3.out w1 hU.un; have s4 := HS4.out w1 hU.un; simp only [List.length_nil] at s1 s2; clear hU; go_simp <;> with_reducible rfl)); (simp only [Act.put, List.setIfInBounds_toArray, List.set_cons_zero, List.set_cons_succ]))
    refine seq_opaque _ _ (by rfl) rfl ⟨_, none, 0, rfl⟩ (by simp) (fun w5 hU hp K hK => ?_) ?_
    · go_simp
      refine (from_any _ _ _ _ _ (HOC.out.ext hU.un) (by omega) HDP.out).mono ?_
      rintro e w6 ⟨C', c', rfl, h3, h4⟩
      exact hK _ _ h4 ⟨C', c', rfl⟩ ⟨C', c', rfl, h3⟩
    rintro _ ⟨K1, q1, rfl⟩
    simp only [Act.put, List.setIfInBounds_toArray, List.set_cons_zero, List.set_cons_succ]
    repeat ((refine seq_exact ?_ (by rfl) (by rfl) (fun w1 hU => ?_) ?_); (rotate_left 1); (focus (have h1 := (HO.out.ext hU.un).cell; have h2 := (HD1.out.ext hU.un).cell; have h3 := (HD2.out.ext hU.un).cell; clear hU; go_simp <;> with_reducible rfl)); (simp only [Act.put, List.setIfInBounds_toArray, List.set_cons_zero, List.set_cons_succ]))
    refine seq_opaque _ _ (by rfl) rfl ⟨_, rfl⟩ (by simp) (fun w5 hU hp K hK => ?_) ?_
    · have hs := FPt.chs (hp _ (.head _) (by kernel_rfl))
      clear hp
      go_simp
      refine (requal_any _ _ _ _ _ _ _ _ _ hs (HP0.out.ext hU.un) (by omega) (by omega)).mono ?_
      rintro e w6 ⟨rfl, h4⟩
      exact hK _ _ h4 (by simp) trivial
    rintro _ rfl
    simp only [Act.put, List.setIfInBounds_toArray, List.set_cons_zero, List.set_cons_succ]
    repeat ((refine seq_exact ?_ (by rfl) (by rfl) (fun w1 hU => ?_) ?_); (rotate_left 1); (focus (have h1 := (HO.out.ext hU.un).cell; have h2 := (HD1.out.ext hU.un).cell; have h3 := (HD2.out.ext hU.un).cell; clear hU; go_simp <;> with_reducible rfl)); (simp only [Act.put, List.setIfInBounds_toArray, List.set_cons_zero, List.set_cons_succ]))
    refine seq_opaque _ _ (by rfl) rfl ⟨_, rfl⟩ (by simp) (fun w5 hU hp K hK => ?_) ?_
    · clear hp
      go_simp
      refine (valid_any _ _ _ _ _ _ (HOC.out.ext hU.un) (by omega) HDP.out hn).mono ?_
      rw [HVN.out]
      rintro e w6 ⟨rfl, h4⟩
      exact hK _ _ h4 rfl trivial
    rintro _ rfl
    simp only [Act.put, List.setIfInBounds_toArray, List.set_cons_zero, List.set_cons_succ]
    repeat ((refine seq_exact ?_ (by rfl) (by rfl) (fun w1 hU => ?_) ?_); (rotate_left 1); (focus (have h1 := (HO.out.ext hU.un).cell; have h2 := (HD1.out.ext hU.un).cell; have h3 := (HD2.out.ext hU.un).cell; clear hU; go_simp <;> with_reducible rfl)); (simp only [Act.put, List.setIfInBounds_toArray, List.set_cons_zero, List.set_cons_succ]))
    refine seq_opaque _ _ (by rfl) rfl ⟨_, rfl⟩ (by simp) (fun w5 hU hp K hK => ?_) ?_
    · clear hp
      go_simp
      refine (rvalid3_any _ _ _ _ _ _ (HP0.out.ext hU.un) (by omega) HDP.out hn).mono ?_
      rw [HVN.out]
      rintro e w6 ⟨rfl, h4⟩
      exact hK _ _ h4 rfl trivial
    rintro _ rfl
    simp only [Act.put, List.setIfInBounds_toArray, List.set_cons_zero, List.set_cons_succ]
    repeat ((refine seq_exact ?_ (by rfl) (by rfl) (fun w1 hU => ?_) ?_); (rotate_left 1); (focus (have h1 := (HO.out.ext hU.un).cell; have h2 := (HD1.out.ext hU.un).cell; have h3 := (HD2.out.ext hU.un).cell; clear hU; go_simp <;> with_reducible rfl)); (simp only [Act.put, List.setIfInBounds_toArray, List.set_cons_zero, List.set_cons_succ]))
    refine seq_opaque _ _ (by rfl) rfl ⟨_, none, 0, rfl⟩ (by simp) (fun w5 hU hp K hK => ?_) ?_
    · clear hp
      go_simp
      refine (to_any _ _ _ _ _ (HQ0.out.ext hU.un) (by omega) HDQ.out).mono ?_
      rintro e w6 ⟨C', c', rfl, h3, h4⟩
      exact hK _ _ h4 ⟨C', c', rfl⟩ ⟨C', c', rfl, h3⟩
    rintro _ ⟨K2, q2, rfl⟩
    simp only [Act.put, List.setIfInBounds_toArray, List.set_cons_zero, List.set_cons_succ]
    refine seq_opaque _ _ (by rfl) rfl ⟨_, rfl⟩ (by simp) (fun w5 hU hp K hK => ?_) ?_
    · have hs := FPt.chs (hp _ (.head _) (by kernel_rfl))
      clear hp
      go_simp
      refine (pequal_any _ _ _ _ _ _ _ _ _ (HOC.out.ext hU.un) hs (by omega) (by omega)).mono ?_
      rw [HEE.out]
      rintro e w6 ⟨rfl, h4⟩
      exact hK _ _ h4 rfl trivial
    rintro _ rfl
    simp only [Act.put, List.setIfInBounds_toArray, List.set_cons_zero, List.set_cons_succ]
    repeat ((refine seq_exact ?_ (by rfl) (by rfl) (fun w1 hU => ?_) ?_); (rotate_left 1); (focus (have h1 := (HO.out.ext hU.un).cell; have h2 := (HD1.out.ext hU.un).cell; have h3 := (HD2.out.ext hU.un).cell; clear hU; go_simp <;> with_reducible rfl)); (simp only [Act.put, List.setIfInBounds_toArray, List.set_cons_zero, List.set_cons_succ]))
    refine seq_opaque _ _ (by rfl) rfl ⟨_, rfl⟩ (by simp) (fun w5 hU hp K hK => ?_) ?_
    · clear hp
      go_simp
      refine (requal_any _ _ _ _ _ _ _ _ _ (HP0.out.ext hU.un) (HQ0.out.ext hU.un) (by omega) (by omega)).mono ?_
      rw [HEE.out]
      rintro e w6 ⟨rfl, h4⟩
      exact hK _ _ h4 rfl trivial
    rintro _ rfl
    simp only [Act.put, List.setIfInBounds_toArray, List.set_cons_zero, List.set_cons_succ]
    repeat ((refine seq_exact ?_ (by rfl) (by rfl) (fun w1 hU => ?_) ?_); (rotate_left 1); (focus (go_simp <;> with_reducible rfl)); (simp only [Act.put, List.setIfInBounds_toArray, List.set_cons_zero, List.set_cons_succ]))
    intro w9 hw9 _
    simp only [List.drop_succ_cons, List.drop_zero]
    have HE9 := hide (HEX.out.trans hw9.un)
    clear hw9
    go_wp2_with fail
    go_ret
    exact ⟨ret_bool (by simp), HE9.out⟩
  | cons x al =>
    obtain ⟨gb, rfl, hb2, hb3, hb4, hb5, hb6⟩ := HBO.out.at_ (by simp)
    obtain ⟨gc, rfl, hc2, hc3, hc4, hc5, hc6⟩ := HCO.out.at_ (by simp)
    have hne : gc ≠ gb := by omega
    have hne' : gb ≠ gc := by omega
    obtain ⟨g', hbg, _, hb8, _, hb9, hb10⟩ := HBO9.out.at_ (by simp)
    injection hbg with hbg
    injection hbg with hbg
    subst hbg
    have hbx := hb9 0 (by simp)
    have hcx := hc5 0 (by simp)
    simp only [List.getElem_cons_zero] at hbx hcx
    have hlen1 : (0 : Int) < (al.length : Int) + 1 := by omega
    have hu := u8_inc x
    have hgb : w9.grownBy (w9.setCell ⟨gb, 0, none⟩ (.int .u8 ((x + 1).toNat : Int))) (some gb) := ⟨rfl, rfl, rfl, by simp [World.setCell], fun k _ hk => Below.heap_setCell w9 ⟨gb, 0, none⟩ _ k (fun e => hk (by rw [e]))⟩
    have hgc : (w9.setCell ⟨gb, 0, none⟩ (.int .u8 ((x + 1).toNat : Int))).grownBy ((w9.setCell ⟨gb, 0, none⟩ (.int .u8 ((x + 1).toNat : Int))).setCell ⟨gc, 0, none⟩ (.int .u8 ((x + 1).toNat : Int))) (some gc) :=
      ⟨rfl, rfl, rfl, by simp [World.setCell], fun k _ hk => Below.heap_setCell _ ⟨gc, 0, none⟩ _ k (fun e => hk (by rw [e]))⟩
    have hB1 := (HBO9.out.set 0 (x + 1)).grown hgc (.inr (fun e => by injection e with e; exact hne' e))
    have hC1 := (HCO.out.grown hgb (.inr (fun e => by injection e with e; exact hne e))).set 0 (x + 1)
    rw [hu] at hB1 hC1
    rw [hu] at hgb
    have HB := hide hB1.sl.2
    have HC := hide hC1.sl.2
    have HEW := hide ((HE9.out.set (p := ⟨gb, 0, none⟩) hb2 (.int .u8 (((x.toNat : Int) + 1) % 256))).set (p := ⟨gc, 0, none⟩) (by simp <;> omega) (.int .u8 (((x.toNat : Int) + 1) % 256)))
    have hcz0 := hgb.cell hcx (fun e => by injection e with e; exact hne e)
    clear hb5 hc5 hb9 HBO hgb hgc hB1 hC1 HBO9 HCO hb6
    clear hu
    have hcx1 : (w9.setCell ⟨gb, 0, none⟩ (.int .u8 (((x.toNat : Int) + 1) % 256))).cell? ⟨gc, 0, none⟩ = some (.int .u8 (x.toNat : Int)) := hcz0
    go_wp2_with fail
    generalize hW0 : ((w9.setCell ⟨gb, 0, none⟩ (.int .u8 (((x.toNat : Int) + 1) % 256))).setCell ⟨gc, 0, none⟩ (.int .u8 (((x.toNat : Int) + 1) % 256))) = W0 at *
    have HIN := hide (HIN.out.ext HEW.out)
    have HA0 := hide (HA.out.ext (HE7.out.trans HEW.out))
    have HP0 := hide (HP.out.ext (HE7.out.trans HEW.out))
    have HQ0 := hide (HQ.out.ext (HE7.out.trans HEW.out))
    have HD1 := hide (HD1.out.ext HEW.out)
    have HD2 := hide (HD2.out.ext HEW.out)
    have HO := hide (HO.out.ext HEW.out)
    have HOC := hide (HOC.out.ext HEW.out)
    have HEX := hide (HE7.out.trans HEW.out)
    clear HE7 HE9 HEW hW0 hcx1 hbx hcx
    obtain ⟨vn, hvn⟩ : ∃ vn, validP plen ps n = vn := ⟨_, rfl⟩
    have HVN := hide hvn
    clear hvn
    obtain ⟨ee, hee⟩ : ∃ ee, (plen == qlen && decide (ps = qs)) = ee := ⟨_, rfl⟩
    have HEE := hide hee
    clear hee
    have HS1 := hide fun (w : World) (h : Ext W0 w) => (HB.out.ext h).convert (P := Try.prog) (src := 22) (dst := 9) Try.underlying22 Try.underlying5 Try.underlying9
    have HS2 := hide fun (w : World) (h : Ext W0 w) => (HC.out.ext h).convert (P := Try.prog) (src := 22) (dst := 9) Try.underlying22 Try.underlying5 Try.underlying9
    have HS3 := hide fun (w : World) (h : Ext W0 w) => (HIN.out.ext h).convert (P := Try.prog) (src := 22) (dst := 9) Try.underlying22 Try.underlying5 Try.underlying9
    have HS4 := hide fun (w : World) (h : Ext W0 w) => (HA0.out.ext h).convert (P := Try.prog) (src := 22) (dst := 9) Try.underlying22 Try.underlying5 Try.underlying9
    clear HB HC HIN HA0
    refine wp_region_ext 42 4 [(19, ShPt plen ps.length, FPt plen ps), (21, fun v => v = .bool true, fun _ _ => True), (26, fun v => v = .bool vn, fun _ _ => True), (29, fun v => v = .bool vn, fun _ _ => True), (35, ShPt qlen qs.length, FPt qlen qs), (36, fun v => v = .bool ee, fun _ _ => True), (39, fun v => v = .bool ee, fun _ _ => True)] mixed (by kernel_rfl)
      ⟨fun _ _ _ h hx => h.ext hx, fun _ _ _ _ _ => trivial, fun _ _ _ _ _ => trivial, fun _ _ _ _ _ => trivial, fun _ _ _ h hx => h.ext hx, fun _ _ _ _ _ => trivial, fun _ _ _ _ _ => trivial, trivial⟩ ?_
    repeat ((refine seq_exact ?_ (by rfl) (by rfl) (fun w1 hU => ?_) ?_); (rotate_left 1); (focus (have h1 := (HO.out.ext hU.un).cell; have h2 := (HD1.out.ext hU.un).cell; have h3 := (HD2.out.ext hU.un).cell; have s1 := HS1.out w1 hU.un; have s2 := HS2.out w1 hU.un; have s3 := HS3.out w1 hU.un; have s4 := HS4.out w1 hU.un; simp only [List.set_cons_zero, List.length_cons] at s1 s2; clear hU; go_simp <;> with_reducible rfl)); (simp only [Act.put, List.setIfInBounds_toArray, List.set_cons_zero, List.set_cons_succ]))
    refine seq_opaque _ _ (by rfl) rfl ⟨_, none, 0, rfl⟩ (by simp) (fun w5 hU hp K hK => ?_) ?_
    · go_simp
      refine (from_any _ _ _ _ _ (HOC.out.ext hU.un) (by omega) HDP.out).mono ?_
      rintro e w6 ⟨C', c', rfl, h3, h4⟩
      exact hK _ _ h4 ⟨C', c', rfl⟩ ⟨C', c', rfl, h3⟩
    rintro _ ⟨K1, q1, rfl⟩
    simp only [Act.put, List.setIfInBounds_toArray, List.set_cons_zero, List.set_cons_succ]
    repeat ((refine seq_exact ?_ (by rfl) (by rfl) (fun w1 hU => ?_) ?_); (rotate_left 1); (focus (have h1 := (HO.out.ext hU.un).cell; have h2 := (HD1.out.ext hU.un).cell; have h3 := (HD2.out.ext hU.un).cell; clear hU; go_simp <;> with_reducible rfl)); (simp only [Act.put, List.setIfInBounds_toArray, List.set_cons_zero, List.set_cons_succ]))
    refine seq_opaque _ _ (by rfl) rfl ⟨_, rfl⟩ (by simp) (fun w5 hU hp K hK => ?_) ?_
    · have hs := FPt.chs (hp _ (.head _) (by kernel_rfl))
      clear hp
      go_simp
      refine (requal_any _ _ _ _ _ _ _ _ _ hs (HP0.out.ext hU.un) (by omega) (by omega)).mono ?_
      rintro e w6 ⟨rfl, h4⟩
      exact hK _ _ h4 (by simp) trivial
    rintro _ rfl
    simp only [Act.put, List.setIfInBounds_toArray, List.set_cons_zero, List.set_cons_succ]
    repeat ((refine seq_exact ?_ (by rfl) (by rfl) (fun w1 hU => ?_) ?_); (rotate_left 1); (focus (have h1 := (HO.out.ext hU.un).cell; have h2 := (HD1.out.ext hU.un).cell; have h3 := (HD2.out.ext hU.un).cell; clear hU; go_simp <;> with_reducible rfl)); (simp only [Act.put, List.setIfInBounds_toArray, List.set_cons_zero, List.set_cons_succ]))
    refine seq_opaque _ _ (by rfl) rfl ⟨_, rfl⟩ (by simp) (fun w5 hU hp K hK => ?_) ?_
    · clear hp
      go_simp
      refine (valid_any _ _ _ _ _ _ (HOC.out.ext hU.un) (by omega) HDP.out hn).mono ?_
      rw [HVN.out]
      rintro e w6 ⟨rfl, h4⟩
      exact hK _ _ h4 rfl trivial
    rintro _ rfl
    simp only [Act.put, List.setIfInBounds_toArray, List.set_cons_zero, List.set_cons_succ]
    repeat ((refine seq_exact ?_ (by rfl) (by rfl) (fun w1 hU => ?_) ?_); (rotate_left 1); (focus (have h1 := (HO.out.ext hU.un).cell; have h2 := (HD1.out.ext hU.un).cell; have h3 := (HD2.out.ext hU.un).cell; clear hU; go_simp <;> with_reducible rfl)); (simp only [Act.put, List.setIfInBounds_toArray, List.set_cons_zero, List.set_cons_succ]))
    refine seq_opaque _ _ (by rfl) rfl ⟨_, rfl⟩ (by simp) (fun w5 hU hp K hK => ?_) ?_
    · clear hp
      go_simp
      refine (rvalid3_any _ _ _ _ _ _ (HP0.out.ext hU.un) (by omega) HDP.out hn).mono ?_
      rw [HVN.out]
      rintro e w6 ⟨rfl, h4⟩
      exact hK _ _ h4 rfl trivial
    rintro _ rfl
    simp only [Act.put, List.setIfInBounds_toArray, List.set_cons_zero, List.set_cons_succ]
    repeat ((refine seq_exact ?_ (by rfl) (by rfl) (fun w1 hU => ?_) ?_); (rotate_left 1); (focus (have h1 := (HO.out.ext hU.un).cell; have h2 := (HD1.out.ext hU.un).cell; have h3 := (HD2.out.ext hU.un).cell; clear hU; go_simp <;> with_reducible rfl)); (simp only [Act.put, List.setIfInBounds_toArray, List.set_cons_zero, List.set_cons_succ]))
    refine seq_opaque _ _ (by rfl) rfl ⟨_, none, 0, rfl⟩ (by simp) (fun w5 hU hp K hK => ?_) ?_
    · clear hp
      go_simp
      refine (to_any _ _ _ _ _ (HQ0.out.ext hU.un) (by omega) HDQ.out).mono ?_
      rintro e w6 ⟨C', c', rfl, h3, h4⟩
      exact hK _ _ h4 ⟨C', c', rfl⟩ ⟨C', c', rfl, h3⟩
    rintro _ ⟨K2, q2, rfl⟩
    simp only [Act.put, List.setIfInBounds_toArray, List.set_cons_zero, List.set_cons_succ]
    refine seq_opaque _ _ (by rfl) rfl ⟨_, rfl⟩ (by simp) (fun w5 hU hp K hK => ?_) ?_
    · have hs := FPt.chs (hp _ (.head _) (by kernel_rfl))
      clear hp
      go_simp
      refine (pequal_any _ _ _ _ _ _ _ _ _ (HOC.out.ext hU.un) hs (by omega) (by omega)).mono ?_
      rw [HEE.out]
      rintro e w6 ⟨rfl, h4⟩
      exact hK _ _ h4 rfl trivial
    rintro _ rfl
    simp only [Act.put, List.setIfInBounds_toArray, List.set_cons_zero, List.set_cons_succ]
    repeat ((refine seq_exact ?_ (by rfl) (by rfl) (fun w1 hU => ?_) ?_); (rotate_left 1); (focus (have h1 := (HO.out.ext hU.un).cell; have h2 := (HD1.out.ext hU.un).cell; have h3 := (HD2.out.ext hU.un).cell; clear hU; go_simp <;> with_reducible rfl)); (simp only [Act.put, List.setIfInBounds_toArray, List.set_cons_zero, List.set_cons_succ]))
    refine seq_opaque _ _ (by rfl) rfl ⟨_, rfl⟩ (by simp) (fun w5 hU hp K hK => ?_) ?_
    · clear hp
      go_simp
      refine (requal_any _ _ _ _ _ _ _ _ _ (HP0.out.ext hU.un) (HQ0.out.ext hU.un) (by omega) (by omega)).mono ?_
      rw [HEE.out]
      rintro e w6 ⟨rfl, h4⟩
      exact hK _ _ h4 rfl trivial
    rintro _ rfl
    simp only [Act.put, List.setIfInBounds_toArray, List.set_cons_zero, List.set_cons_succ]
    repeat ((refine seq_exact ?_ (by rfl) (by rfl) (fun w1 hU => ?_) ?_); (rotate_left 1); (focus (go_simp <;> with_reducible rfl)); (simp only [Act.put, List.setIfInBounds_toArray, List.set_cons_zero, List.set_cons_succ]))
    intro W0 hW0 _
    simp only [List.drop_succ_cons, List.drop_zero]
    have HE9 := hide (HEX.out.trans hW0.un)
    clear hW0
    go_wp2_with fail
    go_ret
    exact ⟨ret_bool (by simp), HE9.out⟩
end Go.Proofs.Ytfcmngiekdhfpaa
