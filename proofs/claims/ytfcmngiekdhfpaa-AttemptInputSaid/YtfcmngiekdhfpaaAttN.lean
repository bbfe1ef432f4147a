/-
  The walk of AttemptInput.
-/
import Derived.Test.YtfcmngiekdhfpaaAttM
import Derived.Test.YtfcmngiekdhfpaaSeqH
namespace Go.Proofs.Ytfcmngiekdhfpaa
open Go.RowKit
set_option linter.unusedVariables false

theorem causeL_zero {p q : Out} (h : causeL p q true = 0) : p.img = q.img ∧ p.eff = q.eff := by
  unfold causeL at h
  split at h
  · cases h
  split at h
  · cases h
  split at h
  · cases h
  split at h
  · rename_i h'; cases h'
  split at h
  · cases h
  · rename_i h'
    simpa using h'

set_option maxRecDepth 100000 in
set_option maxHeartbeats 2000000 in
theorem input_law (o : Out) (I E A B C : Option Addr) (ci ce ca cb cc : Nat) (a b c : List UInt8) (k : Int) (w : World) (hi : Sl w I ci o.img) (hx : Sl w E ce o.eff) (ha : Sl w A ca a) (hb : Sl w B cb b) (hc : Sl w C cc c)
    (hl1 : o.img.length + o.eff.length ≤ 9223372036854775807) (hl : a.length + b.length + c.length ≤ 9223372036854775807) (hk : 0 ≤ k ∧ k ≤ 255) :
    Calls Try.prog 11 #[.agg #[.int .i64 o.fin, .int .i64 o.steps, .int .i64 o.err, .slice I o.img.length ci, .slice E o.eff.length ce], .agg #[.slice A a.length ca, .slice B b.length cb, .slice C c.length cc], .int .u8 k] w fun e w' => e = .returned (.bool true) ∧ Ext w w' := by
  obtain ⟨f, s, e, i, x⟩ := o
  simp only at hi hx hl1 ⊢
  obtain ⟨hk0, hk1⟩ := hk
  have hN := (Blk.new w 57 #[.int .i64 f, .int .i64 s, .int .i64 e, .slice I i.length ci, .slice E x.length ce]).alloc (.cells #[.slice A a.length ca, .slice B b.length cb, .slice C c.length cc] 51)
  have hS := Blk.new (w.alloc (.cells #[.int .i64 f, .int .i64 s, .int .i64 e, .slice I i.length ci, .slice E x.length ce] 57)) 51 #[.slice A a.length ca, .slice B b.length cb, .slice C c.length cc]
  have he := (Ext.alloc w (.cells #[.int .i64 f, .int .i64 s, .int .i64 e, .slice I i.length ci, .slice E x.length ce] 57)).alloc' (.cells #[.slice A a.length ca, .slice B b.length cb, .slice C c.length cc] 51)
  simp only [World.size_alloc] at hN hS
  have HN := hide hN
  have HS := hide hS
  have HX := hide he
  have HI := hide (hi.ext he)
  have HE := hide (hx.ext he)
  have HB := hide (hb.ext he)
  have HC := hide (hc.ext he)
  clear hN hS he ha hb hc hi hx
  go_enter Try.func11, Try.ntmps11
  go_wp2_with fail
  generalize hwb : (w.alloc (.cells #[.int .i64 f, .int .i64 s, .int .i64 e, .slice I i.length ci, .slice E x.length ce] 57)).alloc (.cells #[.slice A a.length ca, .slice B b.length cb, .slice C c.length cc] 51) = wb at *
  clear hwb
  refine (awake28_any _).mono ?_
  rintro ee w1 ⟨rfl, he⟩
  have HN := hide (HN.out.ext he)
  have HS := hide (HS.out.ext he)
  have HX := hide (HX.out.trans he)
  have HI := hide (HI.out.ext he)
  have HE := hide (HE.out.ext he)
  have HB := hide (HB.out.ext he)
  have HC := hide (HC.out.ext he)
  have hcN := HN.out.cell
  clear he
  go_wp2_with fail
  refine (few_any f s e I E ci ce i.length x.length (by omega) (by omega) hl1 _).mono ?_
  rintro ee w2 ⟨rfl, he⟩
  have HN := hide (HN.out.ext he)
  have HS := hide (HS.out.ext he)
  have HX := hide (HX.out.trans he)
  have HI := hide (HI.out.ext he)
  have HE := hide (HE.out.ext he)
  have HB := hide (HB.out.ext he)
  have HC := hide (HC.out.ext he)
  have hcS := HS.out.cell
  clear he hcN
  by_cases hfew : i.length + x.length ≤ 400
  rotate_left
  · go_wp2_with fail
    go_ret
    exact ⟨rfl, HX.out⟩
  by_cases hbig : 400 < a.length + b.length + c.length
  · have hb' : (400 : Int) < (a.length : Int) + b.length + c.length := by omega
    go_wp2_with fail
    go_ret
    exact ⟨rfl, HX.out⟩
  have hb' : ¬ (400 : Int) < (a.length : Int) + b.length + c.length := by omega
  go_wp2_with fail
  refine (normal_any _ _ _ a.length _ _ _ b c 1 _ (by omega) HB.out HC.out (by omega) (by omega) (by omega)).mono ?_
  rintro ee w3 ⟨u, rfl, hu, he⟩
  obtain ⟨st, hst⟩ : ∃ st, costN a.length b.length 1 = st := ⟨_, rfl⟩
  rw [hst] at hu
  clear hst
  obtain ⟨I0, ci0, E0, ce0, rfl, s1, s2⟩ := hu
  simp only at s1 s2
  have HO : Hid (OutV ⟨0, st, 0, b, c⟩ (.agg #[.int .i64 0, .int .i64 st, .int .i64 0, .slice I0 b.length ci0, .slice E0 c.length ce0]) (w3.alloc (.cells #[.int .i64 0, .int .i64 st, .int .i64 0, .slice I0 b.length ci0, .slice E0 c.length ce0] 53))) := ⟨I0, ci0, E0, ce0, rfl, s1.ext (Ext.alloc w3 _), s2.ext (Ext.alloc w3 _)⟩
  have HBO := hide (Blk.new w3 53 #[.int .i64 0, .int .i64 st, .int .i64 0, .slice I0 b.length ci0, .slice E0 c.length ce0])
  have he3 := he.trans (Ext.alloc w3 (.cells #[.int .i64 0, .int .i64 st, .int .i64 0, .slice I0 b.length ci0, .slice E0 c.length ce0] 53))
  have HN := hide (HN.out.ext he3)
  have HS := hide (HS.out.ext he3)
  have HX := hide (HX.out.trans he3)
  have HI := hide (HI.out.ext he3)
  have HE := hide (HE.out.ext he3)
  have HB := hide (HB.out.ext he3)
  have HC := hide (HC.out.ext he3)
  clear he he3 s1 s2 hcS
  simp only
  go_wp2_with fail
  generalize hwc : w3.alloc (.cells #[.int .i64 0, .int .i64 st, .int .i64 0, .slice I0 b.length ci0, .slice E0 c.length ce0] 53) = w4 at *
  clear hwc
  have hcO := (HBO.out.ext (Ext.refl w4).drew).cell
  refine wp_region_pull 5 3 [(1, ShOut ⟨f, s, e, i, x⟩, OutV ⟨f, s, e, i, x⟩), (3, ShPtr, FNew w4 53 #[.int .i64 0, .int .i64 0, .int .i64 0, .slice none 0 0, .slice none 0 0]), (4, ShPtr, FNew w4 53 #[.int .i64 0, .int .i64 0, .int .i64 0, .slice none 0 0, .slice none 0 0])] [3, 4] 2 (.agg #[.int .i64 0, .int .i64 st, .int .i64 0, .slice I0 b.length ci0, .slice E0 c.length ce0]) (by rfl) (by rfl) (by omega) mixed (by kernel_rfl)
    ⟨fun _ _ _ h hx => h.ext hx, fun _ _ _ h hx => h.ext hx, fun _ _ _ h hx => h.ext hx, trivial⟩ (fun i hi => ?_) (by kernel_rfl) (by kernel_rfl) (by kernel_rfl) (by kernel_rfl) rfl (by rfl) (fun w5 hU => ?_) ?_
  · have : i = 3 ∨ i = 4 := by simpa using hi
    rcases this with rfl | rfl
    · exact ⟨_, _, rfl, FNew.old⟩
    · exact ⟨_, _, rfl, FNew.old⟩
  · have h6 := (HBO.out.ext hU.un).cell
    clear hU
    go_simp
  repeat ((refine seq_exact ?_ (by rfl) (by rfl) (fun w1 hU => ?_) ?_); (rotate_left 1); (focus (have h4 := (HN.out.ext hU.un).cell; have h6 := (HBO.out.ext hU.un).cell; clear hU; go_simp <;> with_reducible rfl)); (simp only [Act.put, List.setIfInBounds_toArray, List.set_cons_zero, List.set_cons_succ]))
  refine seq_opaque _ _ (by rfl) rfl ⟨_, none, 0, none, 0, rfl⟩ (by simp) (fun w5 hU hp K hK => ?_) ?_
  · have hn := to27_any ⟨f, s, e, i, x⟩ _ w5 ⟨I, ci, E, ce, rfl, HI.out.ext hU.un, HE.out.ext hU.un⟩ (by simp only; omega) (by simp only; omega)
    go_simp
    refine hn.mono ?_
    rintro ee w6 ⟨u, rfl, h1, h2⟩
    exact hK _ _ h2 h1.sh h1
  rintro _ ⟨I1, ci1, E1, ce1, rfl⟩
  simp only [Act.put, List.setIfInBounds_toArray, List.set_cons_zero, List.set_cons_succ]
  repeat ((refine seq_exact ?_ (by rfl) (by rfl) (fun w1 hU => ?_) ?_); (rotate_left 1); (focus (have h4 := (HN.out.ext hU.un).cell; have h6 := (HBO.out.ext hU.un).cell; clear hU; go_simp <;> with_reducible rfl)); (simp only [Act.put, List.setIfInBounds_toArray, List.set_cons_zero, List.set_cons_succ]))
  refine seq_new _ _ (by rfl) rfl ⟨_, 0, rfl⟩ (by simp) (fun w5 hU hp K hK => ?_) ?_
  · have hz := Ext.size hU.un
    go_simp
    exact hK _ _ (Ext.alloc w5 _) ⟨_, rfl⟩ ⟨_, rfl, hz, Blk.new w5 _ _⟩ (new_pB rfl)
  rintro _ ⟨g1, rfl⟩
  simp only [Act.put, List.setIfInBounds_toArray, List.set_cons_zero, List.set_cons_succ]
  refine seq_new _ _ (by rfl) rfl ⟨_, 0, rfl⟩ (by simp) (fun w5 hU hp K hK => ?_) ?_
  · have hz := Ext.size hU.un
    go_simp
    exact hK _ _ (Ext.alloc w5 _) ⟨_, rfl⟩ ⟨_, rfl, hz, Blk.new w5 _ _⟩ (new_pB rfl)
  rintro _ ⟨g2, rfl⟩
  simp only [Act.put, List.setIfInBounds_toArray, List.set_cons_zero, List.set_cons_succ]
  intro w7 hw7 hp hpair
  have hne : g1 ≠ g2 := ptr_ne (hpair 3 4 _ _ _ _ trivial trivial (by omega) (by omega) rfl rfl rfl rfl rfl rfl (by omega) (by rfl) (by rfl))
  have p7 := hp _ (.head _)
  have p6 := hp _ (.tail _ (.head _))
  have p2 := hp _ (.tail _ (.tail _ (.head _)))
  clear hp hpair
  obtain ⟨z1, b1⟩ := FNew.at_ p6
  obtain ⟨z2, b2⟩ := FNew.at_ p7
  clear p6 p7
  simp only [List.drop_succ_cons, List.drop_zero]
  have hne2 : g2 ≠ g1 := fun e => hne e.symm
  have p5 := HO.out.ext hw7.un
  have c1 := b1.put5 (.int .i64 f) (.int .i64 s) (.int .i64 e) (.slice I1 i.length ci1) (.slice E1 x.length ce1)
  have c2 := b2.put5_far hne2 (.int .i64 f) (.int .i64 s) (.int .i64 e) (.slice I1 i.length ci1) (.slice E1 x.length ce1)
  have r0 := p2.put5 b1 (by simp [noByte]) (.int .i64 f) (.int .i64 s) (.int .i64 e) (.slice I1 i.length ci1) (.slice E1 x.length ce1)
  have r1 := p5.put5 b1 (by simp [noByte]) (.int .i64 f) (.int .i64 s) (.int .i64 e) (.slice I1 i.length ci1) (.slice E1 x.length ce1)
  have x1 := (Ext.un hw7).put5 z1 (.int .i64 f) (.int .i64 s) (.int .i64 e) (.slice I1 i.length ci1) (.slice E1 x.length ce1)
  have HT1 := hide (Ext.put5 hw7 (g := g1) z1 (.int .i64 f) (.int .i64 s) (.int .i64 e) (.slice I1 i.length ci1) (.slice E1 x.length ce1))
  have HT2 := hide ((Ext.put5 hw7 (g := g1) z1 (.int .i64 f) (.int .i64 s) (.int .i64 e) (.slice I1 i.length ci1) (.slice E1 x.length ce1)).put5 (g := g2) z2 (.int .i64 0) (.int .i64 st) (.int .i64 0) (.slice I0 b.length ci0) (.slice E0 c.length ce0))
  have d1 := c1.put5_far hne (.int .i64 0) (.int .i64 st) (.int .i64 0) (.slice I0 b.length ci0) (.slice E0 c.length ce0)
  have d2 := c2.put5 (.int .i64 0) (.int .i64 st) (.int .i64 0) (.slice I0 b.length ci0) (.slice E0 c.length ce0)
  have r0 := r0.put5 c2 (by simp [noByte]) (.int .i64 0) (.int .i64 st) (.int .i64 0) (.slice I0 b.length ci0) (.slice E0 c.length ce0)
  have r1 := r1.put5 c2 (by simp [noByte]) (.int .i64 0) (.int .i64 st) (.int .i64 0) (.slice I0 b.length ci0) (.slice E0 c.length ce0)
  have x2 := x1.put5 z2 (.int .i64 0) (.int .i64 st) (.int .i64 0) (.slice I0 b.length ci0) (.slice E0 c.length ce0)
  have hcc1 := b1.cell
  have hff1 := b1.frozen
  have hcc2 := c2.cell
  have hff2 := c2.frozen
  have HD1 := hide d1
  have HD2 := hide d2
  have HR0 := hide r0
  have HR1 := hide r1
  have HX2 := hide x2
  have HP := hide (causeL_zero (p := ⟨f, s, e, i, x⟩) (q := ⟨0, st, 0, b, c⟩))
  have HQ := hide (causeL_zero (q := ⟨f, s, e, i, x⟩) (p := ⟨0, st, 0, b, c⟩))
  unfold w5 at HD1 HD2 HR0 HR1 HX2 hcc2 hff2 HT1 HT2
  clear b1 b2 c1 c2 d1 d2 r0 r1 x1 x2 p2 p5 hw7 HO HI HE
  refine tailS_step (by rfl) (by simp) (fun K hK => ?_)
  go_simp
  refine hK _ _ ?_ ?_
  · exact HT1.out
  clear hK
  refine tailS_step (by rfl) (by simp) (fun K hK => ?_)
  go_simp
  refine hK _ _ ?_ ?_
  · exact HT2.out
  clear hK
  refine tailS_nil ?_
  generalize hwe : ((((((((((w7.setCell ⟨g1, 0, none⟩ (.int .i64 f)).setCell ⟨g1, 1, none⟩ (.int .i64 s)).setCell ⟨g1, 2, none⟩ (.int .i64 e)).setCell ⟨g1, 3, none⟩ (.slice I1 i.length ci1)).setCell ⟨g1, 4, none⟩ (.slice E1 x.length ce1)).setCell ⟨g2, 0, none⟩ (.int .i64 0)).setCell ⟨g2, 1, none⟩ (.int .i64 st)).setCell ⟨g2, 2, none⟩ (.int .i64 0)).setCell ⟨g2, 3, none⟩ (.slice I0 b.length ci0)).setCell ⟨g2, 4, none⟩ (.slice E0 c.length ce0)) = we at *
  clear hwe hcc1 hff1 hcc2 hff2 HT1 HT2 hcO
  have hl1' : (0 : Int) ≤ k := hk0
  have hcD1 := HD1.out.cell
  have hcD2 := HD2.out.cell
  have hfD1 := HD1.out.frozen
  have hfD2 := HD2.out.frozen
  by_cases hkk : k % 2 = 1
  · have hk2 : (k % 2 == 1) = true := by simpa using hkk
    clear hkk
    go_wp2_with fail
    have HX2 := hide ((HX2.out.put5 (g := g1) z1 (.int .i64 0) (.int .i64 st) (.int .i64 0) (.slice I0 b.length ci0) (.slice E0 c.length ce0)).put5 (g := g2) z2 (.int .i64 f) (.int .i64 s) (.int .i64 e) (.slice I1 i.length ci1) (.slice E1 x.length ce1))
    have f1 := HD1.out.put5 (.int .i64 0) (.int .i64 st) (.int .i64 0) (.slice I0 b.length ci0) (.slice E0 c.length ce0)
    have f2 := HD2.out.put5_far hne2 (.int .i64 0) (.int .i64 st) (.int .i64 0) (.slice I0 b.length ci0) (.slice E0 c.length ce0)
    have r0 := HR0.out.put5 HD1.out (by simp [noByte]) (.int .i64 0) (.int .i64 st) (.int .i64 0) (.slice I0 b.length ci0) (.slice E0 c.length ce0)
    have r1 := HR1.out.put5 HD1.out (by simp [noByte]) (.int .i64 0) (.int .i64 st) (.int .i64 0) (.slice I0 b.length ci0) (.slice E0 c.length ce0)
    have r0 := r0.put5 f2 (by simp [noByte]) (.int .i64 f) (.int .i64 s) (.int .i64 e) (.slice I1 i.length ci1) (.slice E1 x.length ce1)
    have r1 := r1.put5 f2 (by simp [noByte]) (.int .i64 f) (.int .i64 s) (.int .i64 e) (.slice I1 i.length ci1) (.slice E1 x.length ce1)
    have HD1 := hide (f1.put5_far hne (.int .i64 f) (.int .i64 s) (.int .i64 e) (.slice I1 i.length ci1) (.slice E1 x.length ce1))
    have HD2 := hide (f2.put5 (.int .i64 f) (.int .i64 s) (.int .i64 e) (.slice I1 i.length ci1) (.slice E1 x.length ce1))
    have HR0 := hide r0
    have HR1 := hide r1
    unfold w5 at HD1 HD2 HR0 HR1 HX2
    clear f1 f2 r0 r1 hcD1 hcD2 hfD1 hfD2
    generalize hwf : ((((((((((we.setCell ⟨g1, 0, none⟩ (.int .i64 0)).setCell ⟨g1, 1, none⟩ (.int .i64 st)).setCell ⟨g1, 2, none⟩ (.int .i64 0)).setCell ⟨g1, 3, none⟩ (.slice I0 b.length ci0)).setCell ⟨g1, 4, none⟩ (.slice E0 c.length ce0)).setCell ⟨g2, 0, none⟩ (.int .i64 f)).setCell ⟨g2, 1, none⟩ (.int .i64 s)).setCell ⟨g2, 2, none⟩ (.int .i64 e)).setCell ⟨g2, 3, none⟩ (.slice I1 i.length ci1)).setCell ⟨g2, 4, none⟩ (.slice E1 x.length ce1)) = wf at *
    clear hwf
    obtain ⟨z, hz⟩ : ∃ z, causeL ⟨0, st, 0, b, c⟩ ⟨f, s, e, i, x⟩ true = z := ⟨_, rfl⟩
    have HZ := hide hz
    have hjd := judge_any ⟨0, st, 0, b, c⟩ ⟨f, s, e, i, x⟩ _ _ true wf HR1.out HR0.out
    rw [hz] at hjd
    clear hz
    refine hjd.mono ?_
    clear hjd
    rintro ee w9 ⟨rfl, he⟩
    generalize wrap64 (wrap64 _ + 1) = sm
    have HV := hide (Blk.new w9 66 #[.int .i64 z, .int .i64 sm])
    have he := he.trans (Ext.alloc w9 (.cells #[.int .i64 z, .int .i64 sm] 66))
    have he2 := HX2.out.trans he
    have hcD := (HD1.out.ext he).cell
    have hcS := (HS.out.ext he2).cell
    have hcV := HV.out.cell
    have hsb := ((HB.out.ext he2).convert (P := Try.prog) (src := 22) (dst := 9) Try.underlying22 Try.underlying5 Try.underlying9)
    have hsc := ((HC.out.ext he2).convert (P := Try.prog) (src := 22) (dst := 9) Try.underlying22 Try.underlying5 Try.underlying9)
    have HX := hide (HX.out.trans he2)
    have zer : z = 0 → ((Go.convert 22 9 (.slice I0 b.length ci0)).run Try.prog (w9.alloc (.cells #[.int .i64 z, .int .i64 sm] 66)) = .ok (.string (str b)) (w9.alloc (.cells #[.int .i64 z, .int .i64 sm] 66))) ∧ ((Go.convert 22 9 (.slice E0 c.length ce0)).run Try.prog (w9.alloc (.cells #[.int .i64 z, .int .i64 sm] 66)) = .ok (.string (str c)) (w9.alloc (.cells #[.int .i64 z, .int .i64 sm] 66))) := by
      intro h0
      obtain ⟨e1, e2⟩ := HQ.out (HZ.out.trans h0)
      obtain ⟨_, _, _, _, _, s1, s2⟩ := OutV.cast (HR1.out.ext he)
      simp only at e1 e2 s1 s2
      refine ⟨?_, ?_⟩
      · exact s1.convert Try.underlying22 Try.underlying5 Try.underlying9
      · exact s2.convert Try.underlying22 Try.underlying5 Try.underlying9
    have HZZ := hide zer
    clear he he2 zer hb' hbig hl hl1
    by_cases hz : z = 0
    · obtain ⟨y1, y2⟩ := HZZ.out hz
      clear HZZ HZ
      subst hz
      go_wp2_with fail
      go_ret
      exact ⟨ret_bool (by simp), HX.out⟩
    · have hz1 : (z == 0) = false := by simpa using hz
      have hz2 : (z != 0) = true := by simpa using hz
      clear HZZ HZ hz hsb hsc
      go_wp2_with fail
      go_ret
      exact ⟨rfl, HX.out⟩
  · have hk2 : (k % 2 == 1) = false := by simpa using hkk
    clear hkk
    go_wp2_with fail
    obtain ⟨z, hz⟩ : ∃ z, causeL ⟨f, s, e, i, x⟩ ⟨0, st, 0, b, c⟩ true = z := ⟨_, rfl⟩
    have HZ := hide hz
    have hjd := judge_any ⟨f, s, e, i, x⟩ ⟨0, st, 0, b, c⟩ _ _ true we HR0.out HR1.out
    rw [hz] at hjd
    clear hz
    refine hjd.mono ?_
    clear hjd
    rintro ee w9 ⟨rfl, he⟩
    generalize wrap64 (wrap64 _ + 1) = sm
    have HV := hide (Blk.new w9 66 #[.int .i64 z, .int .i64 sm])
    have he := he.trans (Ext.alloc w9 (.cells #[.int .i64 z, .int .i64 sm] 66))
    have he2 := HX2.out.trans he
    have hcD := (HD1.out.ext he).cell
    have hcS := (HS.out.ext he2).cell
    have hcV := HV.out.cell
    have hsb := ((HB.out.ext he2).convert (P := Try.prog) (src := 22) (dst := 9) Try.underlying22 Try.underlying5 Try.underlying9)
    have hsc := ((HC.out.ext he2).convert (P := Try.prog) (src := 22) (dst := 9) Try.underlying22 Try.underlying5 Try.underlying9)
    have HX := hide (HX.out.trans he2)
    have zer : z = 0 → ((Go.convert 22 9 (.slice I1 i.length ci1)).run Try.prog (w9.alloc (.cells #[.int .i64 z, .int .i64 sm] 66)) = .ok (.string (str b)) (w9.alloc (.cells #[.int .i64 z, .int .i64 sm] 66))) ∧ ((Go.convert 22 9 (.slice E1 x.length ce1)).run Try.prog (w9.alloc (.cells #[.int .i64 z, .int .i64 sm] 66)) = .ok (.string (str c)) (w9.alloc (.cells #[.int .i64 z, .int .i64 sm] 66))) := by
      intro h0
      obtain ⟨e1, e2⟩ := HP.out (HZ.out.trans h0)
      obtain ⟨_, _, _, _, _, s1, s2⟩ := OutV.cast (HR0.out.ext he)
      simp only at e1 e2 s1 s2
      refine ⟨?_, ?_⟩
      · rw [← e1]; exact s1.convert Try.underlying22 Try.underlying5 Try.underlying9
      · rw [← e2]; exact s2.convert Try.underlying22 Try.underlying5 Try.underlying9
    have HZZ := hide zer
    clear he he2 zer hb' hbig hl hl1
    by_cases hz : z = 0
    · obtain ⟨y1, y2⟩ := HZZ.out hz
      clear HZZ HZ
      subst hz
      go_wp2_with fail
      go_ret
      exact ⟨ret_bool (by simp), HX.out⟩
    · have hz1 : (z == 0) = false := by simpa using hz
      have hz2 : (z != 0) = true := by simpa using hz
      clear HZZ HZ hz hsb hsc
      go_wp2_with fail
      go_ret
      exact ⟨rfl, HX.out⟩

end Go.Proofs.Ytfcmngiekdhfpaa
