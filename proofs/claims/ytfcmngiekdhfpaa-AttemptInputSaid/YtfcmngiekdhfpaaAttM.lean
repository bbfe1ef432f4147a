/-
  The walk of AttemptOne.
-/
import Derived.Test.YtfcmngiekdhfpaaPlainB
import Derived.Outline
import Derived.Test.YtfcmngiekdhfpaaAttL
namespace Go.Proofs.Ytfcmngiekdhfpaa
open Go.RowKit
set_option linter.unusedVariables false

theorem ptr_ne {g h : Nat} (k : ∀ x, pB (.pointer (some ⟨g, 0, none⟩)) = some x → pB (.pointer (some ⟨h, 0, none⟩)) ≠ some x) : g ≠ h := fun e => by
  subst e
  exact k g rfl rfl
def FNew (w0 : World) (t : TypeId) (cs : Array Value) (v : Value) (w : World) : Prop := ∃ g, v = .pointer (some ⟨g, 0, none⟩) ∧ w0.heap.size ≤ g ∧ Blk w g t cs
theorem FNew.ext {w0 : World} {t : TypeId} {cs : Array Value} {v : Value} {w w' : World} (h : FNew w0 t cs v w) (he : Ext w w') : FNew w0 t cs v w' := let ⟨g, h1, h2, h3⟩ := h; ⟨g, h1, h2, h3.ext he⟩
theorem FNew.old {w0 : World} {t : TypeId} {cs : Array Value} : ∀ (v : Value) (w : World), FNew w0 t cs v w → ∀ g, pB v = some g → g < w.heap.size := fun v w ⟨g, h1, _, h3⟩ k hk => by
  subst h1
  injection hk with hk
  subst hk
  exact h3.lt
theorem FNew.at_ {w0 w : World} {t : TypeId} {cs : Array Value} {g : Nat} (h : FNew w0 t cs (.pointer (some ⟨g, 0, none⟩)) w) : w0.heap.size ≤ g ∧ Blk w g t cs := by
  obtain ⟨k, h1, h2, h3⟩ := h
  injection h1 with h1
  injection h1 with h1
  injection h1 with h1
  subst h1
  exact ⟨h2, h3⟩
/-- The ways through the choice of AttemptOne. -/
theorem want_ways (x : Pl) (st : Int) (b c : List UInt8) :
    (validPl x = false ∧ wantL x st b c = 0) ∨
    (validPl x = true ∧ (x.k == 1) = true ∧ x.s < st ∧ wantL x st b c = 1) ∨
    (validPl x = true ∧ (x.k == 1) = true ∧ (x.k == 2) = false ∧ (x.k == 3) = false ∧ (x.k == 6) = false ∧ (x.k == 7) = false ∧ ¬ x.s < st ∧ wantL x st b c = 0) ∨
    (validPl x = true ∧ (x.k == 1) = false ∧ (x.k == 2) = true ∧ x.s < st ∧ wantL x st b c = 2) ∨
    (validPl x = true ∧ (x.k == 1) = false ∧ (x.k == 2) = true ∧ (x.k == 3) = false ∧ (x.k == 6) = false ∧ (x.k == 7) = false ∧ ¬ x.s < st ∧ wantL x st b c = 0) ∨
    (validPl x = true ∧ (x.k == 1) = false ∧ (x.k == 2) = false ∧ (x.k == 3) = true ∧ x.s < st ∧ wantL x st b c = 3) ∨
    (validPl x = true ∧ (x.k == 1) = false ∧ (x.k == 2) = false ∧ (x.k == 3) = true ∧ (x.k == 6) = false ∧ (x.k == 7) = false ∧ ¬ x.s < st ∧ wantL x st b c = 0) ∨
    (validPl x = true ∧ (x.k == 1) = false ∧ (x.k == 2) = false ∧ (x.k == 3) = false ∧ (x.k == 6) = true ∧ 0 < b.length ∧ wantL x st b c = 5) ∨
    (validPl x = true ∧ (x.k == 1) = false ∧ (x.k == 2) = false ∧ (x.k == 3) = false ∧ (x.k == 6) = true ∧ (x.k == 7) = false ∧ ¬ 0 < b.length ∧ wantL x st b c = 0) ∨
    (validPl x = true ∧ (x.k == 1) = false ∧ (x.k == 2) = false ∧ (x.k == 3) = false ∧ (x.k == 6) = false ∧ (x.k == 7) = true ∧ 0 < c.length ∧ wantL x st b c = 5) ∨
    (validPl x = true ∧ (x.k == 1) = false ∧ (x.k == 2) = false ∧ (x.k == 3) = false ∧ (x.k == 6) = false ∧ (x.k == 7) = true ∧ ¬ 0 < c.length ∧ wantL x st b c = 0) ∨
    (validPl x = true ∧ (x.k == 1) = false ∧ (x.k == 2) = false ∧ (x.k == 3) = false ∧ (x.k == 6) = false ∧ (x.k == 7) = false ∧ wantL x st b c = 0) := by
  unfold wantL
  cases validPl x
  · exact .inl ⟨rfl, rfl⟩
  · simp only [beq_iff_eq, beq_eq_false_iff_ne]
    by_cases k1 : x.k = 1
    · by_cases hs : x.s < st
      · exact .inr (.inl ⟨by trivial, k1, hs, by simp [k1, hs]⟩)
      · exact .inr (.inr (.inl ⟨by trivial, k1, by omega, by omega, by omega, by omega, hs, by simp [k1, hs]⟩))
    by_cases k2 : x.k = 2
    · by_cases hs : x.s < st
      · exact .inr (.inr (.inr (.inl ⟨by trivial, k1, k2, hs, by simp [k2, hs]⟩)))
      · exact .inr (.inr (.inr (.inr (.inl ⟨by trivial, k1, k2, by omega, by omega, by omega, hs, by simp [k2, hs]⟩))))
    by_cases k3 : x.k = 3
    · by_cases hs : x.s < st
      · exact .inr (.inr (.inr (.inr (.inr (.inl ⟨by trivial, k1, k2, k3, hs, by simp [k3, hs]⟩)))))
      · exact .inr (.inr (.inr (.inr (.inr (.inr (.inl ⟨by trivial, k1, k2, k3, by omega, by omega, hs, by simp [k3, hs]⟩))))))
    by_cases k6 : x.k = 6
    · by_cases hs : 0 < b.length
      · exact .inr (.inr (.inr (.inr (.inr (.inr (.inr (.inl ⟨by trivial, k1, k2, k3, k6, hs, by simp [k6]; exact List.length_pos_iff.1 hs⟩)))))))
      · exact .inr (.inr (.inr (.inr (.inr (.inr (.inr (.inr (.inl ⟨by trivial, k1, k2, k3, k6, by omega, hs, by have : b = [] := List.eq_nil_of_length_eq_zero (by omega); simp [k6, this]⟩))))))))
    by_cases k7 : x.k = 7
    · by_cases hs : 0 < c.length
      · exact .inr (.inr (.inr (.inr (.inr (.inr (.inr (.inr (.inr (.inl ⟨by trivial, k1, k2, k3, k6, k7, hs, by simp [k7]; exact List.length_pos_iff.1 hs⟩)))))))))
      · exact .inr (.inr (.inr (.inr (.inr (.inr (.inr (.inr (.inr (.inr (.inl ⟨by trivial, k1, k2, k3, k6, k7, hs, by have : c = [] := List.eq_nil_of_length_eq_zero (by omega); simp [k7, this]⟩))))))))))
    · exact .inr (.inr (.inr (.inr (.inr (.inr (.inr (.inr (.inr (.inr (.inr ⟨by trivial, k1, k2, k3, k6, k7, by simp [k1, k2, k3, k6, k7]⟩))))))))))
def ShPtr (v : Value) : Prop := ∃ g, v = .pointer (some ⟨g, 0, none⟩)
theorem new_pB {w : World} {n : Nat} (h : w.heap.size = n) : ∀ g, pB (.pointer (some ⟨n, 0, none⟩)) = some g → w.heap.size ≤ g := fun g hg => by
  have hg : some n = some g := hg
  injection hg with hg
  omega

set_option maxRecDepth 100000 in
set_option maxHeartbeats 4000000 in
theorem one_law (x : Pl) (A B C : Option Addr) (ca cb cc : Nat) (a b c : List UInt8) (w : World) (ha : Sl w A ca a) (hb : Sl w B cb b) (hc : Sl w C cc c) (hl : a.length + b.length + c.length ≤ 9223372036854775807) :
    Calls Try.prog 10 #[.agg #[.int .i64 x.c, .int .i64 x.n, .int .i64 x.e, .int .i64 x.k, .int .i64 x.s, .int .i64 x.p, .int .i64 x.m], .agg #[.slice A a.length ca, .slice B b.length cb, .slice C c.length cc]] w fun e w' => e = .returned (.bool true) ∧ Ext w w' := by
  have HPL := hide (one_plain x)
  have HRV := hide (rvalid_any x)
  have HOUT := hide (output_any x)
  have hN := (Blk.new w 62 #[.int .i64 x.c, .int .i64 x.n, .int .i64 x.e, .int .i64 x.k, .int .i64 x.s, .int .i64 x.p, .int .i64 x.m]).alloc (.cells #[.slice A a.length ca, .slice B b.length cb, .slice C c.length cc] 51)
  have hS := Blk.new (w.alloc (.cells #[.int .i64 x.c, .int .i64 x.n, .int .i64 x.e, .int .i64 x.k, .int .i64 x.s, .int .i64 x.p, .int .i64 x.m] 62)) 51 #[.slice A a.length ca, .slice B b.length cb, .slice C c.length cc]
  have he := (Ext.alloc w (.cells #[.int .i64 x.c, .int .i64 x.n, .int .i64 x.e, .int .i64 x.k, .int .i64 x.s, .int .i64 x.p, .int .i64 x.m] 62)).alloc' (.cells #[.slice A a.length ca, .slice B b.length cb, .slice C c.length cc] 51)
  simp only [World.size_alloc] at hN hS
  have HN := hide hN
  have HS := hide hS
  have HX := hide he
  have HA := hide (ha.ext he)
  have HB := hide (hb.ext he)
  have HC := hide (hc.ext he)
  clear hN hS he ha hb hc
  go_enter Try.func10, Try.ntmps10
  go_wp2_with fail
  generalize hwb : (w.alloc (.cells #[.int .i64 x.c, .int .i64 x.n, .int .i64 x.e, .int .i64 x.k, .int .i64 x.s, .int .i64 x.p, .int .i64 x.m] 62)).alloc (.cells #[.slice A a.length ca, .slice B b.length cb, .slice C c.length cc] 51) = wb at *
  clear hwb
  refine (awake28_any _).mono ?_
  rintro e w1 ⟨rfl, he⟩
  have HN := hide (HN.out.ext he)
  have HS := hide (HS.out.ext he)
  have HX := hide (HX.out.trans he)
  have HA := hide (HA.out.ext he)
  have HB := hide (HB.out.ext he)
  have HC := hide (HC.out.ext he)
  clear he
  go_wp2_with fail
  refine wp_region_ext 9 3 [] mixed (by kernel_rfl) trivial ?_
  repeat ((refine seq_exact ?_ (by rfl) (by rfl) (fun w1 hU => ?_) ?_); (rotate_left 1); (focus (have h5 := (HS.out.ext hU.un).cell; clear hU; go_simp; with_reducible rfl)); (simp only [Act.put, List.setIfInBounds_toArray, List.set_cons_zero, List.set_cons_succ]))
  intro w2 hw2 _
  simp only [List.drop_succ_cons, List.drop_nil]
  have he := hw2.un
  have HN := hide (HN.out.ext he)
  have HS := hide (HS.out.ext he)
  have HX := hide (HX.out.trans he)
  have HA := hide (HA.out.ext he)
  have HB := hide (HB.out.ext he)
  have HC := hide (HC.out.ext he)
  clear he hw2
  by_cases hbig : 400 < a.length + b.length + c.length
  · have hb' : (400 : Int) < (a.length : Int) + b.length + c.length := by omega
    go_wp2_with fail
    go_ret
    exact ⟨rfl, HX.out⟩
  have hb' : ¬ (400 : Int) < (a.length : Int) + b.length + c.length := by omega
  have hcN := HN.out.cell
  go_wp2_with fail
  refine (normal_any _ _ _ a.length _ _ _ b c 1 _ (by omega) HB.out HC.out (by omega) (by omega) (by omega)).mono ?_
  rintro e w3 ⟨u, rfl, hu, he⟩
  have hcost : 0 ≤ costN a.length b.length 1 ∧ costN a.length b.length 1 ≤ 4000 := by
    unfold costN cnt
    split <;> split <;> omega
  obtain ⟨st, hst⟩ : ∃ st, costN a.length b.length 1 = st := ⟨_, rfl⟩
  rw [hst] at hu hcost
  obtain ⟨hc0, hc1⟩ := hcost
  clear hst
  obtain ⟨hcause, hstay⟩ := HPL.out st b c hc0 hc1
  generalize hO0 : outL x 0 ⟨0, st, 0, b, c⟩ = o0 at *
  generalize hO1 : outL x 1 ⟨0, st, 0, b, c⟩ = o1 at *
  have HO0 := hide hO0
  have HO1 := hide hO1
  have HCA := hide hcause
  have HST := hide hstay
  obtain ⟨I, ci, E, ce, rfl, s1, s2⟩ := hu
  simp only at s1 s2
  have HO : Hid (OutV ⟨0, st, 0, b, c⟩ (.agg #[.int .i64 0, .int .i64 st, .int .i64 0, .slice I b.length ci, .slice E c.length ce]) (w3.alloc (.cells #[.int .i64 0, .int .i64 st, .int .i64 0, .slice I b.length ci, .slice E c.length ce] 53))) := ⟨I, ci, E, ce, rfl, s1.ext (Ext.alloc w3 _), s2.ext (Ext.alloc w3 _)⟩
  have HBO := hide (Blk.new w3 53 #[.int .i64 0, .int .i64 st, .int .i64 0, .slice I b.length ci, .slice E c.length ce])
  have he3 := he.trans (Ext.alloc w3 (.cells #[.int .i64 0, .int .i64 st, .int .i64 0, .slice I b.length ci, .slice E c.length ce] 53))
  have HN := hide (HN.out.ext he3)
  have HX := hide (HX.out.trans he3)
  have HB := hide (HB.out.ext he3)
  have HC := hide (HC.out.ext he3)
  clear he he3 s1 s2 hcN hcause hstay hO0 hO1 HPL HA HS
  simp only
  go_wp2_with fail
  generalize hwc : w3.alloc (.cells #[.int .i64 0, .int .i64 st, .int .i64 0, .slice I b.length ci, .slice E c.length ce] 53) = w4 at *
  clear hwc
  refine wp_region_new 8 3 [(2, ShOut o0, OutV o0), (5, ShOut o1, OutV o1), (6, ShPtr, FNew w4 53 #[.int .i64 0, .int .i64 0, .int .i64 0, .slice none 0 0, .slice none 0 0]), (7, ShPtr, FNew w4 53 #[.int .i64 0, .int .i64 0, .int .i64 0, .slice none 0 0, .slice none 0 0])] [6, 7] mixed (by kernel_rfl)
    ⟨fun _ _ _ h hx => h.ext hx, fun _ _ _ h hx => h.ext hx, fun _ _ _ h hx => h.ext hx, fun _ _ _ h hx => h.ext hx, trivial⟩ (fun i hi => ?_) ?_
  · have : i = 6 ∨ i = 7 := by simpa using hi
    rcases this with rfl | rfl
    · exact ⟨_, _, rfl, FNew.old⟩
    · exact ⟨_, _, rfl, FNew.old⟩
  repeat ((refine seq_exact ?_ (by rfl) (by rfl) (fun w1 hU => ?_) ?_); (rotate_left 1); (focus (have h4 := (HN.out.ext hU.un).cell; have h6 := (HBO.out.ext hU.un).cell; clear hU; go_simp; with_reducible rfl)); (simp only [Act.put, List.setIfInBounds_toArray, List.set_cons_zero, List.set_cons_succ]))
  refine seq_opaque _ _ (by rfl) rfl ⟨_, none, 0, none, 0, rfl⟩ (by simp) (fun w5 hU hp K hK => ?_) ?_
  · have hn := HOUT.out 0 ⟨0, st, 0, b, c⟩ _ w5 (HO.out.ext hU.un) (by simp only; omega) (by simp only; omega)
    rw [HO0.out] at hn
    go_simp
    refine hn.mono ?_
    rintro e w6 ⟨u, rfl, h1, h2⟩
    exact hK _ _ h2 h1.sh h1
  rintro _ ⟨I1, ci1, E1, ce1, rfl⟩
  simp only [Act.put, List.setIfInBounds_toArray, List.set_cons_zero, List.set_cons_succ]
  repeat ((refine seq_exact ?_ (by rfl) (by rfl) (fun w1 hU => ?_) ?_); (rotate_left 1); (focus (have h4 := (HN.out.ext hU.un).cell; have h6 := (HBO.out.ext hU.un).cell; clear hU; go_simp; with_reducible rfl)); (simp only [Act.put, List.setIfInBounds_toArray, List.set_cons_zero, List.set_cons_succ]))
  refine seq_opaque _ _ (by rfl) rfl ⟨_, none, 0, none, 0, rfl⟩ (by simp) (fun w5 hU hp K hK => ?_) ?_
  · have hn := HOUT.out 1 ⟨0, st, 0, b, c⟩ _ w5 (HO.out.ext hU.un) (by simp only; omega) (by simp only; omega)
    rw [HO1.out] at hn
    go_simp
    refine hn.mono ?_
    rintro e w6 ⟨u, rfl, h1, h2⟩
    exact hK _ _ h2 h1.sh h1
  rintro _ ⟨I2, ci2, E2, ce2, rfl⟩
  simp only [Act.put, List.setIfInBounds_toArray, List.set_cons_zero, List.set_cons_succ]
  refine seq_new _ _ (by rfl) rfl ⟨_, 0, rfl⟩ (by simp) (fun w5 hU hp K hK => ?_) ?_
  · have hz := Ext.size hU.un
    go_simp
    exact hK _ _ (Ext.alloc w5 _) ⟨_, rfl⟩ ⟨_, rfl, hz, Blk.new w5 _ _⟩ (new_pB rfl)
  rintro _ ⟨g1, rfl⟩
  simp only [Act.put, List.setIfInBounds_toArray, List.set_cons_zero, List.set_cons_succ]
  refine seq_new _ _ (by rfl) rfl ⟨_, 0, rfl⟩ (by simp) (fun w5 hU hp K hK => ?_) ?_
  · have hz := Ext.size hU.un
    go_simp
    exact hK _ _ (Ext.alloc w5 _) ⟨_, rfl⟩ ⟨_, rfl, hz, Blk.new w5 _ _⟩ (new_pB rfl)
  rintro _ ⟨g2, rfl⟩
  simp only [Act.put, List.setIfInBounds_toArray, List.set_cons_zero, List.set_cons_succ]
  intro w7 hw7 hp hpair
  have hne : g1 ≠ g2 := ptr_ne (hpair 6 7 _ _ _ _ trivial trivial (by omega) (by omega) rfl rfl rfl rfl rfl rfl (by omega) (by rfl) (by rfl))
  have p7 := hp _ (.head _)
  have p6 := hp _ (.tail _ (.head _))
  have p5 := hp _ (.tail _ (.tail _ (.head _)))
  have p2 := hp _ (.tail _ (.tail _ (.tail _ (.head _))))
  clear hp hpair
  obtain ⟨z1, b1⟩ := FNew.at_ p6
  obtain ⟨z2, b2⟩ := FNew.at_ p7
  clear p6 p7
  simp only [List.drop_succ_cons, List.drop_zero]
  have hz4 := HBO.out.lt
  have hcc1 := b1.cell
  have hff1 := b1.frozen
  have hcc2 := b2.cell
  have hff2 := b2.frozen
  have hne2 : g2 ≠ g1 := fun e => hne e.symm
  have c1 := b1.put5 (.int .i64 o0.fin) (.int .i64 o0.steps) (.int .i64 o0.err) (.slice I1 o0.img.length ci1) (.slice E1 o0.eff.length ce1)
  have c2 := b2.put5_far hne2 (.int .i64 o0.fin) (.int .i64 o0.steps) (.int .i64 o0.err) (.slice I1 o0.img.length ci1) (.slice E1 o0.eff.length ce1)
  have r0 := p2.put5 b1 (by simp [noByte]) (.int .i64 o0.fin) (.int .i64 o0.steps) (.int .i64 o0.err) (.slice I1 o0.img.length ci1) (.slice E1 o0.eff.length ce1)
  have r1 := p5.put5 b1 (by simp [noByte]) (.int .i64 o0.fin) (.int .i64 o0.steps) (.int .i64 o0.err) (.slice I1 o0.img.length ci1) (.slice E1 o0.eff.length ce1)
  have x1 := (Ext.un hw7).put5 z1 (.int .i64 o0.fin) (.int .i64 o0.steps) (.int .i64 o0.err) (.slice I1 o0.img.length ci1) (.slice E1 o0.eff.length ce1)
  have d1 := c1.put5_far hne (.int .i64 o1.fin) (.int .i64 o1.steps) (.int .i64 o1.err) (.slice I2 o1.img.length ci2) (.slice E2 o1.eff.length ce2)
  have d2 := c2.put5 (.int .i64 o1.fin) (.int .i64 o1.steps) (.int .i64 o1.err) (.slice I2 o1.img.length ci2) (.slice E2 o1.eff.length ce2)
  have r0 := r0.put5 c2 (by simp [noByte]) (.int .i64 o1.fin) (.int .i64 o1.steps) (.int .i64 o1.err) (.slice I2 o1.img.length ci2) (.slice E2 o1.eff.length ce2)
  have r1 := r1.put5 c2 (by simp [noByte]) (.int .i64 o1.fin) (.int .i64 o1.steps) (.int .i64 o1.err) (.slice I2 o1.img.length ci2) (.slice E2 o1.eff.length ce2)
  have x2 := x1.put5 z2 (.int .i64 o1.fin) (.int .i64 o1.steps) (.int .i64 o1.err) (.slice I2 o1.img.length ci2) (.slice E2 o1.eff.length ce2)
  have HD1 := hide d1
  have HD2 := hide d2
  have HR0 := hide r0
  have HR1 := hide r1
  have HX2 := hide x2
  unfold w5 at HD1 HD2 HR0 HR1 HX2
  clear b1 b2 c1 c2 d1 d2 r0 r1 x1 x2 p2 p5 hw7 HO HO0 HO1 HOUT
  go_wp2_with fail
  generalize hwe : ((((((((((w7.setCell ⟨g1, 0, none⟩ (.int .i64 o0.fin)).setCell ⟨g1, 1, none⟩ (.int .i64 o0.steps)).setCell ⟨g1, 2, none⟩ (.int .i64 o0.err)).setCell ⟨g1, 3, none⟩ (.slice I1 o0.img.length ci1)).setCell ⟨g1, 4, none⟩ (.slice E1 o0.eff.length ce1)).setCell ⟨g2, 0, none⟩ (.int .i64 o1.fin)).setCell ⟨g2, 1, none⟩ (.int .i64 o1.steps)).setCell ⟨g2, 2, none⟩ (.int .i64 o1.err)).setCell ⟨g2, 3, none⟩ (.slice I2 o1.img.length ci2)).setCell ⟨g2, 4, none⟩ (.slice E2 o1.eff.length ce2)) = we at *
  clear hwe hcc1 hff1 hcc2 hff2
  have hjd := judge_any o0 o1 _ _ true we HR0.out HR1.out
  rw [HCA.out] at hjd
  obtain ⟨q, hq⟩ : ∃ q, wantL x st b c = q := ⟨_, rfl⟩
  have HQ := hide hq
  rw [hq] at hjd
  clear hq
  refine hjd.mono ?_
  clear hjd
  rintro e w9 ⟨rfl, he⟩
  generalize wrap64 (wrap64 (o0.steps + o1.steps) + 1) = sm
  have HV := hide (Blk.new w9 66 #[.int .i64 q, .int .i64 sm])
  have he := he.trans (Ext.alloc w9 (.cells #[.int .i64 q, .int .i64 sm] 66))
  have HD1 := hide (HD1.out.ext he)
  have HD2 := hide (HD2.out.ext he)
  have HR0 := hide (HR0.out.ext he)
  have HR1 := hide (HR1.out.ext he)
  have he2 := HX2.out.trans he
  have HN := hide (HN.out.ext he2)
  have HBO := hide (HBO.out.ext he2)
  have HB := hide (HB.out.ext he2)
  have HC := hide (HC.out.ext he2)
  have HX := hide (HX.out.trans he2)
  clear he he2 HX2
  have hcN := HN.out.cell
  go_wp2_with fail
  generalize hwv : w9.alloc (.cells #[.int .i64 q, .int .i64 sm] 66) = wv at *
  clear hwv
  refine (HRV.out _).mono ?_
  rintro e wx ⟨rfl, he⟩
  have HX := hide (HX.out.trans he)
  have hcN := (HN.out.ext he).cell
  have hcO := (HBO.out.ext he).cell
  have hcV := (HV.out.ext he).cell
  have hcD1 := (HD1.out.ext he).cell
  have hcD2 := (HD2.out.ext he).cell
  have hsb := ((HB.out.ext he).convert (P := Try.prog) (src := 22) (dst := 9) Try.underlying22 Try.underlying5 Try.underlying9)
  have hsc := ((HC.out.ext he).convert (P := Try.prog) (src := 22) (dst := 9) Try.underlying22 Try.underlying5 Try.underlying9)
  have zer : q = 0 → ((Go.convert 22 9 (.slice I1 o0.img.length ci1)).run Try.prog wx = .ok (.string (str b)) wx) ∧ ((Go.convert 22 9 (.slice I2 o1.img.length ci2)).run Try.prog wx = .ok (.string (str b)) wx) ∧
      ((Go.convert 22 9 (.slice E1 o0.eff.length ce1)).run Try.prog wx = .ok (.string (str c)) wx) := by
    intro h0
    obtain ⟨e1, e2, e3⟩ := HST.out (HQ.out.trans h0)
    obtain ⟨_, _, _, _, _, s1, s2⟩ := OutV.cast (HR0.out.ext he)
    obtain ⟨_, _, _, _, _, s3, _⟩ := OutV.cast (HR1.out.ext he)
    refine ⟨?_, ?_, ?_⟩
    · rw [← e1]; exact s1.convert Try.underlying22 Try.underlying5 Try.underlying9
    · rw [← e2]; exact s3.convert Try.underlying22 Try.underlying5 Try.underlying9
    · rw [← e3]; exact s2.convert Try.underlying22 Try.underlying5 Try.underlying9
  have HZ := hide zer
  have HW := hide (want_ways x st b c)
  rw [HQ.out] at HW
  clear he zer HR0 HR1 HD1 HD2 HN HBO HV HB HC HQ HCA HST HRV hc0 hc1 hl hbig hb'
  rcases HW.out with ⟨v, z⟩ | ⟨v, k1, s, z⟩ | ⟨v, k1, k2, k3, k6, k7, s, z⟩ | ⟨v, k1, k2, s, z⟩ | ⟨v, k1, k2, k3, k6, k7, s, z⟩ | ⟨v, k1, k2, k3, s, z⟩ | ⟨v, k1, k2, k3, k6, k7, s, z⟩ | ⟨v, k1, k2, k3, k6, s, z⟩ | ⟨v, k1, k2, k3, k6, k7, s, z⟩ | ⟨v, k1, k2, k3, k6, k7, s, z⟩ | ⟨v, k1, k2, k3, k6, k7, s, z⟩ | ⟨v, k1, k2, k3, k6, k7, z⟩
  · subst z
    obtain ⟨y1, y2, y3⟩ := HZ.out rfl
    clear HZ HW
    go_wp2_with fail
    go_ret
    exact ⟨ret_bool (by simp), HX.out⟩
  · subst z
    clear HZ HW
    go_wp2_with fail
    go_ret
    exact ⟨rfl, HX.out⟩
  · subst z
    obtain ⟨y1, y2, y3⟩ := HZ.out rfl
    clear HZ HW
    go_wp2_with fail
    go_ret
    exact ⟨ret_bool (by simp), HX.out⟩
  · subst z
    clear HZ HW
    go_wp2_with fail
    go_ret
    exact ⟨rfl, HX.out⟩
  · subst z
    obtain ⟨y1, y2, y3⟩ := HZ.out rfl
    clear HZ HW
    go_wp2_with fail
    go_ret
    exact ⟨ret_bool (by simp), HX.out⟩
  · subst z
    clear HZ HW
    go_wp2_with fail
    go_ret
    exact ⟨rfl, HX.out⟩
  · subst z
    obtain ⟨y1, y2, y3⟩ := HZ.out rfl
    clear HZ HW
    go_wp2_with fail
    go_ret
    exact ⟨ret_bool (by simp), HX.out⟩
  · subst z
    clear HZ HW
    go_wp2_with fail
    go_ret
    exact ⟨rfl, HX.out⟩
  · subst z
    obtain ⟨y1, y2, y3⟩ := HZ.out rfl
    clear HZ HW
    go_wp2_with fail
    go_ret
    exact ⟨ret_bool (by simp), HX.out⟩
  · subst z
    clear HZ HW
    go_wp2_with fail
    go_ret
    exact ⟨rfl, HX.out⟩
  · subst z
    obtain ⟨y1, y2, y3⟩ := HZ.out rfl
    clear HZ HW
    go_wp2_with fail
    go_ret
    exact ⟨ret_bool (by simp), HX.out⟩
  · subst z
    obtain ⟨y1, y2, y3⟩ := HZ.out rfl
    clear HZ HW
    go_wp2_with fail
    go_ret
    exact ⟨ret_bool (by simp), HX.out⟩
end Go.Proofs.Ytfcmngiekdhfpaa
