/-
  Cut out of an elder text of mine (AttI) by cutdecl.py.
-/
import Derived.Test.YtfjddphjjhhjpaaDoorSeq
import Derived.Test.YtfjddphjjhhjpaaDoorVoc
import Derived.Test.YtfjddphjjhhjpaaDoorSeqIn
import Derived.Test.YtfjddphjjhhjpaaDoorFcImgA
import Derived.Test.YtfjddphjjhhjpaaDoorFcChg
import Derived.Test.YtfjddphjjhhjpaaDoorFcImgB
import Derived.Test.YtfjddphjjhhjpaaDoorFcEqA
import Derived.Test.YtfjddphjjhhjpaaDoorFcLawD
import Derived.Test.YtfjddphjjhhjpaaDoorFcAttA
import Derived.Test.YtfjddphjjhhjpaaDoorFcAttB
import Derived.Test.YtfjddphjjhhjpaaDoorFcAttD
import Derived.Test.YtfjddphjjhhjpaaDoorFcAttE
import Derived.Test.YtfjddphjjhhjpaaDoorFcAttF
import Derived.Test.YtfjddphjjhhjpaaDoorFcAttG
import Derived.Test.YtfjddphjjhhjpaaDoorFcAttH
namespace Go.Proofs.YtfjddphjjhhjpaaDoor
open Go.RowKit
set_option linter.unusedVariables false


def outL (x : Pl) (ex : Int) (o : Out) : Out :=
  if validPl x = false then o else if x.e ≠ ex then o
  else if 1 ≤ x.k ∧ x.k ≤ 3 ∧ x.s < o.steps then (if x.k = 1 then ⟨1, x.s + 1, 0, [], []⟩ else if x.k = 3 then ⟨3, x.s + 1, 0, [], []⟩ else ⟨2, 4000, 0, [], []⟩)
  else if x.k = 6 ∧ o.fin = 0 ∧ o.err = 0 then { o with img := changeL o.img x.p x.m }
  else if x.k = 7 ∧ o.fin = 0 ∧ o.err = 0 then { o with eff := changeL o.eff x.p x.m }
  else o
theorem valid_bounds {x : Pl} (h : validPl x = true) : 0 ≤ x.s ∧ x.s ≤ 4000 ∧ 0 ≤ x.p ∧ x.p ≤ 24000 ∧ 0 ≤ x.e ∧ x.e ≤ 1 := by
  unfold validPl inB at h
  obtain ⟨c, n, e, k, s, p, m⟩ := x
  simp only at h ⊢
  split at h
  · simp at h; omega
  · split at h
    · cases h
    · split at h
      · cases h
      · split at h
        · simp at h; omega
        · split at h
          · simp at h; omega
          · split at h
            · simp at h; omega
            · simp at h; omega
set_option maxRecDepth 100000 in
set_option maxHeartbeats 4000000 in
theorem output_any (x : Pl) (ex : Int) (o : Out) (u : Value) (w : World) (hu : OutV o u w) (hi : o.img.length ≤ 1048576) (hx : o.eff.length ≤ 1048576) :
    Calls Tryd.prog 28 #[.agg #[.int .i64 x.c, .int .i64 x.n, .int .i64 x.e, .int .i64 x.k, .int .i64 x.s, .int .i64 x.p, .int .i64 x.m], .int .i64 ex, u] w fun e w' => ∃ v, e = .returned v ∧ OutV (outL x ex o) v w' ∧ Ext w w' := by
  obtain ⟨I, ci, E, ce, rfl, s1, s2⟩ := hu
  obtain ⟨of, os, oe, oi, ox⟩ := o
  have HVB := hide (@valid_bounds x)
  obtain ⟨vp, hvp⟩ : ∃ t, validPl x = t := ⟨_, rfl⟩
  have HVP := hide hvp
  have HFV := hide (fvalid_any x)
  rw [HVP.out] at HFV HVB
  clear hvp
  obtain ⟨c, n, pe, k, s, p, m⟩ := x
  simp only at s1 s2 hi hx HFV HVB ⊢
  have hP := ((Blk.new w 28 #[.int .i64 c, .int .i64 n, .int .i64 pe, .int .i64 k, .int .i64 s, .int .i64 p, .int .i64 m]).alloc (.cells #[.int .i64 of, .int .i64 os, .int .i64 oe, .slice I oi.length ci, .slice E ox.length ce] 63)).alloc (.cells #[.int .i64 0, .int .i64 0, .int .i64 0, .slice none 0 0, .slice none 0 0] 63)
  have hO := (Blk.new (w.alloc (.cells #[.int .i64 c, .int .i64 n, .int .i64 pe, .int .i64 k, .int .i64 s, .int .i64 p, .int .i64 m] 28)) 63 #[.int .i64 of, .int .i64 os, .int .i64 oe, .slice I oi.length ci, .slice E ox.length ce]).alloc (.cells #[.int .i64 0, .int .i64 0, .int .i64 0, .slice none 0 0, .slice none 0 0] 63)
  have hR := Blk.new ((w.alloc (.cells #[.int .i64 c, .int .i64 n, .int .i64 pe, .int .i64 k, .int .i64 s, .int .i64 p, .int .i64 m] 28)).alloc (.cells #[.int .i64 of, .int .i64 os, .int .i64 oe, .slice I oi.length ci, .slice E ox.length ce] 63)) 63 #[.int .i64 0, .int .i64 0, .int .i64 0, .slice none 0 0, .slice none 0 0]
  have he := ((Ext.alloc w (.cells #[.int .i64 c, .int .i64 n, .int .i64 pe, .int .i64 k, .int .i64 s, .int .i64 p, .int .i64 m] 28)).alloc' (.cells #[.int .i64 of, .int .i64 os, .int .i64 oe, .slice I oi.length ci, .slice E ox.length ce] 63)).alloc' (.cells #[.int .i64 0, .int .i64 0, .int .i64 0, .slice none 0 0, .slice none 0 0] 63)
  simp only [World.size_alloc] at hP hO hR
  go_enter Tryd.func28, Tryd.ntmps28
  go_wp2_with fail
  generalize hwb : ((w.alloc (.cells #[.int .i64 c, .int .i64 n, .int .i64 pe, .int .i64 k, .int .i64 s, .int .i64 p, .int .i64 m] 28)).alloc (.cells #[.int .i64 of, .int .i64 os, .int .i64 oe, .slice I oi.length ci, .slice E ox.length ce] 63)).alloc (.cells #[.int .i64 0, .int .i64 0, .int .i64 0, .slice none 0 0, .slice none 0 0] 63) = wb at *
  clear hwb
  have hzb := hR.lt
  have HP := hide hP
  have HO := hide hO
  have HR := hide hR
  have HX := hide he
  have HS1 := hide (s1.ext he)
  have HS2 := hide (s2.ext he)
  clear hP hO hR he s1 s2
  refine wp_region_ext 7 3 [(2, ShSl oi.length, SlX (w.heap.size + 3) none oi), (5, ShSl ox.length, SlX (w.heap.size + 3) none ox)] mixed (by kernel_rfl) ⟨fun _ _ _ h hx => h.grown (hx.grownBy _), fun _ _ _ h hx => h.grown (hx.grownBy _), trivial⟩ ?_
  repeat ((refine seq_exact ?_ (by rfl) (by rfl) (fun w1 hU => ?_) ?_); (rotate_left 1); (focus (have h4 := (HO.out.ext hU.un).cell; clear hU; go_simp <;> with_reducible rfl)); (simp only [Act.put, List.setIfInBounds_toArray, List.set_cons_zero, List.set_cons_succ]))
  refine seq_opaque _ _ (by rfl) rfl ⟨_, none, 0, rfl⟩ (by simp) (fun w5 hU _ K hK => ?_) ?_
  · have hz := Ext.size hU.un
    go_simp
    refine (clone_any _ _ _ _ (HS1.out.ext hU.un) hi).mono ?_
    rintro e w6 ⟨A', c', rfl, h3, h4⟩
    exact hK _ _ h4 ⟨A', c', rfl⟩ (h3.slX (by omega) (fun k e => by cases e))
  rintro _ ⟨A1, c1, rfl⟩
  simp only [Act.put, List.setIfInBounds_toArray, List.set_cons_zero, List.set_cons_succ]
  repeat ((refine seq_exact ?_ (by rfl) (by rfl) (fun w1 hU => ?_) ?_); (rotate_left 1); (focus (have h4 := (HO.out.ext hU.un).cell; clear hU; go_simp <;> with_reducible rfl)); (simp only [Act.put, List.setIfInBounds_toArray, List.set_cons_zero, List.set_cons_succ]))
  refine seq_opaque _ _ (by rfl) rfl ⟨_, none, 0, rfl⟩ (by simp) (fun w5 hU _ K hK => ?_) ?_
  · have hz := Ext.size hU.un
    go_simp
    refine (clone_any _ _ _ _ (HS2.out.ext hU.un) hx).mono ?_
    rintro e w6 ⟨A', c', rfl, h3, h4⟩
    exact hK _ _ h4 ⟨A', c', rfl⟩ (h3.slX (by omega) (fun k e => by cases e))
  rintro _ ⟨A2, c2, rfl⟩
  simp only [Act.put, List.setIfInBounds_toArray, List.set_cons_zero, List.set_cons_succ]
  repeat ((refine seq_exact ?_ (by rfl) (by rfl) (fun w1 hU => ?_) ?_); (rotate_left 1); (focus (go_simp <;> with_reducible rfl)); (simp only [Act.put, List.setIfInBounds_toArray, List.set_cons_zero, List.set_cons_succ]))
  intro w7 hw7 hp
  have hs2 := hp _ (.head _)
  have hs1 := hp _ (.tail _ (.head _))
  clear hp
  simp only [List.drop_succ_cons, List.drop_zero]
  have hb := HO.out.ext hw7.un
  have hc := hb.cell
  have hf := hb.frozen
  have HP7 := hide (((HP.out.ext hw7.un).far (p := ⟨w.heap.size + 1, 3, none⟩) (by simp) (.slice A1 oi.length c1)).far (p := ⟨w.heap.size + 1, 4, none⟩) (by simp) (.slice A2 ox.length c2))
  have HR7 := hide (((HR.out.ext hw7.un).far (p := ⟨w.heap.size + 1, 3, none⟩) (by simp) (.slice A1 oi.length c1)).far (p := ⟨w.heap.size + 1, 4, none⟩) (by simp) (.slice A2 ox.length c2))
  have HO7 := hide (show Blk ((w7.setCell ⟨w.heap.size + 1, 3, none⟩ (.slice A1 oi.length c1)).setCell ⟨w.heap.size + 1, 4, none⟩ (.slice A2 ox.length c2)) (w.heap.size + 1) 63 #[.int .i64 of, .int .i64 os, .int .i64 oe, .slice A1 oi.length c1, .slice A2 ox.length c2] from by
    have := (hb.set 3 (.slice A1 oi.length c1)).set 4 (.slice A2 ox.length c2)
    simpa using this)
  have HX7 := hide (((HX.out.trans hw7.un).set (p := ⟨w.heap.size + 1, 3, none⟩) (by simp) (.slice A1 oi.length c1)).set (p := ⟨w.heap.size + 1, 4, none⟩) (by simp) (.slice A2 ox.length c2))
  have HQ1 := hide ((hs1.far (p := ⟨w.heap.size + 1, 3, none⟩) (by simp) (.slice A1 oi.length c1)).far (p := ⟨w.heap.size + 1, 4, none⟩) (by simp) (.slice A2 ox.length c2))
  have HQ2 := hide ((hs2.far (p := ⟨w.heap.size + 1, 3, none⟩) (by simp) (.slice A1 oi.length c1)).far (p := ⟨w.heap.size + 1, 4, none⟩) (by simp) (.slice A2 ox.length c2))
  have hcP := HP7.out.cell
  clear hw7 hs1 hs2 hb HP HO HR HX HS1 HS2
  go_wp2_with fail
  refine (HFV.out _).mono ?_
  rintro e w8 ⟨rfl, hE8⟩
  have hcP := (HP7.out.ext hE8).cell
  have hcO := (HO7.out.ext hE8).cell
  have hfO := (HO7.out.ext hE8).frozen
  have hcR := (HR7.out.ext hE8).cell
  have hfR := (HR7.out.ext hE8).frozen
  have HP8 := hide (HP7.out.ext hE8)
  have HO8 := hide (HO7.out.ext hE8)
  have HR8 := hide (HR7.out.ext hE8)
  have HX8 := hide (HX7.out.trans hE8)
  have HQ1 := hide (HQ1.out.grown (hE8.grownBy none))
  have HQ2 := hide (HQ2.out.grown (hE8.grownBy none))
  have hz8 := HR8.out.lt
  clear hE8 HP7 HO7 HR7 HX7 hc hf HFV
  cases vp
  · skip
    have HRES := hide (show outL ⟨c, n, pe, k, s, p, m⟩ ex ⟨of, os, oe, oi, ox⟩ = ⟨of, os, oe, oi, ox⟩ by unfold outL; simp only; rw [HVP.out, if_pos rfl])
    go_wp2_with fail
    have hset := HR8.out.put5 (.int .i64 of) (.int .i64 os) (.int .i64 oe) (.slice A1 oi.length c1) (.slice A2 ox.length c2)
    have hcc := hset.cell
    unfold w5 at hcc
    refine bodyPost_ret (v := .agg #[.int .i64 of, .int .i64 os, .int .i64 oe, .slice A1 oi.length c1, .slice A2 ox.length c2]) (by simp [results, Tryd.results28, go_sem, hcc]) rfl ?_
    rw [HRES.out]
    exact ⟨_, rfl, ⟨_, _, _, _, rfl, (HQ1.out.put5 (by omega) _ _ _ _ _).sl, (HQ2.out.put5 (by omega) _ _ _ _ _).sl⟩, HX8.out.put5 (by omega) _ _ _ _ _⟩
  by_cases hex : pe = ex
  rotate_left 1
  · have hex' : (pe != ex) = true := by simp [hex]
    have HRES := hide (show outL ⟨c, n, pe, k, s, p, m⟩ ex ⟨of, os, oe, oi, ox⟩ = ⟨of, os, oe, oi, ox⟩ by unfold outL; simp only; rw [HVP.out, if_neg (by simp), if_pos hex])
    go_wp2_with fail
    have hset := HR8.out.put5 (.int .i64 of) (.int .i64 os) (.int .i64 oe) (.slice A1 oi.length c1) (.slice A2 ox.length c2)
    have hcc := hset.cell
    unfold w5 at hcc
    refine bodyPost_ret (v := .agg #[.int .i64 of, .int .i64 os, .int .i64 oe, .slice A1 oi.length c1, .slice A2 ox.length c2]) (by simp [results, Tryd.results28, go_sem, hcc]) rfl ?_
    rw [HRES.out]
    exact ⟨_, rfl, ⟨_, _, _, _, rfl, (HQ1.out.put5 (by omega) _ _ _ _ _).sl, (HQ2.out.put5 (by omega) _ _ _ _ _).sl⟩, HX8.out.put5 (by omega) _ _ _ _ _⟩
  have hex' : (pe != ex) = false := by simp [hex]
  have HEX := hide hex
  obtain ⟨b1, b2, b3, b4, b5, b6⟩ := HVB.out rfl
  obtain ⟨f1, hf1⟩ : ∃ t, (of == 0) = t := ⟨_, rfl⟩
  obtain ⟨f2, hf2⟩ : ∃ t, (oe == 0) = t := ⟨_, rfl⟩
  clear HVB hex
  by_cases hk : 1 ≤ k ∧ k ≤ 3
  · obtain ⟨hk1, hk2⟩ := hk
    by_cases hs : s < os
    · by_cases hq : k = 1
      · subst hq
        have HRES := hide (show outL ⟨c, n, pe, 1, s, p, m⟩ ex ⟨of, os, oe, oi, ox⟩ = ⟨1, s + 1, 0, [], []⟩ by unfold outL; rw [HVP.out]; simp [HEX.out, hs])
        cases f1
        all_goals go_wp2_with fail
        all_goals
          have hset := HR8.out.put5 (.int .i64 1) (.int .i64 (s + 1)) (.int .i64 0) (.slice none 0 0) (.slice none 0 0)
          have hcc := hset.cell
          unfold w5 at hcc
          refine bodyPost_ret (v := .agg #[.int .i64 1, .int .i64 (s + 1), .int .i64 0, .slice none 0 0, .slice none 0 0]) (by simp [results, Tryd.results28, go_sem, hcc]) rfl ?_
          rw [HRES.out]
          exact ⟨_, rfl, ⟨_, _, _, _, rfl, Sl.none_ _, Sl.none_ _⟩, HX8.out.put5 (by omega) _ _ _ _ _⟩
      have hq1 : (k == 1) = false := by simp [hq]
      by_cases hq : k = 3
      · subst hq
        have HRES := hide (show outL ⟨c, n, pe, 3, s, p, m⟩ ex ⟨of, os, oe, oi, ox⟩ = ⟨3, s + 1, 0, [], []⟩ by unfold outL; rw [HVP.out]; simp [HEX.out, hs])
        cases f1
        all_goals go_wp2_with fail
        all_goals
          have hset := HR8.out.put5 (.int .i64 3) (.int .i64 (s + 1)) (.int .i64 0) (.slice none 0 0) (.slice none 0 0)
          have hcc := hset.cell
          unfold w5 at hcc
          refine bodyPost_ret (v := .agg #[.int .i64 3, .int .i64 (s + 1), .int .i64 0, .slice none 0 0, .slice none 0 0]) (by simp [results, Tryd.results28, go_sem, hcc]) rfl ?_
          rw [HRES.out]
          exact ⟨_, rfl, ⟨_, _, _, _, rfl, Sl.none_ _, Sl.none_ _⟩, HX8.out.put5 (by omega) _ _ _ _ _⟩
      have hq3 : (k == 3) = false := by simp [hq]
      have HRES := hide (show outL ⟨c, n, pe, k, s, p, m⟩ ex ⟨of, os, oe, oi, ox⟩ = ⟨2, 4000, 0, [], []⟩ by unfold outL; simp only; rw [HVP.out, if_neg (by simp), if_neg (by simp [HEX.out]), if_pos ⟨hk1, hk2, hs⟩, if_neg (by simpa using hq1), if_neg (by simpa using hq3)])
      cases f1
      all_goals go_wp2_with fail
      all_goals
        have hset := HR8.out.put5 (.int .i64 2) (.int .i64 4000) (.int .i64 0) (.slice none 0 0) (.slice none 0 0)
        have hcc := hset.cell
        unfold w5 at hcc
        refine bodyPost_ret (v := .agg #[.int .i64 2, .int .i64 4000, .int .i64 0, .slice none 0 0, .slice none 0 0]) (by simp [results, Tryd.results28, go_sem, hcc]) rfl ?_
        rw [HRES.out]
        exact ⟨_, rfl, ⟨_, _, _, _, rfl, Sl.none_ _, Sl.none_ _⟩, HX8.out.put5 (by omega) _ _ _ _ _⟩
    · have hk6 : (k == 6) = false := by simp; omega
      have hk7 : (k == 7) = false := by simp; omega
      have hs' : ¬ s < os := hs
      have HRES := hide (show outL ⟨c, n, pe, k, s, p, m⟩ ex ⟨of, os, oe, oi, ox⟩ = ⟨of, os, oe, oi, ox⟩ by unfold outL; simp only; rw [HVP.out, if_neg (by simp), if_neg (by simp [HEX.out]), if_neg (by omega), if_neg (by omega), if_neg (by omega)])
      cases f1
      all_goals go_wp2_with fail
      all_goals
        have hset := HR8.out.put5 (.int .i64 of) (.int .i64 os) (.int .i64 oe) (.slice A1 oi.length c1) (.slice A2 ox.length c2)
        have hcc := hset.cell
        unfold w5 at hcc
        refine bodyPost_ret (v := .agg #[.int .i64 of, .int .i64 os, .int .i64 oe, .slice A1 oi.length c1, .slice A2 ox.length c2]) (by simp [results, Tryd.results28, go_sem, hcc]) rfl ?_
        rw [HRES.out]
        exact ⟨_, rfl, ⟨_, _, _, _, rfl, (HQ1.out.put5 (by omega) _ _ _ _ _).sl, (HQ2.out.put5 (by omega) _ _ _ _ _).sl⟩, HX8.out.put5 (by omega) _ _ _ _ _⟩
  have HNK := hide hk
  by_cases hk6 : k = 6
  · subst hk6
    by_cases hf0 : of = 0
    · subst hf0
      by_cases he0 : oe = 0
      · subst he0
        clear hf1 hf2
        have HRES := hide (show outL ⟨c, n, pe, 6, s, p, m⟩ ex ⟨0, os, 0, oi, ox⟩ = ⟨0, os, 0, changeL oi p m, ox⟩ by unfold outL; rw [HVP.out]; simp [HEX.out])
        clear hk
        go_wp2_with fail
        refine (change_any _ _ _ _ _ _ HQ1.out.sl (by omega) (by omega)).mono ?_
        rintro e w9 ⟨A3, c3, rfl, q1, q2⟩
        have HQ3 := hide ((q1.slX (base' := w.heap.size + 3) (r := none) (by omega) (fun k e => by cases e)).far (p := ⟨w.heap.size + 1, 3, none⟩) (by simp) (.slice A3 oi.length c3))
        have HQ1 := hide ((HQ1.out.grown (q2.grownBy none)).far (p := ⟨w.heap.size + 1, 3, none⟩) (by simp) (.slice A3 oi.length c3))
        have HQ2 := hide ((HQ2.out.grown (q2.grownBy none)).far (p := ⟨w.heap.size + 1, 3, none⟩) (by simp) (.slice A3 oi.length c3))
        have hcP := (HP8.out.ext q2).cell
        have hcO := (HO8.out.ext q2).cell
        have hfO := (HO8.out.ext q2).frozen
        have hcR := (HR8.out.ext q2).cell
        have hfR := (HR8.out.ext q2).frozen
        have HR9 := hide ((HR8.out.ext q2).far (p := ⟨w.heap.size + 1, 3, none⟩) (by simp) (.slice A3 oi.length c3))
        have HX9 := hide ((HX8.out.trans q2).set (p := ⟨w.heap.size + 1, 3, none⟩) (by simp) (.slice A3 oi.length c3))
        clear q1 q2
        go_wp2_with fail
        rw [← changeL_length oi p m]
        rw [← changeL_length oi p m] at HR9 HX9 HQ1 HQ2 HQ3
        have hset := HR9.out.put5 (.int .i64 0) (.int .i64 os) (.int .i64 0) (.slice A3 (changeL oi p m).length c3) (.slice A2 ox.length c2)
        have hcc := hset.cell
        unfold w5 at hcc
        refine bodyPost_ret (v := .agg #[.int .i64 0, .int .i64 os, .int .i64 0, .slice A3 (changeL oi p m).length c3, .slice A2 ox.length c2]) (by simp [results, Tryd.results28, go_sem, hcc]) rfl ?_
        rw [HRES.out]
        exact ⟨_, rfl, ⟨_, _, _, _, rfl, (HQ3.out.put5 (by omega) _ _ _ _ _).sl, (HQ2.out.put5 (by omega) _ _ _ _ _).sl⟩, HX9.out.put5 (by omega) _ _ _ _ _⟩
      · have HRES := hide (show outL ⟨c, n, pe, 6, s, p, m⟩ ex ⟨0, os, oe, oi, ox⟩ = ⟨0, os, oe, oi, ox⟩ by unfold outL; rw [HVP.out]; simp [HEX.out, he0])
        have he0' : (oe == 0) = false := by simp [he0]
        clear hf1 hf2 hk
        go_wp2_with fail
        have hset := HR8.out.put5 (.int .i64 0) (.int .i64 os) (.int .i64 oe) (.slice A1 oi.length c1) (.slice A2 ox.length c2)
        have hcc := hset.cell
        unfold w5 at hcc
        refine bodyPost_ret (v := .agg #[.int .i64 0, .int .i64 os, .int .i64 oe, .slice A1 oi.length c1, .slice A2 ox.length c2]) (by simp [results, Tryd.results28, go_sem, hcc]) rfl ?_
        rw [HRES.out]
        exact ⟨_, rfl, ⟨_, _, _, _, rfl, (HQ1.out.put5 (by omega) _ _ _ _ _).sl, (HQ2.out.put5 (by omega) _ _ _ _ _).sl⟩, HX8.out.put5 (by omega) _ _ _ _ _⟩
    · have HRES := hide (show outL ⟨c, n, pe, 6, s, p, m⟩ ex ⟨of, os, oe, oi, ox⟩ = ⟨of, os, oe, oi, ox⟩ by unfold outL; rw [HVP.out]; simp [HEX.out, hf0])
      have hf0' : (of == 0) = false := by simp [hf0]
      clear hf1 hf2 hk
      go_wp2_with fail
      have hset := HR8.out.put5 (.int .i64 of) (.int .i64 os) (.int .i64 oe) (.slice A1 oi.length c1) (.slice A2 ox.length c2)
      have hcc := hset.cell
      unfold w5 at hcc
      refine bodyPost_ret (v := .agg #[.int .i64 of, .int .i64 os, .int .i64 oe, .slice A1 oi.length c1, .slice A2 ox.length c2]) (by simp [results, Tryd.results28, go_sem, hcc]) rfl ?_
      rw [HRES.out]
      exact ⟨_, rfl, ⟨_, _, _, _, rfl, (HQ1.out.put5 (by omega) _ _ _ _ _).sl, (HQ2.out.put5 (by omega) _ _ _ _ _).sl⟩, HX8.out.put5 (by omega) _ _ _ _ _⟩
  by_cases hk7 : k = 7
  · subst hk7
    by_cases hf0 : of = 0
    · subst hf0
      by_cases he0 : oe = 0
      · subst he0
        clear hf1 hf2
        have HRES := hide (show outL ⟨c, n, pe, 7, s, p, m⟩ ex ⟨0, os, 0, oi, ox⟩ = ⟨0, os, 0, oi, changeL ox p m⟩ by unfold outL; rw [HVP.out]; simp [HEX.out])
        clear hk
        go_wp2_with fail
        refine (change_any _ _ _ _ _ _ HQ2.out.sl (by omega) (by omega)).mono ?_
        rintro e w9 ⟨A3, c3, rfl, q1, q2⟩
        have HQ3 := hide ((q1.slX (base' := w.heap.size + 3) (r := none) (by omega) (fun k e => by cases e)).far (p := ⟨w.heap.size + 1, 4, none⟩) (by simp) (.slice A3 ox.length c3))
        have HQ1 := hide ((HQ1.out.grown (q2.grownBy none)).far (p := ⟨w.heap.size + 1, 4, none⟩) (by simp) (.slice A3 ox.length c3))
        have HQ2 := hide ((HQ2.out.grown (q2.grownBy none)).far (p := ⟨w.heap.size + 1, 4, none⟩) (by simp) (.slice A3 ox.length c3))
        have hcP := (HP8.out.ext q2).cell
        have hcO := (HO8.out.ext q2).cell
        have hfO := (HO8.out.ext q2).frozen
        have hcR := (HR8.out.ext q2).cell
        have hfR := (HR8.out.ext q2).frozen
        have HR9 := hide ((HR8.out.ext q2).far (p := ⟨w.heap.size + 1, 4, none⟩) (by simp) (.slice A3 ox.length c3))
        have HX9 := hide ((HX8.out.trans q2).set (p := ⟨w.heap.size + 1, 4, none⟩) (by simp) (.slice A3 ox.length c3))
        clear q1 q2
        go_wp2_with fail
        rw [← changeL_length ox p m]
        rw [← changeL_length ox p m] at HR9 HX9 HQ1 HQ2 HQ3
        have hset := HR9.out.put5 (.int .i64 0) (.int .i64 os) (.int .i64 0) (.slice A1 oi.length c1) (.slice A3 (changeL ox p m).length c3)
        have hcc := hset.cell
        unfold w5 at hcc
        refine bodyPost_ret (v := .agg #[.int .i64 0, .int .i64 os, .int .i64 0, .slice A1 oi.length c1, .slice A3 (changeL ox p m).length c3]) (by simp [results, Tryd.results28, go_sem, hcc]) rfl ?_
        rw [HRES.out]
        exact ⟨_, rfl, ⟨_, _, _, _, rfl, (HQ1.out.put5 (by omega) _ _ _ _ _).sl, (HQ3.out.put5 (by omega) _ _ _ _ _).sl⟩, HX9.out.put5 (by omega) _ _ _ _ _⟩
      · have HRES := hide (show outL ⟨c, n, pe, 7, s, p, m⟩ ex ⟨0, os, oe, oi, ox⟩ = ⟨0, os, oe, oi, ox⟩ by unfold outL; rw [HVP.out]; simp [HEX.out, he0])
        have he0' : (oe == 0) = false := by simp [he0]
        clear hf1 hf2 hk
        go_wp2_with fail
        have hset := HR8.out.put5 (.int .i64 0) (.int .i64 os) (.int .i64 oe) (.slice A1 oi.length c1) (.slice A2 ox.length c2)
        have hcc := hset.cell
        unfold w5 at hcc
        refine bodyPost_ret (v := .agg #[.int .i64 0, .int .i64 os, .int .i64 oe, .slice A1 oi.length c1, .slice A2 ox.length c2]) (by simp [results, Tryd.results28, go_sem, hcc]) rfl ?_
        rw [HRES.out]
        exact ⟨_, rfl, ⟨_, _, _, _, rfl, (HQ1.out.put5 (by omega) _ _ _ _ _).sl, (HQ2.out.put5 (by omega) _ _ _ _ _).sl⟩, HX8.out.put5 (by omega) _ _ _ _ _⟩
    · have HRES := hide (show outL ⟨c, n, pe, 7, s, p, m⟩ ex ⟨of, os, oe, oi, ox⟩ = ⟨of, os, oe, oi, ox⟩ by unfold outL; rw [HVP.out]; simp [HEX.out, hf0])
      have hf0' : (of == 0) = false := by simp [hf0]
      clear hf1 hf2 hk
      go_wp2_with fail
      have hset := HR8.out.put5 (.int .i64 of) (.int .i64 os) (.int .i64 oe) (.slice A1 oi.length c1) (.slice A2 ox.length c2)
      have hcc := hset.cell
      unfold w5 at hcc
      refine bodyPost_ret (v := .agg #[.int .i64 of, .int .i64 os, .int .i64 oe, .slice A1 oi.length c1, .slice A2 ox.length c2]) (by simp [results, Tryd.results28, go_sem, hcc]) rfl ?_
      rw [HRES.out]
      exact ⟨_, rfl, ⟨_, _, _, _, rfl, (HQ1.out.put5 (by omega) _ _ _ _ _).sl, (HQ2.out.put5 (by omega) _ _ _ _ _).sl⟩, HX8.out.put5 (by omega) _ _ _ _ _⟩
  have hk6' : (k == 6) = false := by simp [hk6]
  have hk7' : (k == 7) = false := by simp [hk7]
  have HRES := hide (show outL ⟨c, n, pe, k, s, p, m⟩ ex ⟨of, os, oe, oi, ox⟩ = ⟨of, os, oe, oi, ox⟩ by unfold outL; simp only; rw [HVP.out, if_neg (by simp), if_neg (by simp [HEX.out]), if_neg (fun h => hk ⟨h.1, h.2.1⟩), if_neg (fun h => hk6 h.1), if_neg (fun h => hk7 h.1)])
  have hkk : k < 1 ∨ 3 < k := by omega
  clear hk hk6 hk7
  rcases hkk with hkk | hkk
  · cases f1
    all_goals go_wp2_with fail
    all_goals
      have hset := HR8.out.put5 (.int .i64 of) (.int .i64 os) (.int .i64 oe) (.slice A1 oi.length c1) (.slice A2 ox.length c2)
      have hcc := hset.cell
      unfold w5 at hcc
      refine bodyPost_ret (v := .agg #[.int .i64 of, .int .i64 os, .int .i64 oe, .slice A1 oi.length c1, .slice A2 ox.length c2]) (by simp [results, Tryd.results28, go_sem, hcc]) rfl ?_
      rw [HRES.out]
      exact ⟨_, rfl, ⟨_, _, _, _, rfl, (HQ1.out.put5 (by omega) _ _ _ _ _).sl, (HQ2.out.put5 (by omega) _ _ _ _ _).sl⟩, HX8.out.put5 (by omega) _ _ _ _ _⟩
  · cases f1
    all_goals go_wp2_with fail
    all_goals
      have hset := HR8.out.put5 (.int .i64 of) (.int .i64 os) (.int .i64 oe) (.slice A1 oi.length c1) (.slice A2 ox.length c2)
      have hcc := hset.cell
      unfold w5 at hcc
      refine bodyPost_ret (v := .agg #[.int .i64 of, .int .i64 os, .int .i64 oe, .slice A1 oi.length c1, .slice A2 ox.length c2]) (by simp [results, Tryd.results28, go_sem, hcc]) rfl ?_
      rw [HRES.out]
      exact ⟨_, rfl, ⟨_, _, _, _, rfl, (HQ1.out.put5 (by omega) _ _ _ _ _).sl, (HQ2.out.put5 (by omega) _ _ _ _ _).sl⟩, HX8.out.put5 (by omega) _ _ _ _ _⟩
end Go.Proofs.YtfjddphjjhhjpaaDoor
