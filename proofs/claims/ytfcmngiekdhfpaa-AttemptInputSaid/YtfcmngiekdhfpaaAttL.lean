/-
  The walk of AttemptCost.
-/
import Derived.Test.YtfcmngiekdhfpaaAttK
namespace Go.Proofs.Ytfcmngiekdhfpaa
open Go.RowKit
set_option linter.unusedVariables false

theorem outEq_refl (o : Out) : outEq o o = true := by unfold outEq; simp
set_option maxRecDepth 100000 in
set_option maxHeartbeats 2000000 in
theorem cost_law (n0 n1 n2 : Int) (A B C : Option Addr) (ca cb cc : Nat) (a b c : List UInt8) (w : World) (ha : Sl w A ca a) (hb : Sl w B cb b) (hc : Sl w C cc c) (hn0 : n0 ≤ 9223372036854775807) (hn1 : n1 ≤ 9223372036854775807) (hn2 : n2 ≤ 9223372036854775807)
    (hl : a.length + b.length + c.length ≤ 9223372036854775807) :
    Calls Try.prog 9 #[.agg #[.int .i64 n0, .int .i64 n1, .int .i64 n2], .agg #[.slice A a.length ca, .slice B b.length cb, .slice C c.length cc]] w fun e w' => e = .returned (.bool true) ∧ Ext w w' := by
  have hN := (Blk.new w 50 #[.int .i64 n0, .int .i64 n1, .int .i64 n2]).alloc (.cells #[.slice A a.length ca, .slice B b.length cb, .slice C c.length cc] 51)
  have hS := Blk.new (w.alloc (.cells #[.int .i64 n0, .int .i64 n1, .int .i64 n2] 50)) 51 #[.slice A a.length ca, .slice B b.length cb, .slice C c.length cc]
  have he := (Ext.alloc w (.cells #[.int .i64 n0, .int .i64 n1, .int .i64 n2] 50)).alloc' (.cells #[.slice A a.length ca, .slice B b.length cb, .slice C c.length cc] 51)
  simp only [World.size_alloc] at hN hS
  have HN := hide hN
  have HS := hide hS
  have HX := hide he
  have HA := hide (ha.ext he)
  have HB := hide (hb.ext he)
  have HC := hide (hc.ext he)
  clear hN hS he ha hb hc
  go_enter Try.func9, Try.ntmps9
  go_wp2_with fail
  generalize hwb : (w.alloc (.cells #[.int .i64 n0, .int .i64 n1, .int .i64 n2] 50)).alloc (.cells #[.slice A a.length ca, .slice B b.length cb, .slice C c.length cc] 51) = wb at *
  clear hwb
  refine (awake28_any _).mono ?_
  rintro e w1 ⟨rfl, he⟩
  have HN := hide (HN.out.ext he)
  have HS := hide (HS.out.ext he)
  have HX := hide (HX.out.trans he)
  have HA := hide (HA.out.ext he)
  have HB := hide (HB.out.ext he)
  have HC := hide (HC.out.ext he)
  have hcN := HN.out.cell
  have hcS := HS.out.cell
  clear he
  by_cases hbig : 400 < a.length + b.length + c.length
  · have hb' : (400 : Int) < (a.length : Int) + b.length + c.length := by omega
    go_wp2_with fail
    go_ret
    exact ⟨rfl, HX.out⟩
  by_cases hk : 1099511627776 < n2
  · have hb' : ¬ (400 : Int) < (a.length : Int) + b.length + c.length := by omega
    go_wp2_with fail
    go_ret
    exact ⟨rfl, HX.out⟩
  have hb' : ¬ (400 : Int) < (a.length : Int) + b.length + c.length := by omega
  go_wp2_with fail
  refine (normal_any _ _ _ a.length _ _ _ b c n2 _ (by omega) HB.out HC.out (by omega) (by omega) (by omega)).mono ?_
  rintro e w2 ⟨u, rfl, hu, he⟩
  obtain ⟨I, ci, E, ce, rfl, s1, s2⟩ := hu
  simp only at s1 s2
  obtain ⟨cc', hcc'⟩ : ∃ x, costN a.length b.length n2 = x := ⟨_, rfl⟩
  have HCC := hide hcc'
  simp only [hcc']
  have HO : Hid (OutV ⟨0, cc', 0, b, c⟩ (.agg #[.int .i64 0, .int .i64 cc', .int .i64 0, .slice I b.length ci, .slice E c.length ce]) (w2.alloc (.cells #[.int .i64 0, .int .i64 cc', .int .i64 0, .slice I b.length ci, .slice E c.length ce] 53))) := ⟨I, ci, E, ce, rfl, s1.ext (Ext.alloc w2 _), s2.ext (Ext.alloc w2 _)⟩
  have HBO := hide (Blk.new w2 53 #[.int .i64 0, .int .i64 cc', .int .i64 0, .slice I b.length ci, .slice E c.length ce])
  have he3 := he.trans (Ext.alloc w2 (.cells #[.int .i64 0, .int .i64 cc', .int .i64 0, .slice I b.length ci, .slice E c.length ce] 53))
  have HN := hide (HN.out.ext he3)
  have HS := hide (HS.out.ext he3)
  have HX := hide (HX.out.trans he3)
  have HB := hide (HB.out.ext he3)
  have HC := hide (HC.out.ext he3)
  clear he he3 s1 s2 hcN hcS hcc'
  go_wp2_with fail
  generalize hwc : w2.alloc (.cells #[.int .i64 0, .int .i64 cc', .int .i64 0, .slice I b.length ci, .slice E c.length ce] 53) = w3 at *
  clear hwc
  obtain ⟨cn, hcn⟩ : ∃ x, costN n0 n1 n2 = x := ⟨_, rfl⟩
  have HCN := hide hcn
  clear hcn
  refine wp_region_ext 29 3 [(6, fun v => v = .int .i64 cn, fun _ _ => True), (13, fun v => v = .int .i64 cn, fun _ _ => True), (17, ShOut ⟨0, cc', 0, b, c⟩, OutV ⟨0, cc', 0, b, c⟩), (26, ShOut ⟨0, cc', 0, b, c⟩, OutV ⟨0, cc', 0, b, c⟩), (27, fun v => v = .bool true, fun _ _ => True)] mixed (by kernel_rfl)
    ⟨fun _ _ _ _ _ => trivial, fun _ _ _ _ _ => trivial, fun _ _ _ h hx => h.ext hx, fun _ _ _ h hx => h.ext hx, fun _ _ _ _ _ => trivial, trivial⟩ ?_
  repeat ((refine seq_exact ?_ (by rfl) (by rfl) (fun w1 hU => ?_) ?_); (rotate_left 1); (focus (have h4 := (HN.out.ext hU.un).cell; have h5 := (HS.out.ext hU.un).cell; have h6 := (HBO.out.ext hU.un).cell; clear hU; go_simp; with_reducible rfl)); (simp only [Act.put, List.setIfInBounds_toArray, List.set_cons_zero, List.set_cons_succ]))
  refine seq_opaque _ _ (by rfl) rfl ⟨_, rfl⟩ (by simp) (fun w5 hU hp K hK => ?_) ?_
  · go_simp
    refine (cost_any _ _ _ _ hn0 hn1 (by omega)).mono ?_
    rw [HCN.out]
    rintro e w6 ⟨rfl, rfl⟩
    exact hK _ _ (Ext.refl _) rfl trivial
  rintro _ rfl
  simp only [Act.put, List.setIfInBounds_toArray, List.set_cons_zero, List.set_cons_succ]
  repeat ((refine seq_exact ?_ (by rfl) (by rfl) (fun w1 hU => ?_) ?_); (rotate_left 1); (focus (have h4 := (HN.out.ext hU.un).cell; have h5 := (HS.out.ext hU.un).cell; have h6 := (HBO.out.ext hU.un).cell; clear hU; go_simp; with_reducible rfl)); (simp only [Act.put, List.setIfInBounds_toArray, List.set_cons_zero, List.set_cons_succ]))
  refine seq_opaque _ _ (by rfl) rfl ⟨_, rfl⟩ (by simp) (fun w5 hU hp K hK => ?_) ?_
  · go_simp
    refine (rcost_any _ _ _ _ hn0 hn1 (by omega)).mono ?_
    rw [HCN.out]
    rintro e w6 ⟨rfl, rfl⟩
    exact hK _ _ (Ext.refl _) rfl trivial
  rintro _ rfl
  simp only [Act.put, List.setIfInBounds_toArray, List.set_cons_zero, List.set_cons_succ]
  repeat ((refine seq_exact ?_ (by rfl) (by rfl) (fun w1 hU => ?_) ?_); (rotate_left 1); (focus (have h4 := (HN.out.ext hU.un).cell; have h5 := (HS.out.ext hU.un).cell; have h6 := (HBO.out.ext hU.un).cell; clear hU; go_simp; with_reducible rfl)); (simp only [Act.put, List.setIfInBounds_toArray, List.set_cons_zero, List.set_cons_succ]))
  refine seq_opaque _ _ (by rfl) rfl ⟨_, none, 0, none, 0, rfl⟩ (by simp) (fun w5 hU hp K hK => ?_) ?_
  · have hn := from27_any ⟨0, cc', 0, b, c⟩ _ w5 (HO.out.ext hU.un) (by simp only; omega) (by simp only; omega)
    go_simp
    refine hn.mono ?_
    rintro e w6 ⟨u, rfl, h1, h2⟩
    exact hK _ _ h2 h1.sh h1
  rintro _ ⟨I1, ci1, E1, ce1, rfl⟩
  simp only [Act.put, List.setIfInBounds_toArray, List.set_cons_zero, List.set_cons_succ]
  repeat ((refine seq_exact ?_ (by rfl) (by rfl) (fun w1 hU => ?_) ?_); (rotate_left 1); (focus (have h4 := (HN.out.ext hU.un).cell; have h5 := (HS.out.ext hU.un).cell; have h6 := (HBO.out.ext hU.un).cell; clear hU; go_simp; with_reducible rfl)); (simp only [Act.put, List.setIfInBounds_toArray, List.set_cons_zero, List.set_cons_succ]))
  refine seq_opaque _ _ (by rfl) rfl ⟨_, none, 0, none, 0, rfl⟩ (by simp) (fun w5 hU hp K hK => ?_) ?_
  · have hn := rnormal_any A B C a.length ca cb cc b c n2 w5 (by omega) (HB.out.ext hU.un) (HC.out.ext hU.un) (by omega) (by omega) (by omega)
    rw [HCC.out] at hn
    go_simp
    refine hn.mono ?_
    rintro e w6 ⟨u, rfl, h1, h2⟩
    exact hK _ _ h2 h1.sh h1
  rintro _ ⟨I2, ci2, E2, ce2, rfl⟩
  simp only [Act.put, List.setIfInBounds_toArray, List.set_cons_zero, List.set_cons_succ]
  refine seq_opaque _ _ (by rfl) rfl ⟨_, rfl⟩ (by simp) (fun w5 hU hp K hK => ?_) ?_
  · have h1 := hp _ (.head _) (by kernel_rfl)
    have h2 := hp _ (.tail _ (.head _)) (by kernel_rfl)
    have hn := equal27_any _ _ _ _ w5 h2 h1
    rw [outEq_refl] at hn
    clear hp
    go_simp
    refine hn.mono ?_
    rintro e w6 ⟨rfl, h2⟩
    exact hK _ _ h2 rfl trivial
  rintro _ rfl
  simp only [Act.put, List.setIfInBounds_toArray, List.set_cons_zero, List.set_cons_succ]
  repeat ((refine seq_exact ?_ (by rfl) (by rfl) (fun w1 hU => ?_) ?_); (rotate_left 1); (focus (go_simp; with_reducible rfl)); (simp only [Act.put, List.setIfInBounds_toArray, List.set_cons_zero, List.set_cons_succ]))
  intro w8 hw8 _
  simp only [List.drop_succ_cons, List.drop_zero]
  have HX8 := hide (HX.out.trans hw8.un)
  clear hw8
  go_wp2_with fail
  go_ret
  exact ⟨rfl, HX8.out⟩
end Go.Proofs.Ytfcmngiekdhfpaa
