/-
  Equal of the program; FaultOutput.
-/
import Derived.Test.YtfjddphjjhhjpaaDoorFauK
namespace Go.Proofs.YtfjddphjjhhjpaaDoor
open Go.RowKit
set_option linter.unusedVariables false

set_option maxRecDepth 100000 in
set_option maxHeartbeats 2000000 in
theorem fequal_any (a b : Out) (u v : Value) (w : World) (hu : OutV a u w) (hv : OutV b v w) : Calls Tryd.prog 32 #[u, v] w fun e w' => e = .returned (.bool (outEq a b)) ∧ Ext w w' := by
  obtain ⟨I, ci, E, ce, rfl, s1, s2⟩ := hu
  obtain ⟨J, cj, G, cg, rfl, s3, s4⟩ := hv
  obtain ⟨af, ast, ae, ai, ax⟩ := a
  obtain ⟨bf, bs, be, bi, bx⟩ := b
  simp only at s1 s2 s3 s4 ⊢
  have he : Ext w ((w.alloc (.cells #[.int .i64 af, .int .i64 ast, .int .i64 ae, .slice I ai.length ci, .slice E ax.length ce] 63)).alloc (.cells #[.int .i64 bf, .int .i64 bs, .int .i64 be, .slice J bi.length cj, .slice G bx.length cg] 63)) := (Ext.alloc w _).alloc' _
  have hc1 := ((Blk.new w 63 #[.int .i64 af, .int .i64 ast, .int .i64 ae, .slice I ai.length ci, .slice E ax.length ce]).alloc (.cells #[.int .i64 bf, .int .i64 bs, .int .i64 be, .slice J bi.length cj, .slice G bx.length cg] 63)).cell
  have hc2 := (Blk.new (w.alloc (.cells #[.int .i64 af, .int .i64 ast, .int .i64 ae, .slice I ai.length ci, .slice E ax.length ce] 63)) 63 #[.int .i64 bf, .int .i64 bs, .int .i64 be, .slice J bi.length cj, .slice G bx.length cg]).cell
  have K1 := hide (equal_any I J ci cj ai bi _ (s1.ext he) (s3.ext he))
  have K2 := hide (equal_any E G ce cg ax bx _ (s2.ext he) (s4.ext he))
  obtain ⟨t1, ht1⟩ : ∃ t, (af == bf) = t := ⟨_, rfl⟩
  obtain ⟨t2, ht2⟩ : ∃ t, (ast == bs) = t := ⟨_, rfl⟩
  obtain ⟨t3, ht3⟩ : ∃ t, (ae == be) = t := ⟨_, rfl⟩
  obtain ⟨t4, ht4⟩ : ∃ t, (ai == bi) = t := ⟨_, rfl⟩
  obtain ⟨t5, ht5⟩ : ∃ t, (ax == bx) = t := ⟨_, rfl⟩
  have hE : outEq ⟨af, ast, ae, ai, ax⟩ ⟨bf, bs, be, bi, bx⟩ = (t1 && (t2 && (t3 && (t4 && t5)))) := by unfold outEq; simp only [ht1, ht2, ht3, ht4, ht5]
  rw [hE]
  rw [ht4] at K1
  rw [ht5] at K2
  have HE := hide he
  clear s1 s2 s3 s4 he hE ht4 ht5
  go_enter Tryd.func32, Tryd.ntmps32
  cases t1
  · go_wp2_with fail
    go_ret
    exact ⟨ret_bool' (by simp), HE.out⟩
  cases t2
  · go_wp2_with fail
    go_ret
    exact ⟨ret_bool' (by simp), HE.out⟩
  cases t3
  · go_wp2_with fail
    go_ret
    exact ⟨ret_bool' (by simp), HE.out⟩
  cases t4
  · go_wp2_with (first
      | (go_at_call 48; refine K1.out.mono ?_; rintro e w' ⟨rfl, rfl⟩; clear K1)
      | (go_at_call 48; refine K2.out.mono ?_; rintro e w' ⟨rfl, rfl⟩; clear K2))
    go_ret
    exact ⟨ret_bool' (by simp), HE.out⟩
  go_wp2_with (first
    | (go_at_call 48; refine K1.out.mono ?_; rintro e w' ⟨rfl, rfl⟩; clear K1)
    | (go_at_call 48; refine K2.out.mono ?_; rintro e w' ⟨rfl, rfl⟩; clear K2))
  go_ret
  exact ⟨ret_bool' (by simp), HE.out⟩
def ShOut (o : Out) (v : Value) : Prop := ∃ I ci E ce, v = .agg #[.int .i64 o.fin, .int .i64 o.steps, .int .i64 o.err, .slice I o.img.length ci, .slice E o.eff.length ce]
theorem OutV.sh {o : Out} {v : Value} {w : World} (h : OutV o v w) : ShOut o v := let ⟨I, ci, E, ce, h1, _, _⟩ := h; ⟨I, ci, E, ce, h1⟩
theorem outEq_refl (o : Out) : outEq o o = true := by unfold outEq; simp
/-- Where the outcome turns, the plan names the execution, and its kind turns outcomes. -/
theorem out_turned {x : Pl} {ex : Int} {o : Out} (h : outEq (outL x ex o) o = false) : (ex == x.e) = true ∧ (x.k != 8) = true ∧ (x.k != 9) = true ∧ (x.k != 4) = true ∧ (x.k != 5) = true := by
  have key : ∀ (P : Prop), (¬ P → outL x ex o = o) → P := fun P hP => Classical.byContradiction fun hn => by
    rw [hP hn, outEq_refl] at h; cases h
  have h1 : x.e = ex := key _ fun hn => by
    unfold outL
    split
    · rfl
    · first | rfl | rw [if_pos hn]
  have hk : ∀ j : Int, (j = 8 ∨ j = 9 ∨ j = 4 ∨ j = 5) → x.k ≠ j := fun j hj => key _ fun hn => by
    have hn : x.k = j := Classical.byContradiction hn
    unfold outL
    split
    · rfl
    · split
      · rfl
      · rw [if_neg (by omega), if_neg (by omega), if_neg (by omega)]
  refine ⟨by rw [h1]; simp, ?_, ?_, ?_, ?_⟩
  · exact bne_iff_ne.2 (hk 8 (by omega))
  · exact bne_iff_ne.2 (hk 9 (by omega))
  · exact bne_iff_ne.2 (hk 4 (by omega))
  · exact bne_iff_ne.2 (hk 5 (by omega))
theorem outL_len (x : Pl) (ex : Int) (o : Out) : (outL x ex o).img.length ≤ o.img.length ∧ (outL x ex o).eff.length ≤ o.eff.length := by
  unfold outL
  (repeat' split) <;> simp [changeL_length]
set_option maxRecDepth 100000 in
set_option maxHeartbeats 8000000 in
theorem foutput_law (x : Pl) (ex : Int) (o : Out) (I E : Option Addr) (ci ce : Nat) (w : World) (h1 : Sl w I ci o.img) (h2 : Sl w E ce o.eff) (hsum : o.img.length + o.eff.length ≤ 9223372036854775807) (ht : Tabs w) :
    Calls Tryd.prog 7 #[.agg #[.int .i64 x.c, .int .i64 x.n, .int .i64 x.e, .int .i64 x.k, .int .i64 x.s, .int .i64 x.p, .int .i64 x.m], .int .i64 ex, .agg #[.int .i64 o.fin, .int .i64 o.steps, .int .i64 o.err, .slice I o.img.length ci, .slice E o.eff.length ce]] w fun e w' => e = .returned (.bool true) ∧ Ext w w' := by
  have HX0 := hide ((Ext.alloc w (.cells #[.int .i64 x.c, .int .i64 x.n, .int .i64 x.e, .int .i64 x.k, .int .i64 x.s, .int .i64 x.p, .int .i64 x.m] 23)).alloc' (.cells #[.int .i64 o.fin, .int .i64 o.steps, .int .i64 o.err, .slice I o.img.length ci, .slice E o.eff.length ce] 61))
  have HP0 := hide ((Blk.new w 23 #[.int .i64 x.c, .int .i64 x.n, .int .i64 x.e, .int .i64 x.k, .int .i64 x.s, .int .i64 x.p, .int .i64 x.m]).alloc (.cells #[.int .i64 o.fin, .int .i64 o.steps, .int .i64 o.err, .slice I o.img.length ci, .slice E o.eff.length ce] 61))
  have HO0 := hide (show Blk ((w.alloc (.cells #[.int .i64 x.c, .int .i64 x.n, .int .i64 x.e, .int .i64 x.k, .int .i64 x.s, .int .i64 x.p, .int .i64 x.m] 23)).alloc (.cells #[.int .i64 o.fin, .int .i64 o.steps, .int .i64 o.err, .slice I o.img.length ci, .slice E o.eff.length ce] 61)) (w.heap.size + 1) 61 #[.int .i64 o.fin, .int .i64 o.steps, .int .i64 o.err, .slice I o.img.length ci, .slice E o.eff.length ce] from by
    have := Blk.new (w.alloc (.cells #[.int .i64 x.c, .int .i64 x.n, .int .i64 x.e, .int .i64 x.k, .int .i64 x.s, .int .i64 x.p, .int .i64 x.m] 23)) 61 #[.int .i64 o.fin, .int .i64 o.steps, .int .i64 o.err, .slice I o.img.length ci, .slice E o.eff.length ce]
    rwa [World.size_alloc] at this)
  have HV0 := hide (show OutV o (.agg #[.int .i64 o.fin, .int .i64 o.steps, .int .i64 o.err, .slice I o.img.length ci, .slice E o.eff.length ce]) ((w.alloc (.cells #[.int .i64 x.c, .int .i64 x.n, .int .i64 x.e, .int .i64 x.k, .int .i64 x.s, .int .i64 x.p, .int .i64 x.m] 23)).alloc (.cells #[.int .i64 o.fin, .int .i64 o.steps, .int .i64 o.err, .slice I o.img.length ci, .slice E o.eff.length ce] 61)) from ⟨I, ci, E, ce, rfl, h1.ext HX0.out, h2.ext HX0.out⟩)
  have HT := hide (ht.ext HX0.out)
  have hb1 : o.img.length ≤ 9223372036854775807 := by omega
  have hb2 : o.eff.length ≤ 9223372036854775807 := by omega
  have HFW := hide (fun w => few_any o.fin o.steps o.err I E ci ce o.img.length o.eff.length hb1 hb2 hsum w)
  clear h1 h2 ht
  by_cases hbig : o.img.length + o.eff.length ≤ 400
  · rw [decide_eq_true hbig] at HFW
    have hn1 : o.img.length ≤ 1048576 := by omega
    have hk1 : o.eff.length ≤ 1048576 := by omega
    obtain ⟨g1, g2⟩ := outL_len x ex o
    have HTO := hide (fun u w h => to27_any o u w h hn1 hk1)
    have HFO := hide (fun u w h => from27_any o u w h hn1 hk1)
    have HOU := hide (fun u w h => output_any x ex o u w h hn1 hk1)
    have HRO := hide (fun u w h => routput_any x ex o u w h hn1 hk1)
    have HTN := hide (@out_turned x ex o)
    generalize outL x ex o = r at *
    have HFR := hide (fun u w h => from27_any r u w h (by omega) (by omega))
    have HEQ := hide (fun u v w h1 h2 => equal27_any r o u v w h1 h2)
    have HEF := hide (fun u v w h1 h2 => fequal_any r o u v w h1 h2)
    have HER := hide (fun u v w h1 h2 => equal27_any r r u v w h1 h2)
    have HEO := hide (fun u v w h1 h2 => equal27_any o o u v w h1 h2)
    rw [outEq_refl] at HER HEO
    obtain ⟨d, hd⟩ : ∃ d, outEq r o = d := ⟨_, rfl⟩
    rw [hd] at HEQ HEF HTN
    have hdd : (d != d) = false := by simp
    clear hd g1 g2 hbig
    go_enter Tryd.func7, Tryd.ntmps7
    go_wp2_with (first
      | (go_at_call 8; refine (awake27_any _ HT.out).mono ?_; rintro e w1 ⟨rfl, hE1⟩; have HE1 := hide hE1; have hpc := (HP0.out.ext hE1).cell; have hoc := (HO0.out.ext hE1).cell; clear hE1)
      | (go_at_call 26; refine (HFW.out _).mono ?_; rintro e w2 ⟨rfl, hE2⟩; have HE2 := hide (HE1.out.trans hE2); clear hpc hoc; have hpc := (HP0.out.ext HE2.out).cell; have hoc := (HO0.out.ext HE2.out).cell; clear hE2)
      | (go_at_call 27; refine (HTO.out _ _ (HV0.out.ext HE2.out)).mono ?_; rintro e w3 ⟨u3, rfl, hV3, hE3⟩; obtain ⟨I3, c3, E3, d3, rfl, s3, t3⟩ := hV3; have HE3 := hide ((HE2.out.trans hE3).alloc' (.cells #[.int .i64 o.fin, .int .i64 o.steps, .int .i64 o.err, .slice I3 o.img.length c3, .slice E3 o.eff.length d3] 63)); have HV3 := hide (show OutV o (.agg #[.int .i64 o.fin, .int .i64 o.steps, .int .i64 o.err, .slice I3 o.img.length c3, .slice E3 o.eff.length d3]) (w3.alloc (.cells #[.int .i64 o.fin, .int .i64 o.steps, .int .i64 o.err, .slice I3 o.img.length c3, .slice E3 o.eff.length d3] 63)) from OutV.ext ⟨I3, c3, E3, d3, rfl, s3, t3⟩ (Ext.alloc w3 _)); have HB3 := hide (Blk.new w3 63 #[.int .i64 o.fin, .int .i64 o.steps, .int .i64 o.err, .slice I3 o.img.length c3, .slice E3 o.eff.length d3]); clear hpc hoc; have hpc := (HP0.out.ext HE3.out).cell; have hoc := (HO0.out.ext HE3.out).cell; clear hE3 s3 t3)
      | (go_at_call 28; refine (HOU.out _ _ HV3.out).mono ?_; rintro e w4 ⟨u4, rfl, hV4, hE4⟩; obtain ⟨I4, c4, E4, d4, rfl, s4, t4⟩ := hV4; have hE4' := hE4.alloc' (.cells #[.int .i64 r.fin, .int .i64 r.steps, .int .i64 r.err, .slice I4 r.img.length c4, .slice E4 r.eff.length d4] 63); have HE4 := hide (HE3.out.trans hE4'); have HV4 := hide (show OutV r (.agg #[.int .i64 r.fin, .int .i64 r.steps, .int .i64 r.err, .slice I4 r.img.length c4, .slice E4 r.eff.length d4]) (w4.alloc (.cells #[.int .i64 r.fin, .int .i64 r.steps, .int .i64 r.err, .slice I4 r.img.length c4, .slice E4 r.eff.length d4] 63)) from OutV.ext ⟨I4, c4, E4, d4, rfl, s4, t4⟩ (Ext.alloc w4 _)); have HB4 := hide (Blk.new w4 63 #[.int .i64 r.fin, .int .i64 r.steps, .int .i64 r.err, .slice I4 r.img.length c4, .slice E4 r.eff.length d4]); have HW3 := hide (HV3.out.ext hE4'); have HC3 := hide (HB3.out.ext hE4'); clear hpc hoc; have HP4 := hide (HP0.out.ext HE4.out); have HO4 := hide (HO0.out.ext HE4.out); have HV40 := hide (HV0.out.ext HE4.out); clear hE4 hE4' s4 t4 HV3 HB3))
    refine wp_region_ext 25 9 [(1, ShOut r, OutV r), (5, ShOut r, OutV r), (6, fun v => v = .bool true, fun _ _ => True), (10, ShOut o, OutV o), (12, fun v => v = .bool true, fun _ _ => True), (18, fun v => v = .bool d, fun _ _ => True), (20, ShOut r, OutV r), (22, fun v => v = .bool d, fun _ _ => True)] mixed (by kernel_rfl)
      ⟨fun _ _ _ h hx => h.ext hx, fun _ _ _ h hx => h.ext hx, fun _ _ _ _ _ => trivial, fun _ _ _ h hx => h.ext hx, fun _ _ _ _ _ => trivial, fun _ _ _ _ _ => trivial, fun _ _ _ h hx => h.ext hx, fun _ _ _ _ _ => trivial, trivial⟩ ?_
    repeat ((refine seq_exact ?_ (by rfl) (by rfl) (fun w1 hU => ?_) ?_); (rotate_left 1); (focus (have f1 := (HP4.out.ext hU.un).cell; have f2 := (HO4.out.ext hU.un).cell; have f3 := (HC3.out.ext hU.un).cell; have f4 := (HB4.out.ext hU.un).cell; clear hU; go_simp <;> with_reducible rfl)); (simp only [Act.put, List.setIfInBounds_toArray, List.set_cons_zero, List.set_cons_succ]))
    refine seq_opaque _ _ (by rfl) rfl ⟨_, none, 0, none, 0, rfl⟩ (by simp) (fun w5 hU hp K hK => ?_) ?_
    · have hc := HFR.out _ w5 (HV4.out.ext hU.un)
      clear hp
      go_simp
      refine hc.mono ?_
      rintro e w6 ⟨u, rfl, h1, h2⟩
      exact hK _ _ h2 h1.sh h1
    rintro _ ⟨_, _, _, _, rfl⟩
    simp only [Act.put, List.setIfInBounds_toArray, List.set_cons_zero, List.set_cons_succ]
    repeat ((refine seq_exact ?_ (by rfl) (by rfl) (fun w1 hU => ?_) ?_); (rotate_left 1); (focus (have f1 := (HP4.out.ext hU.un).cell; have f2 := (HO4.out.ext hU.un).cell; have f3 := (HC3.out.ext hU.un).cell; have f4 := (HB4.out.ext hU.un).cell; clear hU; go_simp <;> with_reducible rfl)); (simp only [Act.put, List.setIfInBounds_toArray, List.set_cons_zero, List.set_cons_succ]))
    refine seq_opaque _ _ (by rfl) rfl ⟨_, none, 0, none, 0, rfl⟩ (by simp) (fun w5 hU hp K hK => ?_) ?_
    · have hc := HRO.out _ w5 (HV40.out.ext hU.un)
      clear hp
      go_simp
      refine hc.mono ?_
      rintro e w6 ⟨u, rfl, h1, h2⟩
      exact hK _ _ h2 h1.sh h1
    rintro _ ⟨_, _, _, _, rfl⟩
    simp only [Act.put, List.setIfInBounds_toArray, List.set_cons_zero, List.set_cons_succ]
    refine seq_opaque _ _ (by rfl) rfl ⟨_, rfl⟩ (by simp) (fun w5 hU hp K hK => ?_) ?_
    · have hc := HER.out _ _ w5 (hp _ (.tail _ (.head _)) (by kernel_rfl)) (hp _ (.head _) (by kernel_rfl))
      clear hp
      go_simp
      refine hc.mono ?_
      rintro e w6 ⟨rfl, h2⟩
      exact hK _ _ h2 rfl trivial
    rintro _ rfl
    simp only [Act.put, List.setIfInBounds_toArray, List.set_cons_zero, List.set_cons_succ]
    repeat ((refine seq_exact ?_ (by rfl) (by rfl) (fun w1 hU => ?_) ?_); (rotate_left 1); (focus (have f1 := (HP4.out.ext hU.un).cell; have f2 := (HO4.out.ext hU.un).cell; have f3 := (HC3.out.ext hU.un).cell; have f4 := (HB4.out.ext hU.un).cell; clear hU; go_simp <;> with_reducible rfl)); (simp only [Act.put, List.setIfInBounds_toArray, List.set_cons_zero, List.set_cons_succ]))
    refine seq_opaque _ _ (by rfl) rfl ⟨_, none, 0, none, 0, rfl⟩ (by simp) (fun w5 hU hp K hK => ?_) ?_
    · have hc := HFO.out _ w5 (HW3.out.ext hU.un)
      clear hp
      go_simp
      refine hc.mono ?_
      rintro e w6 ⟨u, rfl, h1, h2⟩
      exact hK _ _ h2 h1.sh h1
    rintro _ ⟨_, _, _, _, rfl⟩
    simp only [Act.put, List.setIfInBounds_toArray, List.set_cons_zero, List.set_cons_succ]
    repeat ((refine seq_exact ?_ (by rfl) (by rfl) (fun w1 hU => ?_) ?_); (rotate_left 1); (focus (have f1 := (HP4.out.ext hU.un).cell; have f2 := (HO4.out.ext hU.un).cell; have f3 := (HC3.out.ext hU.un).cell; have f4 := (HB4.out.ext hU.un).cell; clear hU; go_simp <;> with_reducible rfl)); (simp only [Act.put, List.setIfInBounds_toArray, List.set_cons_zero, List.set_cons_succ]))
    refine seq_opaque _ _ (by rfl) rfl ⟨_, rfl⟩ (by simp) (fun w5 hU hp K hK => ?_) ?_
    · have hc := HEO.out _ _ w5 (hp _ (.head _) (by kernel_rfl)) (HV40.out.ext hU.un)
      clear hp
      go_simp
      refine hc.mono ?_
      rintro e w6 ⟨rfl, h2⟩
      exact hK _ _ h2 rfl trivial
    rintro _ rfl
    simp only [Act.put, List.setIfInBounds_toArray, List.set_cons_zero, List.set_cons_succ]
    repeat ((refine seq_exact ?_ (by rfl) (by rfl) (fun w1 hU => ?_) ?_); (rotate_left 1); (focus (have f1 := (HP4.out.ext hU.un).cell; have f2 := (HO4.out.ext hU.un).cell; have f3 := (HC3.out.ext hU.un).cell; have f4 := (HB4.out.ext hU.un).cell; clear hU; go_simp <;> with_reducible rfl)); (simp only [Act.put, List.setIfInBounds_toArray, List.set_cons_zero, List.set_cons_succ]))
    refine seq_opaque _ _ (by rfl) rfl ⟨_, rfl⟩ (by simp) (fun w5 hU hp K hK => ?_) ?_
    · have hc := HEF.out _ _ w5 (HV4.out.ext hU.un) (HW3.out.ext hU.un)
      clear hp
      go_simp
      refine hc.mono ?_
      rintro e w6 ⟨rfl, h2⟩
      exact hK _ _ h2 rfl trivial
    rintro _ rfl
    simp only [Act.put, List.setIfInBounds_toArray, List.set_cons_zero, List.set_cons_succ]
    repeat ((refine seq_exact ?_ (by rfl) (by rfl) (fun w1 hU => ?_) ?_); (rotate_left 1); (focus (have f1 := (HP4.out.ext hU.un).cell; have f2 := (HO4.out.ext hU.un).cell; have f3 := (HC3.out.ext hU.un).cell; have f4 := (HB4.out.ext hU.un).cell; clear hU; go_simp <;> with_reducible rfl)); (simp only [Act.put, List.setIfInBounds_toArray, List.set_cons_zero, List.set_cons_succ]))
    refine seq_opaque _ _ (by rfl) rfl ⟨_, none, 0, none, 0, rfl⟩ (by simp) (fun w5 hU hp K hK => ?_) ?_
    · have hc := HFR.out _ w5 (HV4.out.ext hU.un)
      clear hp
      go_simp
      refine hc.mono ?_
      rintro e w6 ⟨u, rfl, h1, h2⟩
      exact hK _ _ h2 h1.sh h1
    rintro _ ⟨_, _, _, _, rfl⟩
    simp only [Act.put, List.setIfInBounds_toArray, List.set_cons_zero, List.set_cons_succ]
    repeat ((refine seq_exact ?_ (by rfl) (by rfl) (fun w1 hU => ?_) ?_); (rotate_left 1); (focus (have f1 := (HP4.out.ext hU.un).cell; have f2 := (HO4.out.ext hU.un).cell; have f3 := (HC3.out.ext hU.un).cell; have f4 := (HB4.out.ext hU.un).cell; clear hU; go_simp <;> with_reducible rfl)); (simp only [Act.put, List.setIfInBounds_toArray, List.set_cons_zero, List.set_cons_succ]))
    refine seq_opaque _ _ (by rfl) rfl ⟨_, rfl⟩ (by simp) (fun w5 hU hp K hK => ?_) ?_
    · have hc := HEQ.out _ _ w5 (hp _ (.head _) (by kernel_rfl)) (HV40.out.ext hU.un)
      clear hp
      go_simp
      refine hc.mono ?_
      rintro e w6 ⟨rfl, h2⟩
      exact hK _ _ h2 rfl trivial
    rintro _ rfl
    simp only [Act.put, List.setIfInBounds_toArray, List.set_cons_zero, List.set_cons_succ]
    repeat ((refine seq_exact ?_ (by rfl) (by rfl) (fun w1 hU => ?_) ?_); (rotate_left 1); (focus (have f1 := (HP4.out.ext hU.un).cell; have f2 := (HO4.out.ext hU.un).cell; have f3 := (HC3.out.ext hU.un).cell; have f4 := (HB4.out.ext hU.un).cell; clear hU; go_simp <;> with_reducible rfl)); (simp only [Act.put, List.setIfInBounds_toArray, List.set_cons_zero, List.set_cons_succ]))
    intro w7 hw7 _
    simp only [List.drop_succ_cons, List.drop_nil]
    have HE7 := hide (HE4.out.trans hw7.un)
    have HP7 := hide (HP4.out.ext hw7.un)
    have HV7 := hide (HV4.out.ext hw7.un)
    have HW7 := hide (HW3.out.ext hw7.un)
    have hxc := (HB4.out.ext hw7.un).cell
    have hic := (HC3.out.ext hw7.un).cell
    clear hw7
    cases d with
    | true =>
      clear HTN
      go_wp2_with (go_at_call 32; refine (HEF.out _ _ w7 HV7.out HW7.out).mono ?_; rintro e w8 ⟨rfl, hE8⟩; have HE8 := hide (HE7.out.trans hE8); clear hE8)
      go_ret
      exact ⟨rfl, HX0.out.trans HE8.out⟩
    | false =>
      obtain ⟨q1, q2, q3, q4, q5⟩ := HTN.out rfl
      clear HTN
      go_wp2_with (go_at_call 32; refine (HEF.out _ _ w7 HV7.out HW7.out).mono ?_; rintro e w8 ⟨rfl, hE8⟩; have HE8 := hide (HE7.out.trans hE8); have hpc := (HP7.out.ext hE8).cell; clear hE8)
      go_ret
      exact ⟨rfl, HX0.out.trans HE8.out⟩
  · rw [decide_eq_false hbig] at HFW
    clear hbig
    go_enter Tryd.func7, Tryd.ntmps7
    go_wp2_with (first
      | (go_at_call 8; refine (awake27_any _ HT.out).mono ?_; rintro e w1 ⟨rfl, hE1⟩; have HE1 := hide hE1; have hpc := (HP0.out.ext hE1).cell; have hoc := (HO0.out.ext hE1).cell; clear hE1)
      | (go_at_call 26; refine (HFW.out _).mono ?_; rintro e w2 ⟨rfl, hE2⟩; have HE2 := hide (HE1.out.trans hE2); clear hE2))
    go_ret
    exact ⟨rfl, HX0.out.trans HE2.out⟩
end Go.Proofs.YtfjddphjjhhjpaaDoor
