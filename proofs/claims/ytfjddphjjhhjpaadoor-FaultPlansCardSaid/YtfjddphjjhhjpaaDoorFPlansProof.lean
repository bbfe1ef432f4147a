/-
  It is proved that FaultPlans returns true for every two plans and every string. There is no condition but that the listed package-level variables start as the program's text lays them, which the card ties to that text.
-/
import Derived.Test.YtfjddphjjhhjpaaDoorFauZb
import Derived.Test.YtfjddphjjhhjpaaDoorOpenF
namespace Go.Proofs.YtfjddphjjhhjpaaDoor.lawFPlans
open Go.ChangeShapes Go.WideShapes Go.ChangeAt Go.RowKit
open Go.ChangeMaps (open_string shut_string)
set_option linter.unusedVariables false

set_option maxRecDepth 100000 in
theorem lifted (os : Os) (started : os.Started) (H : Type) (enc : TypeId × Value → H) :
    ReturnsInHanded {} Tryd.checked os 3 .any (fun w args => (Rows.faultPlansSpec.pre enc Tryd.prog Tryd.f3 Rows.faultPlansRow.domain false w args ∧ laidMetH Tryd.prog Rows.faultPlansRow.laid w) ∧ sizedMet enc Tryd.prog Tryd.f3 (OpenSpec.ofChange Rows.faultPlansSpec) false w args)
      (Rows.faultPlansSpec.post enc Tryd.prog Tryd.f3 false true false false) := by
  refine returnsInHanded_of_change_and (C := Tryd.checked) (X := fun w _ => laidMetH Tryd.prog Rows.faultPlansRow.laid w) (fun _ _ _ hh h => h.of_heap hh) own started (by kernel_rfl) Tryd.func3
    (witness_ref (enc := enc) (C := Tryd.checked) (os := os) (X := fun w _ => laidMetH Tryd.prog Rows.faultPlansRow.laid w) false (World.laidAll Tryd.prog os Rows.faultPlansRow.laid) #[.agg #[.int .i64 0, .int .i64 0, .int .i64 0, .int .i64 0, .int .i64 0, .int .i64 0, .int .i64 0], .agg #[.int .i64 0, .int .i64 0, .int .i64 0, .int .i64 0, .int .i64 0, .int .i64 0, .int .i64 0], .string ⟨#[]⟩] 8 (World.laidAll_os _ _ _) (World.shaped_of_ZipB (by kernel_rfl) (by kernel_rfl)) (by kernel_rfl) (by kernel_rfl) (by kernel_rfl)
      (by rw [MakeChecks.laidMetH_plain _ _ _ (by kernel_rfl)]; exact laidMet_laidAll _ (by kernel_rfl) (by kernel_rfl))) ?_
  intro W base args ds gs before hval0 hW hcnd hsz0 hL _
  have hy : Tabs W := tabs_of_laid hL (by kernel_rfl) (.tail _ (.tail _ (.tail _ (.tail _ (.head _))))) (.tail _ (.tail _ (.tail _ (.head _)))) (.tail _ (.tail _ (.head _))) (.tail _ (.tail _ (.tail _ (.tail _ (.tail _ (.head _)))))) (.tail _ (.tail _ (.tail _ (.tail _ (.tail _ (.tail _ (.head _)))))))
  have hval : ∀ (j : Nat) t v, Tryd.f3.params[j]? = some t → args[j]? = some v → Value.okWide Tryd.prog W .any base t v := hval0
  have hW' := hW
  obtain ⟨p, q, hA0, hV, rfl, hfz, hnd⟩ := hW
  have hA : DataW.TrodAll enc Tryd.prog W 0 (fun _ => true) true Tryd.f3.params.toList args.toList ds p := hA0
  rw [Tryd.params3] at hA hval
  have hsz : (DataW.weightsEach Tryd.prog (Tryd.f3.params.toList ++ Rows.faultPlansSpec.plain.varTypes Tryd.prog) (ds ++ gs)).all (· ≤ reachBytes) = true := hsz0
  rw [Tryd.params3] at hsz
  obtain ⟨v0, vs0, d0, ds0, p0, q0, hargs, rfl, rfl, h0, r0⟩ := trodAll_cons hA
  obtain ⟨v1, vs1, d1, ds1, p1, q1, rfl, rfl, rfl, h1, r1⟩ := trodAll_cons r0
  obtain ⟨v2, vs2, d2, ds2, p2, q2, rfl, rfl, rfl, h2, r2⟩ := trodAll_cons r1
  obtain ⟨rfl, rfl, rfl⟩ := trodAll_nil r2
  obtain rfl : args = #[v0, v1, v2] := by cases args; simp_all
  obtain ⟨rfl, rfl⟩ := trodVars_none hV
  have k0 := h0
  have lt0 : ∀ x ∈ p0, x.block < W.heap.size := by obtain ⟨m, hm⟩ := k0; exact DataW.trod_lt m _ _ _ hm
  have k1 := h1
  have lt1 : ∀ x ∈ p1, x.block < W.heap.size := by obtain ⟨m, hm⟩ := k1; exact DataW.trod_lt m _ _ _ hm
  have k2 := h2
  have lt2 : ∀ x ∈ p2, x.block < W.heap.size := by obtain ⟨m, hm⟩ := k2; exact DataW.trod_lt m _ _ _ hm
  obtain ⟨x0_0, x0_1, x0_2, x0_3, x0_4, x0_5, x0_6, y0_0, y0_1, y0_2, y0_3, y0_4, y0_5, y0_6, n0, rfl, rfl, _, t0_0, t0_1, t0_2, t0_3, t0_4, t0_5, t0_6⟩ := open_agg7 Tryd.underlying23 (by kernel_rfl) (by kernel_rfl) (hval 0 23 v0 rfl rfl) h0
  obtain ⟨a0_0, rfl, w0_0⟩ := int_of_trod Tryd.underlying3 t0_0
  obtain ⟨a0_1, rfl, w0_1⟩ := int_of_trod Tryd.underlying3 t0_1
  obtain ⟨a0_2, rfl, w0_2⟩ := int_of_trod Tryd.underlying3 t0_2
  obtain ⟨a0_3, rfl, w0_3⟩ := int_of_trod Tryd.underlying3 t0_3
  obtain ⟨a0_4, rfl, w0_4⟩ := int_of_trod Tryd.underlying3 t0_4
  obtain ⟨a0_5, rfl, w0_5⟩ := int_of_trod Tryd.underlying3 t0_5
  obtain ⟨a0_6, rfl, w0_6⟩ := int_of_trod Tryd.underlying3 t0_6
  obtain ⟨x1_0, x1_1, x1_2, x1_3, x1_4, x1_5, x1_6, y1_0, y1_1, y1_2, y1_3, y1_4, y1_5, y1_6, n1, rfl, rfl, _, t1_0, t1_1, t1_2, t1_3, t1_4, t1_5, t1_6⟩ := open_agg7 Tryd.underlying23 (by kernel_rfl) (by kernel_rfl) (hval 1 23 v1 rfl rfl) h1
  obtain ⟨a1_0, rfl, w1_0⟩ := int_of_trod Tryd.underlying3 t1_0
  obtain ⟨a1_1, rfl, w1_1⟩ := int_of_trod Tryd.underlying3 t1_1
  obtain ⟨a1_2, rfl, w1_2⟩ := int_of_trod Tryd.underlying3 t1_2
  obtain ⟨a1_3, rfl, w1_3⟩ := int_of_trod Tryd.underlying3 t1_3
  obtain ⟨a1_4, rfl, w1_4⟩ := int_of_trod Tryd.underlying3 t1_4
  obtain ⟨a1_5, rfl, w1_5⟩ := int_of_trod Tryd.underlying3 t1_5
  obtain ⟨a1_6, rfl, w1_6⟩ := int_of_trod Tryd.underlying3 t1_6
  obtain ⟨a2, rfl, rfl, rfl, w2⟩ := open_string Tryd.underlying9 (hval 2 9 v2 rfl rfl) h2
  clear hA0 hval0
  refine (fplans_law' ⟨a0_0, a0_1, a0_2, a0_3, a0_4, a0_5, a0_6⟩ ⟨a1_0, a1_1, a1_2, a1_3, a1_4, a1_5, a1_6⟩ a2 W hy).mono fun e W' ⟨he, bel⟩ => ?_
  subst he
  exact ⟨_, rfl, _, _, _, [], _, [], hW', trodAll_mk1 (shut_bool Tryd.underlying4 _), (trodAll_cons_mk (Below.trod laidOut (by kernel_rfl) (of_decide_eq_true (by kernel_rfl)) k0 bel lt0) (trodAll_cons_mk (Below.trod laidOut (by kernel_rfl) (of_decide_eq_true (by kernel_rfl)) k1 bel lt1) (trodAll_cons_mk (Below.trod laidOut (by kernel_rfl) (of_decide_eq_true (by kernel_rfl)) k2 bel lt2) trodAll_mk0))), rfl, Below.frame bel _, fun h => by cases h⟩

theorem over : Rows.faultPlansRow.holds Tryd.pinned (OpenSpec.ofChange Rows.faultPlansSpec) :=
  OpenClaim.holds_of_wide 3 Tryd.f3 rfl rfl rfl rfl rfl rfl rfl ⟨rfl, rfl, rfl, rfl, rfl⟩ rfl rfl rfl rfl rfl (by kernel_rfl) Tryd.func3 (by kernel_rfl)
    (of_decide_eq_true (by kernel_rfl)) (by unfold Func.isWrapper; first | (rw [if_pos (by decide +kernel)]; kernel_rfl) | (rw [if_neg (by decide +kernel)]; exact ⟨rfl, rfl⟩))
    (fun os started H enc _ => lifted os started H enc)

set_option maxRecDepth 100000 in
theorem proved : Rows.FaultPlansCardSaid :=
  Claim7.holds_tied_plain_at .later [] [.data, .data, .data, .sentinel, .sentinel, .listed, .data] true (true, "d86684b19c8b10f46650dd4200db6f029df529b5cb44a65a163c0068a217120a") true
    over (fun _ h => by cases h) (by kernel_rfl) (fun _ h => by cases h) faultPlans_row_tie rfl ⟨rfl, rfl⟩ (by kernel_rfl) rfl
    (fun f fn hf hfn => by
      obtain rfl : f = 3 := Option.some.inj ((show Tryd.prog.funcNamed "ratoon/ratoonlaw27.FaultPlans" = some 3 by kernel_rfl).symm.trans hf) |>.symm
      obtain rfl : fn = Tryd.f3 := (Option.some.inj (Tryd.func3.symm.trans hfn)).symm
      exact ⟨by kernel_rfl, fun j t ht => by
        rw [Tryd.params3] at ht
        match j, ht with
        | 0, ht =>
          obtain rfl : t = 23 := by simpa using ht.symm
          exact (by kernel_rfl : Tryd.prog.wantsStandIn 23 = false)
        | 1, ht =>
          obtain rfl : t = 23 := by simpa using ht.symm
          exact (by kernel_rfl : Tryd.prog.wantsStandIn 23 = false)
        | 2, ht =>
          obtain rfl : t = 9 := by simpa using ht.symm
          exact (by kernel_rfl : Tryd.prog.wantsStandIn 9 = false)
        | j + 3, ht => simp at ht⟩)
    (by kernel_rfl)
#print axioms proved
end Go.Proofs.YtfjddphjjhhjpaaDoor.lawFPlans
