/-
  It is proved that FaultOutput returns true for every plan, every number and every outcome, and that they read afterwards as they did. There is no condition but that the listed package-level variables start as the program's text lays them, which the card ties to that text.
-/
import Derived.Test.YtfjddphjjhhjpaaDoorFauL
import Derived.Test.YtfjddphjjhhjpaaDoorOpenF
namespace Go.Proofs.YtfjddphjjhhjpaaDoor.lawFOutput
open Go.ChangeShapes Go.WideShapes Go.ChangeAt Go.RowKit
open Go.ChangeMaps (open_string shut_string)
set_option linter.unusedVariables false

set_option maxRecDepth 100000 in
theorem lifted (os : Os) (started : os.Started) (H : Type) (enc : TypeId × Value → H) :
    ReturnsInHanded {} Tryd.checked os 7 .any (fun w args => (Rows.faultOutputSpec.pre enc Tryd.prog Tryd.f7 Rows.faultOutputRow.domain false w args ∧ laidMetH Tryd.prog Rows.faultOutputRow.laid w) ∧ sizedMet enc Tryd.prog Tryd.f7 (OpenSpec.ofChange Rows.faultOutputSpec) false w args)
      (Rows.faultOutputSpec.post enc Tryd.prog Tryd.f7 false true false false) := by
  refine returnsInHanded_of_change_and (C := Tryd.checked) (X := fun w _ => laidMetH Tryd.prog Rows.faultOutputRow.laid w) (fun _ _ _ hh h => h.of_heap hh) own started (by kernel_rfl) Tryd.func7
    (witness_ref (enc := enc) (C := Tryd.checked) (os := os) (X := fun w _ => laidMetH Tryd.prog Rows.faultOutputRow.laid w) false (World.laidAll Tryd.prog os Rows.faultOutputRow.laid) #[.agg #[.int .i64 0, .int .i64 0, .int .i64 0, .int .i64 0, .int .i64 0, .int .i64 0, .int .i64 0], .int .i64 0, .agg #[.int .i64 0, .int .i64 0, .int .i64 0, .slice none 0 0, .slice none 0 0]] 8 (World.laidAll_os _ _ _) (World.shaped_of_ZipB (by kernel_rfl) (by kernel_rfl)) (by kernel_rfl) (by kernel_rfl) (by kernel_rfl)
      (by rw [MakeChecks.laidMetH_plain _ _ _ (by kernel_rfl)]; exact laidMet_laidAll _ (by kernel_rfl) (by kernel_rfl))) ?_
  intro W base args ds gs before hval0 hW hcnd hsz0 hL _
  have hy : Tabs W := tabs_of_laid hL (by kernel_rfl) (.tail _ (.tail _ (.tail _ (.tail _ (.head _))))) (.tail _ (.tail _ (.tail _ (.head _)))) (.tail _ (.tail _ (.head _))) (.tail _ (.tail _ (.tail _ (.tail _ (.tail _ (.head _)))))) (.tail _ (.tail _ (.tail _ (.tail _ (.tail _ (.tail _ (.head _)))))))
  have hval : ∀ (j : Nat) t v, Tryd.f7.params[j]? = some t → args[j]? = some v → Value.okWide Tryd.prog W .any base t v := hval0
  have hW' := hW
  obtain ⟨p, q, hA0, hV, rfl, hfz, hnd⟩ := hW
  have hA : DataW.TrodAll enc Tryd.prog W 0 (fun _ => true) true Tryd.f7.params.toList args.toList ds p := hA0
  rw [Tryd.params7] at hA hval
  have hsz : (DataW.weightsEach Tryd.prog (Tryd.f7.params.toList ++ Rows.faultOutputSpec.plain.varTypes Tryd.prog) (ds ++ gs)).all (· ≤ reachBytes) = true := hsz0
  rw [Tryd.params7] at hsz
  obtain ⟨v0, vs0, d0, ds0, p0, q0, hargs, rfl, rfl, h0, r0⟩ := trodAll_cons hA
  obtain ⟨v1, vs1, d1, ds1, p1, q1, rfl, rfl, rfl, h1, r1⟩ := trodAll_cons r0
  obtain ⟨v2, vs2, d2, ds2, p2, q2, rfl, rfl, rfl, h2, r2⟩ := trodAll_cons r1
  obtain ⟨rfl, rfl, rfl⟩ := trodAll_nil r2
  obtain rfl : args = #[v0, v1, v2] := by cases args; simp_all
  obtain ⟨rfl, rfl⟩ := trodVars_none hV
  have k0 := h0
  have lt0 : ∀ x ∈ p0, x.block < W.heap.size := by obtain ⟨m, hm⟩ := k0; exact DataW.trod_lt m _ _ _ hm
  have k1 := h1
  have lt1 : ∀ x ∈ p1, x.block < W.heap.size := by obtain ⟨m, hm⟩ := k1; exact DataW.trod_lt m _ _ _ hm
  have k2 := h2
  have lt2 : ∀ x ∈ p2, x.block < W.heap.size := by obtain ⟨m, hm⟩ := k2; exact DataW.trod_lt m _ _ _ hm
  obtain ⟨x0_0, x0_1, x0_2, x0_3, x0_4, x0_5, x0_6, y0_0, y0_1, y0_2, y0_3, y0_4, y0_5, y0_6, n0, rfl, rfl, _, t0_0, t0_1, t0_2, t0_3, t0_4, t0_5, t0_6⟩ := open_agg7 Tryd.underlying23 (by kernel_rfl) (by kernel_rfl) (hval 0 23 v0 rfl rfl) h0
  obtain ⟨a0_0, rfl, w0_0⟩ := int_of_trod Tryd.underlying3 t0_0
  obtain ⟨a0_1, rfl, w0_1⟩ := int_of_trod Tryd.underlying3 t0_1
  obtain ⟨a0_2, rfl, w0_2⟩ := int_of_trod Tryd.underlying3 t0_2
  obtain ⟨a0_3, rfl, w0_3⟩ := int_of_trod Tryd.underlying3 t0_3
  obtain ⟨a0_4, rfl, w0_4⟩ := int_of_trod Tryd.underlying3 t0_4
  obtain ⟨a0_5, rfl, w0_5⟩ := int_of_trod Tryd.underlying3 t0_5
  obtain ⟨a0_6, rfl, w0_6⟩ := int_of_trod Tryd.underlying3 t0_6
  obtain ⟨a1, rfl, rfl, rfl, w1⟩ := open_int Tryd.underlying3 (hval 1 3 v1 rfl rfl) h1
  obtain ⟨x2_0, x2_1, x2_2, x2_3, x2_4, y2_0, y2_1, y2_2, y2_3, y2_4, n2, rfl, rfl, _, t2_0, t2_1, t2_2, t2_3, t2_4⟩ := open_agg5 Tryd.underlying61 (by kernel_rfl) (by kernel_rfl) (hval 2 61 v2 rfl rfl) h2
  obtain ⟨a2_0, rfl, w2_0⟩ := int_of_trod Tryd.underlying3 t2_0
  obtain ⟨a2_1, rfl, w2_1⟩ := int_of_trod Tryd.underlying3 t2_1
  obtain ⟨a2_2, rfl, w2_2⟩ := int_of_trod Tryd.underlying25 t2_2
  have r2_3 := (WtOk.field Tryd.underlying61 (WtOk.arg hsz (j := 2) (t := 61) rfl rfl) (j := 3) rfl rfl).all
  obtain ⟨A2_3, c2_3, l2_3, rfl, s2_3, z2_3⟩ := bytes_of_trod Tryd.underlying39 Tryd.underlying5 (by kernel_rfl) (by kernel_rfl) t2_3
  have r2_3 := z2_3 r2_3
  have r2_4 := (WtOk.field Tryd.underlying61 (WtOk.arg hsz (j := 2) (t := 61) rfl rfl) (j := 4) rfl rfl).all
  obtain ⟨A2_4, c2_4, l2_4, rfl, s2_4, z2_4⟩ := bytes_of_trod Tryd.underlying39 Tryd.underlying5 (by kernel_rfl) (by kernel_rfl) t2_4
  have r2_4 := z2_4 r2_4
  clear hA0 hval0
  refine (foutput_law ⟨a0_0, a0_1, a0_2, a0_3, a0_4, a0_5, a0_6⟩ a1 ⟨a2_0, a2_1, a2_2, l2_3, l2_4⟩ A2_3 A2_4 c2_3 c2_4 W s2_3 s2_4 (by have := s2_3.le; have := s2_4.le; unfold reachBytes at r2_3 r2_4; simp only; omega) hy).mono fun e W' ⟨he, bel⟩ => ?_
  subst he
  exact ⟨_, rfl, _, _, _, [], _, [], hW', trodAll_mk1 (shut_bool Tryd.underlying4 _), (trodAll_cons_mk (Below.trod laidOut (by kernel_rfl) (of_decide_eq_true (by kernel_rfl)) k0 bel lt0) (trodAll_cons_mk (Below.trod laidOut (by kernel_rfl) (of_decide_eq_true (by kernel_rfl)) k1 bel lt1) (trodAll_cons_mk (Below.trod laidOut (by kernel_rfl) (of_decide_eq_true (by kernel_rfl)) k2 bel lt2) trodAll_mk0))), rfl, Below.frame bel _, fun h => by cases h⟩

theorem over : Rows.faultOutputRow.holds Tryd.pinned (OpenSpec.ofChange Rows.faultOutputSpec) :=
  OpenClaim.holds_of_wide 7 Tryd.f7 rfl rfl rfl rfl rfl rfl rfl ⟨rfl, rfl, rfl, rfl, rfl⟩ rfl rfl rfl rfl rfl (by kernel_rfl) Tryd.func7 (by kernel_rfl)
    (of_decide_eq_true (by kernel_rfl)) (by unfold Func.isWrapper; first | (rw [if_pos (by decide +kernel)]; kernel_rfl) | (rw [if_neg (by decide +kernel)]; exact ⟨rfl, rfl⟩))
    (fun os started H enc _ => lifted os started H enc)

set_option maxRecDepth 100000 in
theorem proved : Rows.FaultOutputCardSaid :=
  Claim7.holds_tied_plain_at .later [] [.data, .data, .data, .sentinel, .sentinel, .listed, .data] true (true, "d86684b19c8b10f46650dd4200db6f029df529b5cb44a65a163c0068a217120a") true
    over (fun _ h => by cases h) (by kernel_rfl) (fun _ h => by cases h) faultOutput_row_tie rfl ⟨rfl, rfl⟩ (by kernel_rfl) rfl
    (fun f fn hf hfn => by
      obtain rfl : f = 7 := Option.some.inj ((show Tryd.prog.funcNamed "ratoon/ratoonlaw27.FaultOutput" = some 7 by kernel_rfl).symm.trans hf) |>.symm
      obtain rfl : fn = Tryd.f7 := (Option.some.inj (Tryd.func7.symm.trans hfn)).symm
      exact ⟨by kernel_rfl, fun j t ht => by
        rw [Tryd.params7] at ht
        match j, ht with
        | 0, ht =>
          obtain rfl : t = 23 := by simpa using ht.symm
          exact (by kernel_rfl : Tryd.prog.wantsStandIn 23 = false)
        | 1, ht =>
          obtain rfl : t = 3 := by simpa using ht.symm
          exact (by kernel_rfl : Tryd.prog.wantsStandIn 3 = false)
        | 2, ht =>
          obtain rfl : t = 61 := by simpa using ht.symm
          exact (by kernel_rfl : Tryd.prog.wantsStandIn 61 = false)
        | j + 3, ht => simp at ht⟩)
    (by kernel_rfl)
#print axioms proved
end Go.Proofs.YtfjddphjjhhjpaaDoor.lawFOutput
