/-
  It is proved that SumDamage returns true for every message, every change and every mask, and that they read afterwards as they did. There is no condition but that the listed package-level variables start as the program's text lays them, which the card ties to that text.
-/
import Derived.Test.YtpnniiildnkeaaaDoorSumR
import Derived.Test.YtpnniiildnkeaaaDoorOpenM
import Derived.Test.YtpnniiildnkeaaaDoorOpenT
namespace Go.Proofs.YtpnniiildnkeaaaDoor.lawDamage
open Go.ChangeShapes Go.WideShapes Go.ChangeAt Go.RowKit
open Go.ChangeMaps (open_string shut_string)
set_option linter.unusedVariables false

set_option maxRecDepth 100000 in
theorem lifted (os : Os) (started : os.Started) (H : Type) (enc : TypeId × Value → H) :
    ReturnsInHanded {} Tryd.checked os 5 .any (fun w args => (Rows.sumDamageSpec.pre enc Tryd.prog Tryd.f5 Rows.sumDamageRow.domain false w args ∧ laidMetH Tryd.prog Rows.sumDamageRow.laid w) ∧ sizedMet enc Tryd.prog Tryd.f5 (OpenSpec.ofChange Rows.sumDamageSpec) false w args)
      (Rows.sumDamageSpec.post enc Tryd.prog Tryd.f5 false true false false) := by
  refine returnsInHanded_of_change_and (C := Tryd.checked) (X := fun w _ => laidMetH Tryd.prog Rows.sumDamageRow.laid w) (fun _ _ _ hh h => h.of_heap hh) own started (by kernel_rfl) Tryd.func5
    (ChangeSpec.witness_at (enc := enc) (C := Tryd.checked) (os := os) (X := fun w _ => laidMetH Tryd.prog Rows.sumDamageRow.laid w) false (World.laidAll Tryd.prog os Rows.sumDamageRow.laid) #[.agg #[.int .i64 0, .int .i64 0, .int .i64 0, .int .i64 0, .int .i64 0, .int .i64 0, .int .i64 0, .int .i64 0, .slice none 0 0], .agg #[.int .u16 0, .int .u8 0], .int .u8 0] 8 (World.laidAll_os _ _ _) (by kernel_rfl) (by kernel_rfl) (by kernel_rfl) (by kernel_rfl) (by kernel_rfl)
      (by rw [MakeChecks.laidMetH_plain _ _ _ (by kernel_rfl)]; exact laidMet_laidAll _ (by kernel_rfl) (by kernel_rfl))) ?_
  intro W base args ds gs before hval0 hW hcnd hsz0 hL _
  have hz : TZ W := tz_of_laid hL (by kernel_rfl)
  have hval : ∀ (j : Nat) t v, Tryd.f5.params[j]? = some t → args[j]? = some v → Value.okWide Tryd.prog W .any base t v := hval0
  have hW' := hW
  obtain ⟨p, q, hA0, hV, rfl, hfz, hnd⟩ := hW
  have hA : DataW.TrodAll enc Tryd.prog W 0 (fun _ => true) true Tryd.f5.params.toList args.toList ds p := hA0
  rw [Tryd.params5] at hA hval
  have hsz : (DataW.weightsEach Tryd.prog (Tryd.f5.params.toList ++ Rows.sumDamageSpec.plain.varTypes Tryd.prog) (ds ++ gs)).all (· ≤ reachBytes) = true := hsz0
  rw [Tryd.params5] at hsz
  obtain ⟨v0, vs0, d0, ds0, p0, q0, hargs, rfl, rfl, h0, r0⟩ := trodAll_cons hA
  obtain ⟨v1, vs1, d1, ds1, p1, q1, rfl, rfl, rfl, h1, r1⟩ := trodAll_cons r0
  obtain ⟨v2, vs2, d2, ds2, p2, q2, rfl, rfl, rfl, h2, r2⟩ := trodAll_cons r1
  obtain ⟨rfl, rfl, rfl⟩ := trodAll_nil r2
  obtain rfl : args = #[v0, v1, v2] := by cases args; simp_all
  obtain ⟨rfl, rfl⟩ := trodVars_none hV
  have k0 := h0
  have lt0 : ∀ x ∈ p0, x.block < W.heap.size := by obtain ⟨m, hm⟩ := k0; exact DataW.trod_lt m _ _ _ hm
  have k1 := h1
  have lt1 : ∀ x ∈ p1, x.block < W.heap.size := by obtain ⟨m, hm⟩ := k1; exact DataW.trod_lt m _ _ _ hm
  have k2 := h2
  have lt2 : ∀ x ∈ p2, x.block < W.heap.size := by obtain ⟨m, hm⟩ := k2; exact DataW.trod_lt m _ _ _ hm
  obtain ⟨a0_0, a0_1, a0_2, a0_3, a0_4, a0_5, a0_6, a0_7, A0, c0, l0, rfl, s0, w0_4, w0_5, w0_6, w0_7⟩ := open_msg (hval 0 29 v0 rfl rfl) h0
  obtain ⟨x1_0, x1_1, y1_0, y1_1, n1, rfl, rfl, _, t1_0, t1_1⟩ := open_agg2 Tryd.underlying34 (by kernel_rfl) (by kernel_rfl) (hval 1 34 v1 rfl rfl) h1
  obtain ⟨a1_0, rfl, w1_0⟩ := int_of_trod Tryd.underlying32 t1_0
  obtain ⟨a1_1, rfl, w1_1⟩ := int_of_trod Tryd.underlying5 t1_1
  obtain ⟨a2, rfl, rfl, rfl, w2⟩ := open_int Tryd.underlying5 (hval 2 5 v2 rfl rfl) h2
  clear hA0 hval0
  refine (damage_law' a0_0 a0_1 a0_2 a0_3 a0_4 a0_5 a0_6 a0_7 A0 c0 l0 a1_0 a1_1 a2 W w1_0 w2 hz s0).mono fun e W' ⟨he, bel⟩ => ?_
  subst he
  exact ⟨_, rfl, _, _, _, [], _, [], hW', trodAll_mk1 (shut_bool Tryd.underlying4 _), (trodAll_cons_mk (Below.trod laidOut (by kernel_rfl) (of_decide_eq_true (by kernel_rfl)) k0 bel lt0) (trodAll_cons_mk (Below.trod laidOut (by kernel_rfl) (of_decide_eq_true (by kernel_rfl)) k1 bel lt1) (trodAll_cons_mk (Below.trod laidOut (by kernel_rfl) (of_decide_eq_true (by kernel_rfl)) k2 bel lt2) trodAll_mk0))), rfl, Below.frame bel _, fun h => by cases h⟩

theorem over : Rows.sumDamageRow.holds Tryd.pinned (OpenSpec.ofChange Rows.sumDamageSpec) :=
  OpenClaim.holds_of_wide 5 Tryd.f5 rfl rfl rfl rfl rfl rfl rfl ⟨rfl, rfl, rfl, rfl, rfl⟩ rfl rfl rfl rfl rfl (by kernel_rfl) Tryd.func5 (by kernel_rfl)
    (of_decide_eq_true (by kernel_rfl)) (by unfold Func.isWrapper; first | (rw [if_pos (by decide +kernel)]; kernel_rfl) | (rw [if_neg (by decide +kernel)]; exact ⟨rfl, rfl⟩))
    (fun os started H enc _ => lifted os started H enc)

set_option maxRecDepth 100000 in
theorem proved : Rows.SumDamageCardSaid :=
  Claim7.holds_tied_plain_at .later [] [.data, .data, .data] true (true, "633158c44142dac367e42e1b0133fb7de717530d701eb8514a067aac7f400922") true
    over (fun _ h => by cases h) (by kernel_rfl) (fun _ h => by cases h) sumDamage_row_tie rfl ⟨rfl, rfl⟩ (by kernel_rfl) rfl
    (fun f fn hf hfn => by
      obtain rfl : f = 5 := Option.some.inj ((show Tryd.prog.funcNamed "ratoon/ratoonlaw02.SumDamage" = some 5 by kernel_rfl).symm.trans hf) |>.symm
      obtain rfl : fn = Tryd.f5 := (Option.some.inj (Tryd.func5.symm.trans hfn)).symm
      exact ⟨by kernel_rfl, fun j t ht => by
        rw [Tryd.params5] at ht
        match j, ht with
        | 0, ht =>
          obtain rfl : t = 29 := by simpa using ht.symm
          exact (by kernel_rfl : Tryd.prog.wantsStandIn 29 = false)
        | 1, ht =>
          obtain rfl : t = 34 := by simpa using ht.symm
          exact (by kernel_rfl : Tryd.prog.wantsStandIn 34 = false)
        | 2, ht =>
          obtain rfl : t = 5 := by simpa using ht.symm
          exact (by kernel_rfl : Tryd.prog.wantsStandIn 5 = false)
        | j + 3, ht => simp at ht⟩)
    (by kernel_rfl)
#print axioms proved
end Go.Proofs.YtpnniiildnkeaaaDoor.lawDamage
