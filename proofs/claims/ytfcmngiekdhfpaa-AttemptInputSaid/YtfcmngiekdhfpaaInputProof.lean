/-
  It is proved that AttemptInput returns true for every outcome, every three strings of bytes and every number, and that they read afterwards as they did. There is no condition.
-/
import Derived.Test.YtfcmngiekdhfpaaAttN
import Derived.Test.YtfcmngiekdhfpaaOpenC
namespace Go.Proofs.Ytfcmngiekdhfpaa.lawInput
open Go.ChangeShapes Go.WideShapes Go.ChangeAt Go.RowKit
open Go.ChangeMaps (open_string shut_string)
set_option linter.unusedVariables false

set_option maxRecDepth 100000 in
theorem lifted (os : Os) (started : os.Started) (H : Type) (enc : TypeId × Value → H) :
    ReturnsInHanded {} Try.checked os 11 .any (Rows.attemptInputSpec.pre6 enc Try.prog Try.f11 Rows.attemptInputRow.domain false) (Rows.attemptInputSpec.post enc Try.prog Try.f11 false true false false) := by
  refine returnsInHanded_of_change_sized (C := Try.checked) own started (by kernel_rfl) Try.func11
    (ChangeSpec.witness6 (enc := enc) (C := Try.checked) false ⟨#[], #[.agg #[.int .i64 0, .int .i64 0, .int .i64 0, .slice none 0 0, .slice none 0 0], .agg #[.slice none 0 0, .slice none 0 0, .slice none 0 0], .int .u8 0], []⟩ 8 (by kernel_rfl) (by kernel_rfl) (by kernel_rfl) (by kernel_rfl)) ?_
  intro W base args ds gs before hval0 hW hcnd hsz0 _
  have hval : ∀ (j : Nat) t v, Try.f11.params[j]? = some t → args[j]? = some v → Value.okWide Try.prog W .any base t v := hval0
  have hW' := hW
  obtain ⟨p, q, hA0, hV, rfl, hfz, hnd⟩ := hW
  have hA : DataW.TrodAll enc Try.prog W 0 (fun _ => true) true Try.f11.params.toList args.toList ds p := hA0
  rw [Try.params11] at hA hval
  have hsz : (DataW.weightsEach Try.prog (Try.f11.params.toList ++ Rows.attemptInputSpec.plain.varTypes Try.prog) (ds ++ gs)).all (· ≤ reachBytes) = true := hsz0
  rw [Try.params11] at hsz
  obtain ⟨v0, vs0, d0, ds0, p0, q0, hargs, rfl, rfl, h0, r0⟩ := trodAll_cons hA
  obtain ⟨v1, vs1, d1, ds1, p1, q1, rfl, rfl, rfl, h1, r1⟩ := trodAll_cons r0
  obtain ⟨v2, vs2, d2, ds2, p2, q2, rfl, rfl, rfl, h2, r2⟩ := trodAll_cons r1
  obtain ⟨rfl, rfl, rfl⟩ := trodAll_nil r2
  obtain rfl : args = #[v0, v1, v2] := by cases args; simp_all
  obtain ⟨rfl, rfl⟩ := trodVars_none hV
  have k0 := h0
  have lt0 : ∀ x ∈ p0, x.block < W.heap.size := by obtain ⟨m, hm⟩ := k0; exact DataW.trod_lt m _ _ _ hm
  have k1 := h1
  have lt1 : ∀ x ∈ p1, x.block < W.heap.size := by obtain ⟨m, hm⟩ := k1; exact DataW.trod_lt m _ _ _ hm
  have k2 := h2
  have lt2 : ∀ x ∈ p2, x.block < W.heap.size := by obtain ⟨m, hm⟩ := k2; exact DataW.trod_lt m _ _ _ hm
  obtain ⟨x0_0, x0_1, x0_2, x0_3, x0_4, y0_0, y0_1, y0_2, y0_3, y0_4, n0, rfl, rfl, _, t0_0, t0_1, t0_2, t0_3, t0_4⟩ := open_agg5 Try.underlying57 (by kernel_rfl) (by kernel_rfl) (hval 0 57 v0 rfl rfl) h0
  obtain ⟨a0_0, rfl, w0_0⟩ := int_of_trod Try.underlying3 t0_0
  obtain ⟨a0_1, rfl, w0_1⟩ := int_of_trod Try.underlying3 t0_1
  obtain ⟨a0_2, rfl, w0_2⟩ := int_of_trod Try.underlying30 t0_2
  have r0_3 := (WtOk.field Try.underlying57 (WtOk.arg hsz (j := 0) (t := 57) rfl rfl) (j := 3) rfl rfl).all
  obtain ⟨A0_3, c0_3, l0_3, rfl, s0_3, z0_3⟩ := bytes_of_trod Try.underlying22 Try.underlying5 (by kernel_rfl) (by kernel_rfl) t0_3
  have r0_3 := z0_3 r0_3
  have r0_4 := (WtOk.field Try.underlying57 (WtOk.arg hsz (j := 0) (t := 57) rfl rfl) (j := 4) rfl rfl).all
  obtain ⟨A0_4, c0_4, l0_4, rfl, s0_4, z0_4⟩ := bytes_of_trod Try.underlying22 Try.underlying5 (by kernel_rfl) (by kernel_rfl) t0_4
  have r0_4 := z0_4 r0_4
  obtain ⟨x1_0, x1_1, x1_2, y1_0, y1_1, y1_2, n1, rfl, rfl, t1_0, t1_1, t1_2⟩ := open_arr3 Try.underlying51 (by kernel_rfl) (by kernel_rfl) (hval 1 51 v1 rfl rfl) h1
  obtain ⟨z1_0, z1_1, z1_2⟩ := arr3_weights hsz (j := 1) (t := 51) (e := 22) rfl rfl Try.underlying51
  obtain ⟨A1_0, c1_0, l1_0, rfl, s1_0, r1_0⟩ := bytes_of_trod Try.underlying22 Try.underlying5 (by kernel_rfl) (by kernel_rfl) t1_0
  have r1_0 := r1_0 z1_0
  obtain ⟨A1_1, c1_1, l1_1, rfl, s1_1, r1_1⟩ := bytes_of_trod Try.underlying22 Try.underlying5 (by kernel_rfl) (by kernel_rfl) t1_1
  have r1_1 := r1_1 z1_1
  obtain ⟨A1_2, c1_2, l1_2, rfl, s1_2, r1_2⟩ := bytes_of_trod Try.underlying22 Try.underlying5 (by kernel_rfl) (by kernel_rfl) t1_2
  have r1_2 := r1_2 z1_2
  obtain ⟨a2, rfl, rfl, rfl, w2⟩ := open_int Try.underlying5 (hval 2 5 v2 rfl rfl) h2
  clear hA0 hval0
  refine (input_law ⟨a0_0, a0_1, a0_2, l0_3, l0_4⟩ A0_3 A0_4 A1_0 A1_1 A1_2 c0_3 c0_4 c1_0 c1_1 c1_2 l1_0 l1_1 l1_2 a2 W s0_3 s0_4 s1_0 s1_1 s1_2 (by have := s0_3.le; have := s0_4.le; unfold reachBytes at r0_3 r0_4; simp only; omega) (by have := s1_0.le; have := s1_1.le; have := s1_2.le; unfold reachBytes at r1_0 r1_1 r1_2; omega) (bounds_u8 w2)).mono fun e W' ⟨he, bel⟩ => ?_
  subst he
  exact ⟨_, rfl, _, _, _, [], _, [], hW', trodAll_mk1 (shut_bool Try.underlying4 _), (trodAll_cons_mk (Below.trod laidOut (by kernel_rfl) (of_decide_eq_true (by kernel_rfl)) k0 bel lt0) (trodAll_cons_mk (Below.trod laidOut (by kernel_rfl) (of_decide_eq_true (by kernel_rfl)) k1 bel lt1) (trodAll_cons_mk (Below.trod laidOut (by kernel_rfl) (of_decide_eq_true (by kernel_rfl)) k2 bel lt2) trodAll_mk0))), rfl, Below.frame bel _, fun h => by cases h⟩

theorem over : Rows.attemptInputRow.holds Try.pinned (OpenSpec.ofChange Rows.attemptInputSpec) :=
  OpenClaim.holds_of_wide 11 Try.f11 rfl rfl rfl rfl rfl rfl rfl ⟨rfl, rfl, rfl, rfl, rfl⟩ rfl rfl rfl rfl rfl (by kernel_rfl) Try.func11 (by kernel_rfl)
    (of_decide_eq_true (by kernel_rfl)) (by unfold Func.isWrapper; first | (rw [if_pos (by decide +kernel)]; kernel_rfl) | (rw [if_neg (by decide +kernel)]; exact ⟨rfl, rfl⟩))
    (fun os started H enc _ => lifted os started H enc)

theorem proved : Rows.AttemptInputSaid := over
#print axioms proved
end Go.Proofs.Ytfcmngiekdhfpaa.lawInput
