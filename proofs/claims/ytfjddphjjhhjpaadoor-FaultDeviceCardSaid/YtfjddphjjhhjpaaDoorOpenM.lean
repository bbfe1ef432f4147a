/-
  A message as an argument: from its reading to what the walks take.
-/
import Derived.Test.YtfjddphjjhhjpaaDoorOpenC
namespace Go.Proofs.YtfjddphjjhhjpaaDoor
open Go.Joins Go.ChangeShapes Go.WideShapes Go.ChangeAt Go.RowKit Go.Deep
set_option linter.unusedVariables false

section
variable {H : Type} {enc : TypeId × Value → H} {W : World}
set_option maxRecDepth 100000 in
theorem open_msg {r : Reach} {b0 base : Nat} {hd : Bool} {v : Value} {d : DataW H} {p : List MemPlace}
    (hv : Value.okWide Tryd.prog W r b0 51 v) (h : DataW.Trod enc Tryd.prog W base (fun _ => true) hd 51 v d p) :
    ∃ (s t k q a b c z : Int) (A : Option Addr) (cap : Nat) (l : List UInt8), v = .agg #[.int .i64 s, .int .i64 t, .int .i64 k, .int .i64 q, .int .i64 a, .int .i64 b, .int .i64 c, .int .i64 z, .slice A (List.length (α := UInt8) l) cap] ∧ Sl W A cap l ∧
      ((Lit.int .i64 a).wf = true ∧ (Lit.int .i64 b).wf = true ∧ (Lit.int .i64 c).wf = true ∧ (Lit.int .i64 z).wf = true) := by
  obtain ⟨cs, rfl, hsz⟩ := okWide_struct Tryd.underlying51 hv
  have hC : Tryd.prog.cellsOf 51 = 9 := by kernel_rfl
  have c1 : Tryd.prog.cellsOf 3 = 1 := by kernel_rfl
  have c4 : Tryd.prog.cellsOf 49 = 4 := by kernel_rfl
  have cb : Tryd.prog.cellsOf 39 = 1 := by kernel_rfl
  obtain ⟨l⟩ := cs
  match l, hsz.trans hC with
  | [x0, x1, x2, x3, x4, x5, x6, x7, x8], _ =>
    obtain ⟨fuel, hf⟩ := h
    obtain ⟨xs, n, _, hx, _, hlen, hg⟩ := DataW.trod_struct Tryd.underlying51 hf
    have hl6 : xs.length = 6 := hlen
    have som : ∀ i, i < 6 → ∃ y, xs[i]? = some y := fun i hi => ⟨xs[i]'(by omega), List.getElem?_eq_getElem (by omega)⟩
    have g0 : DataW.trod enc Tryd.prog W base (fun _ => true) hd n 3 [x0] = xs[0]? := by have := hg 0 _ rfl; simpa [c1, Value.cells] using this
    obtain ⟨y0, e0⟩ := som 0 (by omega)
    rw [e0] at g0
    obtain ⟨z0, rfl, w0⟩ := int_of_trod Tryd.underlying3 g0
    have g1 : DataW.trod enc Tryd.prog W base (fun _ => true) hd n 3 [x1] = xs[1]? := by have := hg 1 _ rfl; simpa [c1, Value.cells] using this
    obtain ⟨y1, e1⟩ := som 1 (by omega)
    rw [e1] at g1
    obtain ⟨z1, rfl, w1⟩ := int_of_trod Tryd.underlying3 g1
    have g2 : DataW.trod enc Tryd.prog W base (fun _ => true) hd n 3 [x2] = xs[2]? := by have := hg 2 _ rfl; simpa [c1, Value.cells] using this
    obtain ⟨y2, e2⟩ := som 2 (by omega)
    rw [e2] at g2
    obtain ⟨z2, rfl, w2⟩ := int_of_trod Tryd.underlying3 g2
    have g3 : DataW.trod enc Tryd.prog W base (fun _ => true) hd n 3 [x3] = xs[3]? := by have := hg 3 _ rfl; simpa [c1, Value.cells] using this
    obtain ⟨y3, e3⟩ := som 3 (by omega)
    rw [e3] at g3
    obtain ⟨z3, rfl, w3⟩ := int_of_trod Tryd.underlying3 g3
    have g4 : DataW.trod enc Tryd.prog W base (fun _ => true) hd n 49 [x4, x5, x6, x7] = xs[4]? := by have := hg 4 _ rfl; simpa [c4, Value.cells] using this
    obtain ⟨y4, e4⟩ := som 4 (by omega)
    rw [e4] at g4
    obtain ⟨us, m, _, _, _, hul, hel⟩ := DataW.trod_array Tryd.underlying49 g4
    have som4 : ∀ i, i < 4 → ∃ y, us[i]? = some y := fun i hi => ⟨us[i]'(by omega), List.getElem?_eq_getElem (by omega)⟩
    have k0 : DataW.trod enc Tryd.prog W base (fun _ => true) hd m 3 [x4] = us[0]? := by have := hel 0 (by omega); simpa [c1] using this
    obtain ⟨v0, f0⟩ := som4 0 (by omega)
    rw [f0] at k0
    obtain ⟨u0, rfl, q0⟩ := int_of_trod Tryd.underlying3 k0
    have k1 : DataW.trod enc Tryd.prog W base (fun _ => true) hd m 3 [x5] = us[1]? := by have := hel 1 (by omega); simpa [c1] using this
    obtain ⟨v1, f1⟩ := som4 1 (by omega)
    rw [f1] at k1
    obtain ⟨u1, rfl, q1⟩ := int_of_trod Tryd.underlying3 k1
    have k2 : DataW.trod enc Tryd.prog W base (fun _ => true) hd m 3 [x6] = us[2]? := by have := hel 2 (by omega); simpa [c1] using this
    obtain ⟨v2, f2⟩ := som4 2 (by omega)
    rw [f2] at k2
    obtain ⟨u2, rfl, q2⟩ := int_of_trod Tryd.underlying3 k2
    have k3 : DataW.trod enc Tryd.prog W base (fun _ => true) hd m 3 [x7] = us[3]? := by have := hel 3 (by omega); simpa [c1] using this
    obtain ⟨v3, f3⟩ := som4 3 (by omega)
    rw [f3] at k3
    obtain ⟨u3, rfl, q3⟩ := int_of_trod Tryd.underlying3 k3
    have g5 : DataW.trod enc Tryd.prog W base (fun _ => true) hd n 39 [x8] = xs[5]? := by have := hg 5 _ rfl; simpa [cb, Value.cells] using this
    obtain ⟨y5, e5⟩ := som 5 (by omega)
    rw [e5] at g5
    obtain ⟨A, cap, l, rfl, hs, _⟩ := bytes_of_trod Tryd.underlying39 Tryd.underlying5 (by kernel_rfl) (by kernel_rfl) g5
    exact ⟨z0, z1, z2, z3, u0, u1, u2, u3, A, cap, l, rfl, hs, q0, q1, q2, q3⟩
end
end Go.Proofs.YtfjddphjjhhjpaaDoor
