/-
  An array of two as an argument.
-/
import Derived.Test.YtpnniiildnkeaaaDoorOpenC
namespace Go.Proofs.YtpnniiildnkeaaaDoor
open Go.Joins Go.ChangeShapes Go.WideShapes Go.ChangeAt Go.RowKit Go.Deep
set_option linter.unusedVariables false

section
variable {H : Type} {enc : TypeId × Value → H} {P : Program} {W : World}
theorem open_arr2 {t e : TypeId} (ht : P.underlying t = some (.array 2 e)) (hce : P.cellsOf e = 1) (hC : P.cellsOf t = 2) {r : Reach} {b0 base : Nat} {sp : Nat → Bool} {hd : Bool} {v : Value} {d : DataW H} {p : List MemPlace}
    (hok : Value.okWide P W r b0 t v) (h : DataW.Trod enc P W base sp hd t v d p) :
    ∃ (c0 c1 : Value) (y0 y1 : DataW H × List MemPlace) (n : Nat), v = .agg #[c0, c1] ∧ DataW.trod enc P W base sp hd n e [c0] = some y0 ∧ DataW.trod enc P W base sp hd n e [c1] = some y1 := by
  obtain ⟨cs, rfl, hsz⟩ := okWide_array ht hok
  obtain ⟨l⟩ := cs
  match l, hsz.trans hC with
  | [c0, c1], _ =>
    obtain ⟨fuel, hf⟩ := h
    obtain ⟨xs, m, _, _, _, hl, hel⟩ := DataW.trod_array ht hf
    have som : ∀ i, i < 2 → ∃ y, xs[i]? = some y := fun i hi => ⟨xs[i]'(by omega), List.getElem?_eq_getElem (by omega)⟩
    obtain ⟨y0, e0⟩ := som 0 (by omega)
    obtain ⟨y1, e1⟩ := som 1 (by omega)
    have g0 := hel 0 (by omega)
    have g1 := hel 1 (by omega)
    rw [hce, e0] at g0
    rw [hce, e1] at g1
    exact ⟨c0, c1, y0, y1, m, rfl, by simpa [Value.cells] using g0, by simpa [Value.cells] using g1⟩
end
end Go.Proofs.YtpnniiildnkeaaaDoor
