/-
  An array of two slices as an argument; the reach's bound.
-/
import Derived.Test.YtfjddphjjhhjpaaDoorOpenF
namespace Go.Proofs.YtfjddphjjhhjpaaDoor
open Go.Joins Go.ChangeShapes Go.WideShapes Go.ChangeAt Go.RowKit Go.Deep
set_option linter.unusedVariables false

section
variable {H : Type} {enc : TypeId × Value → H} {P : Program} {W : World}
theorem open_arr2d {t e : TypeId} (ht : P.underlying t = some (.array 2 e)) (hce : P.cellsOf e = 1) (hC : P.cellsOf t = 2) {r : Reach} {b0 base : Nat} {sp : Nat → Bool} {hd : Bool} {v : Value} {d : DataW H} {p : List MemPlace}
    (hok : Value.okWide P W r b0 t v) (h : DataW.Trod enc P W base sp hd t v d p) :
    ∃ (c0 c1 : Value) (y0 y1 : DataW H × List MemPlace) (n : Nat), v = .agg #[c0, c1] ∧ d = .agg [y0.1, y1.1] ∧ DataW.trod enc P W base sp hd n e [c0] = some y0 ∧ DataW.trod enc P W base sp hd n e [c1] = some y1 := by
  obtain ⟨cs, rfl, hsz⟩ := okWide_array ht hok
  obtain ⟨l⟩ := cs
  match l, hsz.trans hC with
  | [c0, c1], _ =>
    obtain ⟨fuel, hf⟩ := h
    obtain ⟨xs, m, _, ex, hlen, hl, hel⟩ := DataW.trod_array ht hf
    have som : ∀ i, i < 2 → ∃ y, xs[i]? = some y := fun i hi => ⟨xs[i]'(by omega), List.getElem?_eq_getElem (by omega)⟩
    obtain ⟨y0, e0⟩ := som 0 (by omega)
    obtain ⟨y1, e1⟩ := som 1 (by omega)
    have g0 := hel 0 (by omega)
    have g1 := hel 1 (by omega)
    rw [hce, e0] at g0
    rw [hce, e1] at g1
    have hxs : xs = [y0, y1] := by
      match xs, hl, e0, e1 with
      | [a, b], _, e0, e1 => simp at e0 e1; rw [e0, e1]
    refine ⟨c0, c1, y0, y1, m, rfl, ?_, by simpa [Value.cells] using g0, by simpa [Value.cells] using g1⟩
    have := (Prod.mk.inj ex).1
    rw [this, hxs]; rfl
theorem arr2_weights {ts : List TypeId} {ds : List (DataW H)} (h : (DataW.weightsEach P ts ds).all (· ≤ reachBytes) = true) {j : Nat} {t e : TypeId} {a b : DataW H} (ht : ts[j]? = some t) (hd : ds[j]? = some (.agg [a, b])) (hu : P.underlying t = some (.array 2 e)) :
    (a.weights P e).all (· ≤ reachBytes) = true ∧ (b.weights P e).all (· ≤ reachBytes) = true := by
  have : ∀ x, x ∈ DataW.weights P t (.agg [a, b]) → x ≤ reachBytes := fun x hx => by
    have := List.all_eq_true.1 h _ (DataW.weights_mem_each ht hd x hx)
    simpa using this
  simp only [DataW.weights, hu, DataW.weightsAll, List.append_nil, List.mem_append] at this
  refine ⟨List.all_eq_true.2 fun x hx => ?_, List.all_eq_true.2 fun x hx => ?_⟩
  · simpa using this x (.inl hx)
  · simpa using this x (.inr hx)
end
end Go.Proofs.YtfjddphjjhhjpaaDoor
