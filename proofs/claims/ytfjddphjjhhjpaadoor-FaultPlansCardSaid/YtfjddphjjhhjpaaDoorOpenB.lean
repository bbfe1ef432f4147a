/-
  Arguments that are arrays: from their readings to what the walks take; the reach's bound.
-/
import Derived.Test.YtfjddphjjhhjpaaDoorOpen
import Derived.SizedLaws
import Derived.Lib.SmallJoins
import Derived.Laws.IdiomArrays
namespace Go.Proofs.YtfjddphjjhhjpaaDoor
open Go.ChangeShapes Go.WideShapes Go.ChangeAt Go.RowKit
set_option linter.unusedVariables false

section
variable {H : Type} {enc : TypeId × Value → H} {P : Program} {W : World}
theorem bytes_of_trod {t e : TypeId} (ht : P.underlying t = some (.slice e)) (he : P.underlying e = some (.int .u8)) (hc : P.cellsOf e = 1) (hb : P.bytesOf e = 1) {base n : Nat} {hd : Bool} {c : Value} {y : DataW H × List MemPlace}
    (h : DataW.trod enc P W base (fun _ => true) hd n t [c] = some y) : ∃ A cap l, c = .slice A (List.length (α := UInt8) l) cap ∧ Sl W A cap l ∧ ((y.1.weights P t).all (· ≤ reachBytes) = true → cap ≤ reachBytes) := by
  rcases open_ints ht he hc h with ⟨hcs, hx⟩ | ⟨x, len0, cap0, zs, hcs, _, hl, hm, hz, hx, hcell, hwz⟩
  · injection hcs with hcs
    exact ⟨none, 0, [], hcs, Sl.none_ W, fun _ => by simp [reachBytes]⟩
  · injection hcs with hcs
    rw [if_pos rfl] at hz
    have hlen : ((zs.take len0).map fun n => UInt8.ofNat n.toNat).length = len0 := by simp; omega
    refine ⟨some x, cap0, (zs.take len0).map fun n => UInt8.ofNat n.toNat, by rw [hlen]; exact hcs, ⟨by rw [hlen]; exact hl, hm, (fun h => by cases h), ?_⟩, fun hw => ?_⟩
    · by_cases h0 : len0 = 0
      · left; apply List.eq_nil_of_length_eq_zero; rw [hlen, h0]
      · right
        obtain ⟨b, off, spot⟩ := x
        have hc0 := hcell 0 (by omega)
        have hspot : spot = none := by simpa [Addr.add] using World.cell?_spot hc0
        subst hspot
        refine ⟨b, off, rfl, ?_, fun i hi => ?_⟩
        · have := World.block_lt_of_cell? _ _ hc0
          simpa [Addr.add] using this
        · rw [hlen] at hi
          have h1 := hcell i (by omega)
          rw [Addr.add_lit] at h1
          rw [h1]
          have hiz : i < zs.length := by omega
          have hg : zs.getD i 0 = zs[i] := by simp [List.getD, hiz]
          rw [hg]
          have hwf := hwz _ (List.getElem_mem hiz)
          have hbd := bounds_u8 (n := zs[i]) hwf
          simp only [List.getElem_map, List.getElem_take]
          rw [UInt8.toNat_ofNat']
          congr 2
          omega
    · have hy : y.1 = .slice (lits .u8 (zs.take len0)) (lits .u8 (zs.drop len0)) := by rw [hx]
      rw [hy] at hw
      simp only [DataW.weights, ht, List.all_cons, Bool.and_eq_true, decide_eq_true_eq] at hw
      have := hw.1
      rw [hb] at this
      simp only [lits, List.length_map, List.length_take, List.length_drop] at this
      omega
theorem okWide_array {r : Reach} {b0 : Nat} {t : TypeId} {v : Value} {n : Nat} {e : TypeId} (ht : P.underlying t = some (.array n e)) (h : Value.okWide P W r b0 t v) : ∃ cs, v = .agg cs ∧ cs.size = P.cellsOf t := by
  simp only [Value.okWide, ht] at h
  obtain ⟨cs, h1, h2, _⟩ := h
  exact ⟨cs, h1, h2⟩
theorem open_arr3 {t e : TypeId} (ht : P.underlying t = some (.array 3 e)) (hce : P.cellsOf e = 1) (hC : P.cellsOf t = 3) {r : Reach} {b0 base : Nat} {sp : Nat → Bool} {hd : Bool} {v : Value} {d : DataW H} {p : List MemPlace}
    (hok : Value.okWide P W r b0 t v) (h : DataW.Trod enc P W base sp hd t v d p) :
    ∃ (c0 c1 c2 : Value) (y0 y1 y2 : DataW H × List MemPlace) (n : Nat), v = .agg #[c0, c1, c2] ∧ d = .agg [y0.1, y1.1, y2.1] ∧ DataW.trod enc P W base sp hd n e [c0] = some y0 ∧ DataW.trod enc P W base sp hd n e [c1] = some y1 ∧ DataW.trod enc P W base sp hd n e [c2] = some y2 := by
  obtain ⟨cs, rfl, hsz⟩ := okWide_array ht hok
  obtain ⟨c0, c1, c2, rfl⟩ := Joins.array3 (hsz.trans hC)
  obtain ⟨fuel, hf⟩ := h
  obtain ⟨y0, y1, y2, n, hx, h0, h1, h2⟩ := trod_array3 ht hce (by simpa [Value.cells] using hf)
  simp only [Prod.mk.injEq] at hx
  exact ⟨c0, c1, c2, y0, y1, y2, n, rfl, hx.1, h0, h1, h2⟩
theorem arr3_weights {ts : List TypeId} {ds : List (DataW H)} (h : (DataW.weightsEach P ts ds).all (· ≤ reachBytes) = true) {j : Nat} {t e : TypeId} {a b c : DataW H} (ht : ts[j]? = some t) (hd : ds[j]? = some (.agg [a, b, c])) (hu : P.underlying t = some (.array 3 e)) :
    (a.weights P e).all (· ≤ reachBytes) = true ∧ (b.weights P e).all (· ≤ reachBytes) = true ∧ (c.weights P e).all (· ≤ reachBytes) = true := by
  have : ∀ x, x ∈ DataW.weights P t (.agg [a, b, c]) → x ≤ reachBytes := fun x hx => by
    have := List.all_eq_true.1 h _ (DataW.weights_mem_each ht hd x hx)
    simpa using this
  simp only [DataW.weights, hu, DataW.weightsAll, List.append_nil, List.mem_append] at this
  refine ⟨List.all_eq_true.2 fun x hx => ?_, List.all_eq_true.2 fun x hx => ?_, List.all_eq_true.2 fun x hx => ?_⟩
  · simpa using this x (.inl hx)
  · simpa using this x (.inr (.inl hx))
  · simpa using this x (.inr (.inr hx))
theorem int_of_trod {t : TypeId} {k : IntKind} (ht : P.underlying t = some (.int k)) {base n : Nat} {sp : Nat → Bool} {hd : Bool} {c : Value} {y : DataW H × List MemPlace}
    (h : DataW.trod enc P W base sp hd n t [c] = some y) : ∃ z, c = .int k z ∧ (Lit.int k z).wf = true := by
  obtain ⟨z, h1, h2, h3⟩ := DataW.trod_int ht h
  injection h1 with h1
  exact ⟨z, h1, h3⟩
end
end Go.Proofs.YtfjddphjjhhjpaaDoor
