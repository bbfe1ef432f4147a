/-
  From what the rows say of the listed variables to the fact that the walks take.
-/
import Derived.Test.YtpnniiildnkeaaaDoorOpenC
import Derived.Test.YtpnniiildnkeaaaDoorTie
import Derived.Test.YtpnniiildnkeaaaDoorCards
import Derived.LaidLaws
import Derived.LaidHandle
import Derived.Handed
import Derived.Lay
import Derived.LaidOnce
import Derived.MakeChecks
import Derived.SevenTiedAt
import Derived.Test.YtpnniiildnkeaaaDoorSumD
namespace Go.Proofs.YtpnniiildnkeaaaDoor
open Go.ChangeShapes Go.WideShapes Go.ChangeAt Go.RowKit
set_option linter.unusedVariables false

set_option maxRecDepth 100000 in
theorem tz_of_var {W : World} {cs : Array Value} {fuel : Nat} {p : List MemPlace} (hv : W.var? Tryd.prog "math/bits.deBruijn64tab" = some cs)
    (hd : DataW.trod (fun _ => ()) Tryd.prog W 0 (fun _ => true) false fuel 105 cs.toList = some (Rows.laid_math_bits_deBruijn64tab, p)) : TZ W := by
  have c5 : Tryd.prog.cellsOf 5 = 1 := by kernel_rfl
  obtain ⟨xs, m, _, ex, hlen, hl, hel⟩ := DataW.trod_array Tryd.underlying105 hd
  have h15 := hel 15 (by omega)
  rw [c5] at h15
  have e := (DataW.agg.inj (Prod.mk.inj ex).1)
  have e15 := congrArg (fun l => l[15]?) e
  simp only [List.getElem?_map] at e15
  obtain ⟨x, hx⟩ : ∃ x, xs[15]? = some x := ⟨xs[15]'(by omega), List.getElem?_eq_getElem (by omega)⟩
  rw [hx] at h15 e15
  obtain ⟨z, a0, b0, _⟩ := DataW.trod_int Tryd.underlying5 h15
  have hz : z = 4 := by
    rw [Option.map_some] at e15
    have e15 : some (DataW.lit (.int .u8 4)) = some x.1 := e15
    rw [b0] at e15
    simpa using e15.symm
  subst hz
  have hg : Tryd.prog.globalNamed "math/bits.deBruijn64tab" = some 5 := by kernel_rfl
  unfold TZ
  rw [World.var?_cell hg hv 15]
  have hc : cs.toList[15]? = some (.int .u8 4) := by
    have := congrArg (fun l => l[0]?) a0
    simpa using this
  simpa using hc
set_option maxRecDepth 100000 in
theorem tz_of_laid {W : World} {d1 : DataW Unit} {r : List (String × DataW Unit)} (h : laidMetH Tryd.prog (("math/bits.deBruijn32tab", d1) :: ("math/bits.deBruijn64tab", Rows.laid_math_bits_deBruijn64tab) :: r) W) (hp : ((("math/bits.deBruijn32tab", d1) :: ("math/bits.deBruijn64tab", Rows.laid_math_bits_deBruijn64tab) :: r).all fun x => x.2.handleName?.isNone) = true) : TZ W := by
  rw [MakeChecks.laidMetH_plain _ _ _ hp] at h
  obtain ⟨ps, ⟨_, _, _, _, _, _, _, _, _, _, ⟨g, t, cs, fuel, p, q, hg, ht, hv, hd, _, _⟩, _⟩, _, _⟩ := h
  obtain rfl := Option.some.inj ((show Tryd.prog.globalNamed "math/bits.deBruijn64tab" = some 5 by kernel_rfl).symm.trans hg)
  obtain rfl := Option.some.inj ((show (Tryd.prog.globals[5]?).map (·.type) = some 105 by kernel_rfl).symm.trans ht)
  exact tz_of_var hv hd
end Go.Proofs.YtpnniiildnkeaaaDoor
