/-
  From what the rows say of the listed variables to what the walks take of the two errors.
-/
import Derived.Test.YtbfjopknhlnbcaaDoorOpenC
import Derived.Test.YtbfjopknhlnbcaaDoorTie
import Derived.Test.YtbfjopknhlnbcaaDoorCards
import Derived.LaidLaws
import Derived.LaidHandle
import Derived.Handed
import Derived.Lay
import Derived.LaidOnce
import Derived.MakeChecks
import Derived.SevenTiedAt
import Derived.Test.YtbfjopknhlnbcaaDoorLexS
namespace Go.Proofs.YtbfjopknhlnbcaaDoor
open Go.ChangeShapes Go.WideShapes Go.ChangeAt Go.RowKit
set_option linter.unusedVariables false

theorem laid_at {P : Program} {w : World} {n : String} {d : DataW Unit} : ∀ {l : List (String × DataW Unit)} {ps : List MemPlace}, DataW.LaidVars P w l ps → (n, d) ∈ l →
    ∃ g t cs fuel p, P.globalNamed n = some g ∧ (P.globals[g]?).map (·.type) = some t ∧ w.var? P n = some cs ∧ DataW.trod (fun _ => ()) P w 0 (fun _ => true) false fuel t cs.toList = some (d, p)
  | [], _, _, h => by cases h
  | (m, e) :: r, ps, ⟨g, t, cs, fuel, p, q, h1, h2, h3, h4, h5, _⟩, h => by
    rcases List.mem_cons.1 h with h | h
    · injection h with e1 e2
      subst e1 e2
      exact ⟨g, t, cs, fuel, p, h1, h2, h3, h4⟩
    · exact laid_at h5 h
theorem iface_of_trod {P : Program} {w : World} {base fuel : Nat} {sp : Nat → Bool} {hd : Bool} {t : TypeId} {ms : Array (String × TypeId)} (ht : P.underlying t = some (.interface ms)) {cs : List Value} {x : DataW Unit × List MemPlace}
    (h : DataW.trod (fun _ => ()) P w base sp hd fuel t cs = some x) : ∃ ev, cs = [ev] ∧ (ev = .nilIface ∨ ∃ te pe, ev = .iface te pe) := by
  cases fuel with
  | zero => simp [DataW.trod] at h
  | succ n =>
    unfold DataW.trod at h
    rw [ht] at h
    split at h <;> first | (simp_all; done) | skip
    all_goals first | exact ⟨_, rfl, .inl rfl⟩ | exact ⟨_, rfl, .inr ⟨_, _, rfl⟩⟩ | skip
set_option maxRecDepth 100000 in
theorem ez_of_laid {W : World} {l : List (String × DataW Unit)} (h : laidMetH Tryd.prog l W) (hp : (l.all fun x => x.2.handleName?.isNone) = true) (h1 : ("strconv.ErrSyntax", Rows.laid_strconv_ErrSyntax) ∈ l) (h2 : ("strconv.ErrRange", Rows.laid_strconv_ErrRange) ∈ l) : EZ W := by
  rw [MakeChecks.laidMetH_plain _ _ _ hp] at h
  obtain ⟨ps, hl, _, _⟩ := h
  refine ⟨?_, ?_⟩
  · obtain ⟨g, t, cs, fuel, p, a1, a2, a3, a4⟩ := laid_at hl h1
    obtain rfl := Option.some.inj ((show Tryd.prog.globalNamed "strconv.ErrSyntax" = some 1 by kernel_rfl).symm.trans a1)
    obtain rfl := Option.some.inj ((show (Tryd.prog.globals[1]?).map (·.type) = some 52 by kernel_rfl).symm.trans a2)
    obtain ⟨ev, e1, e2⟩ := iface_of_trod Tryd.underlying52 a4
    refine ⟨ev, ?_, e2⟩
    rw [World.var?_cell a1 a3 0]
    have := congrArg (fun l => l[0]?) e1
    simpa using this
  · obtain ⟨g, t, cs, fuel, p, a1, a2, a3, a4⟩ := laid_at hl h2
    obtain rfl := Option.some.inj ((show Tryd.prog.globalNamed "strconv.ErrRange" = some 2 by kernel_rfl).symm.trans a1)
    obtain rfl := Option.some.inj ((show (Tryd.prog.globals[2]?).map (·.type) = some 52 by kernel_rfl).symm.trans a2)
    obtain ⟨ev, e1, e2⟩ := iface_of_trod Tryd.underlying52 a4
    refine ⟨ev, ?_, e2⟩
    rw [World.var?_cell a1 a3 0]
    have := congrArg (fun l => l[0]?) e1
    simpa using this
theorem str_of (s : ByteArray) : str s.data.toList = s := by
  apply ByteArray.ext
  simp [str]
theorem lextokens' (s : ByteArray) (hs : s.size ≤ maxLen) (w : World) (hz : EZ w) : Calls Tryd.prog 3 #[.string s] w fun e w' => e = .returned (.bool true) ∧ Ext w w' := by
  have := lextokens_any s.data.toList (by have h : s.data.toList.length = s.size := rfl; omega) w hz
  rwa [str_of] at this
end Go.Proofs.YtbfjopknhlnbcaaDoor
