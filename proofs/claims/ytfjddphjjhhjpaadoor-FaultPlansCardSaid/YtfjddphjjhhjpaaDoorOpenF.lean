/-
  From what the rows say of the listed variables to what the walks of layer 27 take.
-/
import Derived.Test.YtfjddphjjhhjpaaDoorOpenC
import Derived.Test.YtfjddphjjhhjpaaDoorTie
import Derived.Test.YtfjddphjjhhjpaaDoorCards
import Derived.LaidLaws
import Derived.LaidHandle
import Derived.Handed
import Derived.Lay
import Derived.LaidOnce
import Derived.MakeChecks
import Derived.SevenTiedAt
import Derived.Lib.LaidU8
import Derived.Test.YtfjddphjjhhjpaaDoorShelfWhite
import Derived.Test.YtfjddphjjhhjpaaDoorFauG
namespace Go.Proofs.YtfjddphjjhhjpaaDoor
open Go.ChangeShapes Go.WideShapes Go.ChangeAt Go.RowKit
set_option linter.unusedVariables false

theorem tab_of_reads {P : Program} {W : World} {name : String} {k : IntKind} {zs : List Int} {g : Nat} {t e : TypeId} {n : Nat} (hg : P.globalNamed name = some g) (hty : (P.globals[g]?).map (·.type) = some t) (ht : P.underlying t = some (.array n e)) (he : P.underlying e = some (.int k)) (hce : P.cellsOf e = 1) (hct : P.cellsOf t = n)
    (h : Lib.VarReads P W name (Lib.tabData k zs)) : Lib.TabIs P W name k zs := by
  obtain ⟨g', t', cs, fuel, p, hg', ht', hvar, hd⟩ := h
  obtain rfl := Option.some.inj (hg.symm.trans hg')
  obtain rfl := Option.some.inj (hty.symm.trans ht')
  unfold Lib.TabIs
  rw [hvar, ← Lib.cells_of_tab ht he hce hct hd]
theorem iface_of_trod {P : Program} {w : World} {base fuel : Nat} {sp : Nat → Bool} {hd : Bool} {t : TypeId} {ms : Array (String × TypeId)} (ht : P.underlying t = some (.interface ms)) {cs : List Value} {x : DataW Unit × List MemPlace}
    (h : DataW.trod (fun _ => ()) P w base sp hd fuel t cs = some x) : ∃ ev, cs = [ev] ∧ (ev = .nilIface ∨ ∃ te pe, ev = .iface te pe) := by
  cases fuel with
  | zero => simp [DataW.trod] at h
  | succ n =>
    unfold DataW.trod at h
    rw [ht] at h
    split at h <;> first | (simp_all; done) | skip
    all_goals first | exact ⟨_, rfl, .inl rfl⟩ | exact ⟨_, rfl, .inr ⟨_, _, rfl⟩⟩ | skip
theorem err_of_reads {P : Program} {W : World} {name : String} {d : DataW Unit} {g : Nat} {t : TypeId} {ms : Array (String × TypeId)} (hg : P.globalNamed name = some g) (hty : (P.globals[g]?).map (·.type) = some t) (ht : P.underlying t = some (.interface ms)) (h : Lib.VarReads P W name d) :
    ∃ ev, W.cell? ⟨g, 0, none⟩ = some ev ∧ (ev = .nilIface ∨ ∃ te pe, ev = .iface te pe) := by
  obtain ⟨g', t', cs, fuel, p, hg', ht', hvar, hd⟩ := h
  obtain rfl := Option.some.inj (hg.symm.trans hg')
  obtain rfl := Option.some.inj (hty.symm.trans ht')
  obtain ⟨ev, e1, e2⟩ := iface_of_trod ht hd
  refine ⟨ev, ?_, e2⟩
  rw [World.var?_cell hg hvar 0]
  have := congrArg (fun l => l[0]?) e1
  simpa using this
theorem white_extra : WhiteExtra Tryd.prog Tryd.lays199_ren where
  n6 := by kernel_rfl
  y6 := by kernel_rfl
  c3 := by kernel_rfl
  c49 := by kernel_rfl
  c193 := by kernel_rfl
  c194 := by kernel_rfl
  c196 := by kernel_rfl
  c198 := by kernel_rfl
set_option maxRecDepth 100000 in
theorem tabs_of_laid {W : World} {l : List (String × DataW Unit)} (h : laidMetH Tryd.prog l W) (hp : (l.all fun x => x.2.handleName?.isNone) = true) (h1 : ("strconv.ErrSyntax", Rows.laid_strconv_ErrSyntax) ∈ l) (h2 : ("strconv.ErrRange", Rows.laid_strconv_ErrRange) ∈ l)
    (h3 : ("internal/strconv.uint64pow10", Rows.laid_internal_strconv_uint64pow10) ∈ l) (h4 : ("unicode.White_Space", Rows.laid_unicode_White_Space) ∈ l) (h5 : ("strings.asciiSpace", Rows.laid_strings_asciiSpace) ∈ l) : Tabs W := by
  rw [MakeChecks.laidMetH_plain _ _ _ hp] at h
  have r1 := Lib.laidMet.reads h h1
  have r2 := Lib.laidMet.reads h h2
  have r3 := Lib.laidMet.reads h h3
  have r4 := Lib.laidMet.reads h h4
  have r5 := Lib.laidMet.reads h h5
  have e3 : (Rows.laid_internal_strconv_uint64pow10 : DataW Unit) = Lib.tabData .u64 Lib.pow10Tab := by kernel_rfl
  have e4 : (Rows.laid_unicode_White_Space : DataW Unit) = Lib.whiteData := by kernel_rfl
  have e5 : (Rows.laid_strings_asciiSpace : DataW Unit) = Lib.tabData .u8 Lib.asciiSpaceTab := by kernel_rfl
  rw [e3] at r3
  rw [e4] at r4
  rw [e5] at r5
  exact ⟨⟨err_of_reads (g := 4) (t := 97) (by kernel_rfl) (by kernel_rfl) Tryd.underlying97 r1, err_of_reads (g := 5) (t := 97) (by kernel_rfl) (by kernel_rfl) Tryd.underlying97 r2⟩,
    tab_of_reads (g := 2) (t := 142) (e := 89) (by kernel_rfl) (by kernel_rfl) Tryd.underlying142 Tryd.underlying89 (by kernel_rfl) (by kernel_rfl) r3,
    tab_of_reads (g := 0) (t := 103) (e := 5) (by kernel_rfl) (by kernel_rfl) Tryd.underlying103 Tryd.underlying5 (by kernel_rfl) (by kernel_rfl) r5,
    whiteTab_of_reads Tryd.lays199 white_extra r4⟩
/-- 'There is an input that fits', where a listed variable is a pointer. -/
theorem witness_ref {H : Type} {enc : TypeId × Value → H} {C : Checked} {os : Os} {f : FuncId} {fn : Func} {s : ChangeSpec} {conds : List PathCond} {apart : Bool} {X : World → Array Value → Prop} (modest : Bool) (w0 : World) (args : Array Value) (fuel : Nat) (hos : w0.os = os)
    (hS : (w0.forCall (fun _ _ => 0) ⟨#[], args, []⟩).Shaped C.prog)
    (hok : Input.okWideB C.prog (w0.forCall (fun _ _ => 0) ⟨#[], args, []⟩) f ⟨#[], args, []⟩ = true)
    (hpre : s.preB enc C.prog fn conds apart (w0.forCall (fun _ _ => 0) ⟨#[], args, []⟩).memory args fuel = true)
    (hsz : s.sizedB enc C.prog fn apart (w0.forCall (fun _ _ => 0) ⟨#[], args, []⟩).memory args fuel = true)
    (hx : X (w0.forCall (fun _ _ => 0) ⟨#[], args, []⟩).memory args) :
    ∃ (w : World) (tape : Tape) (i : Input), w.os = os ∧ (w.forCall tape i).Shaped C.prog ∧ i.vars = [] ∧ Input.okWide C.prog (w.forCall tape i) .any w.heap.size f i ∧
      ((s.pre enc C.prog fn conds apart (w.forCall tape i).memory i.args ∧ X (w.forCall tape i).memory i.args) ∧ sizedMet enc C.prog fn (OpenSpec.ofChange s) apart (w.forCall tape i).memory i.args) ∧ ({ modest := modest } : Assume).holds C.prog (lone (Frame.enter C.prog f i.args .normal) [] (w.forCall tape i)) :=
  ⟨w0, fun _ _ => 0, ⟨#[], args, []⟩, hos, hS, (Input.okWide_of_okWideB (base := 0) hok).1, (Input.okWide_of_okWideB hok).2, ⟨⟨ChangeSpec.pre_of_preB hpre, hx⟩, sizedMet_of_sizedB hsz⟩, by
    simp only [Assume.holds]
    exact ⟨by simp, by simp, fun _ => Modest.zero, by simp, by simp⟩⟩
end Go.Proofs.YtfjddphjjhhjpaaDoor
