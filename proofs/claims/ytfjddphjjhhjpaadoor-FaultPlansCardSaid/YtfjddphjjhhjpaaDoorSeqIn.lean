/-
  The law of XSeq inside a round of a range over a function.
-/
import Derived.Test.YtfjddphjjhhjpaaDoorSeq
import Derived.OrdersIn
import Derived.TacticsIn
import Derived.RangeFuncCalls
namespace Go.Proofs.YtfjddphjjhhjpaaDoor
open Go
set_option linter.unusedVariables false
section
variable {P : Program} {ops : Array Oper} {l n : Nat} {Q : Exit → Act → World → Prop}
theorem stepOk_round : StepOk P ops (wpOpIn (Fence.wide.inRound l) n P ops Q) where
  mono := wpOpIn_mono
  skip := fun ho hw h => by unfold wpOpIn; simp only [ho, hw]; exact ⟨fun _ _ => trivial, h⟩
  run := fun {i o K a w} ho hw hd h => by
    unfold wpOpIn
    simp only [ho, hw, if_true]
    refine ⟨fun _ _ => trivial, ?_⟩
    rw [show (Fence.wide.inRound l).round = some l from rfl, Oper.semAt_some l _ _ hd]
    unfold Oper.wp at h
    generalize (execOp a.eval o).run P w = r at *
    cases r with
    | ok x w' =>
      cases x <;> simp only [Oper.upon, Oper.uponIn] at h ⊢
      case value => exact h
      case skip => exact h
      case defer => exact h
      case enter f args =>
        refine ⟨fun hx => by simp [Fence.wide] at hx, CallsIn.inRound l (callsIn_wide.2 ?_)⟩
        exact Calls.mono h (fun e w'' he => by cases e <;> first | exact he | exact he.elim | exact (by obtain ⟨_, _, hx⟩ := he; exact hx.elim))
      case row row args =>
        refine ⟨fun hx => by simp [Fence.wide] at hx, fun c cs _ => ?_⟩
        obtain ⟨v, w'', hr, hs⟩ := h c cs
        exact ⟨v, w'', hr, stepsIn_wide.2 hs⟩
    | halt x w' => cases x <;> simp only [Oper.upon] at h
theorem anyG_round : ∀ (f : Nat) (ls : Array Bool) (a : Act) (w : World), anyG (wpOpIn (Fence.wide.inRound l) n P ops Q) (Q .normal) ops f ls a w → wpAnyIn (Fence.wide.inRound l) n P .any ops Q f ls a w
  | 0, _, _, _, h => h
  | f + 1, _, _, _, h => ⟨h.1, fun i hi => wpOpIn_mono (fun a w => anyG_round f _ a w) (h.2 i hi)⟩
theorem tailG_opsIn : ∀ (ls : List Nat), tailG (wpOpIn (Fence.wide.inRound l) n P ops Q) (Q .normal) ls = wpOpsIn (Fence.wide.inRound l) n P ops Q ls
  | [] => by funext a w; rfl
  | i :: ls => by funext a w; rw [wpOpsIn_cons, ← tailG_opsIn ls]; rfl
theorem tailG_round (m : Nat) : tailG (wpOpIn (Fence.wide.inRound l) n P ops Q) (Q .normal) (List.range' m (ops.size - m)) = wpListIn (Fence.wide.inRound l) n P ops Q (ops.toList.drop m) := by
  rw [tailG_opsIn, ← wpOpsIn_eq_wpListIn (F := Fence.wide.inRound l) (n := n) (P := P) (ops := ops) (Q := Q) (ops.toList.drop m) m (fun j => by simp), List.length_drop, Array.length_toList]
theorem wpIn_region_ext {id : Nat} {a : Act} {w : World} (m f : Nat) (tb : List Ent) (hm : P.follows .mixedOrders = true) (hok : okB ops m a.tmps.size = true) (hs : stabL Ext tb)
    (h : SeqW P ops f (tabOf tb) none (fun _ => false) Ext Ext w.drew (fun a Φ => ∀ w', Ext w.drew w' → (∀ p ∈ Φ, p.2 w') → wpListIn (Fence.wide.inRound l) n P ops Q (ops.toList.drop m) a w') (ops.toList.take m) 0 a []) : (Code.region id ops true).wpIn (Fence.wide.inRound l) n P Q a w := by
  refine wpIn_region_any hm (anyG_round _ _ _ _ (anyG_start stepOk_round m f (tabOf tb) none Ext Ext hok Ext.refl (fun _ _ _ => Ext.trans) (fun _ _ h => h) (fun _ _ _ => Ext.trans) hs.out (fun i Sh F _ => hs.out i Sh F) ?_))
  rw [tailG_round]
  exact h
theorem wpIn_region_app {id : Nat} {a : Act} {w : World} (m f : Nat) (tb : List Ent) (x : Nat) (row : Option Nat) (hm : P.follows .mixedOrders = true) (hok : okB ops m a.tmps.size = true)
    (hs : stabL Ext tb) (hx : stabX x (fun w w' => w.grownBy w' row) tb)
    (h : SeqW P ops f (tabOf tb) (some x) (fun _ => false) Ext (fun w w' => w.grownBy w' row) w.drew (fun a Φ => ∀ w', w.drew.grownBy w' row → (∀ p ∈ Φ, p.2 w') → wpListIn (Fence.wide.inRound l) n P ops Q (ops.toList.drop m) a w') (ops.toList.take m) 0 a []) :
    (Code.region id ops true).wpIn (Fence.wide.inRound l) n P Q a w := by
  refine wpIn_region_any hm (anyG_round _ _ _ _ (anyG_start stepOk_round m f (tabOf tb) (some x) Ext (fun w w' => w.grownBy w' row) hok Ext.refl (fun _ _ _ => grown_trans) (fun _ _ h => h.grownBy _) (fun _ _ _ => Ext.trans) hs.out hx.out ?_))
  rw [tailG_round]
  exact h
end
end Go.Proofs.YtfjddphjjhhjpaaDoor
