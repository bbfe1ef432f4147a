/-
  Parts of the proof: ParY.
-/
import Derived.Test.YtelplgkppalmfaaGreatDoorQ20
set_option maxRecDepth 100000
set_option maxHeartbeats 8000000
set_option linter.unusedVariables false
namespace Go.Proofs.YtelplgkppalmfaaGreatDoor
open Go.Proofs.Tryz
open Go.RowKit
structure FV where
 c : Fc
 p : Value
 b : Value
def fcC (p : FV) : List Value := [.string (str p.c.nm), p.p, p.b]
def fcRow (l : List FV) : List Value := l.flatMap fcC
def vrC (v : Vr) : List Value := [.string (str v.nm), .int .i64 v.sz]
def vrRow (l : List Vr) : List Value := l.flatMap vrC
theorem fcRow_app (a b : List FV) : fcRow (a ++ b) = fcRow a ++ fcRow b := by simp [fcRow]
theorem vrRow_app (a b : List Vr) : vrRow (a ++ b) = vrRow a ++ vrRow b := by simp [vrRow]
theorem fcRow_get : ∀ (l : List FV) (i : Nat) (h : i < l.length) (k : Nat), k < 3 -> (fcRow l)[i * 3 + k]? = (fcC l[i])[k]?
 | [], i, h, k, hk => by simp at h
 | p :: l, 0, h, k, hk => by
  simp only [fcRow, List.flatMap_cons, Nat.zero_mul, Nat.zero_add, List.getElem_cons_zero]; rw [List.getElem?_append_left (by simp [fcC]; omega)]
 | p :: l, i + 1, h, k, hk => by
  have := fcRow_get l i (by simpa using h) k hk; simp only [fcRow, List.flatMap_cons, List.getElem_cons_succ] at this ⊢; rw [List.getElem?_append_right (by simp [fcC]; omega), <- this]
  congr 1
  simp [fcC]; omega
theorem vrRow_get : ∀ (l : List Vr) (i : Nat) (h : i < l.length) (k : Nat), k < 2 -> (vrRow l)[i * 2 + k]? = (vrC l[i])[k]?
 | [], i, h, k, hk => by simp at h
 | p :: l, 0, h, k, hk => by
  simp only [vrRow, List.flatMap_cons, Nat.zero_mul, Nat.zero_add, List.getElem_cons_zero]; rw [List.getElem?_append_left (by simp [vrC]; omega)]
 | p :: l, i + 1, h, k, hk => by
  have := vrRow_get l i (by simpa using h) k hk; simp only [vrRow, List.flatMap_cons, List.getElem_cons_succ] at this ⊢; rw [List.getElem?_append_right (by simp [vrC]; omega), <- this]
  congr 1
  simp [vrC]; omega
def FV.ok (w : World) (P : Nat -> Prop) (p : FV) : Prop := RdN w P p.p p.c.ps /\ RdS w P p.b p.c.body
theorem FV.ok.keep {w w' : World} {P Q : Nat -> Prop} {p : FV} (h : p.ok w P) (hk : KeepP P w w') (hQ : ∀ b, P b -> b < w.heap.size -> Q b) : p.ok w' Q := ⟨h.1.keep hk hQ, h.2.keep hk hQ⟩
def RdV (w : World) (P : Nat -> Prop) (v : Value) (vs : List Vr) : Prop :=
 ∃ A c, v = .slice A vs.length c /\ (vs = [] \/ vs.length <= c /\ c <= maxLen /\ ∃ b o, A = some ⟨b, o, none⟩ /\ P b /\ b < w.heap.size /\ ∀ i, (h : i < vs.length) -> w.cell? ⟨b, o + i * 2, none⟩ = some (.string (str vs[i].nm)) /\ w.cell? ⟨b, o + i * 2 + 1, none⟩ = some (.int .i64 vs[i].sz))
theorem RdV.keep {w w' : World} {P Q : Nat -> Prop} {v : Value} {vs : List Vr} (h : RdV w P v vs) (hk : KeepP P w w') (hQ : ∀ b, P b -> b < w.heap.size -> Q b) : RdV w' Q v vs := by
 obtain ⟨A, c, rfl, h⟩ := h; exact ⟨A, c, rfl, h.imp id fun ⟨h1, h2, b, o, ha, hP, hb, hc⟩ => ⟨h1, h2, b, o, ha, hQ b hP hb, Nat.lt_of_lt_of_le hb hk.size, fun i hi => ⟨(hk.cell _ hP hb).trans (hc i hi).1, (hk.cell _ hP hb).trans (hc i hi).2⟩⟩⟩
def RdF (w : World) (P : Nat -> Prop) (v : Value) (fs : List Fc) : Prop :=
 ∃ A c, v = .slice A fs.length c /\ (fs = [] \/ fs.length <= c /\ c <= maxLen /\ ∃ b o, A = some ⟨b, o, none⟩ /\ P b /\ b < w.heap.size /\ ∃ pv bv : Nat -> Value, ∀ i, (h : i < fs.length) -> w.cell? ⟨b, o + i * 3, none⟩ = some (.string (str fs[i].nm)) /\ w.cell? ⟨b, o + i * 3 + 1, none⟩ = some (pv i) /\ w.cell? ⟨b, o + i * 3 + 2, none⟩ = some (bv i) /\
  RdN w P (pv i) fs[i].ps /\ RdS w P (bv i) fs[i].body)
theorem RdF.keep {w w' : World} {P Q : Nat -> Prop} {v : Value} {fs : List Fc} (h : RdF w P v fs) (hk : KeepP P w w') (hQ : ∀ b, P b -> b < w.heap.size -> Q b) : RdF w' Q v fs := by
 obtain ⟨A, c, rfl, h⟩ := h
 exact ⟨A, c, rfl, h.imp id fun ⟨h1, h2, b, o, ha, hP, hb, pv, bv, hc⟩ => ⟨h1, h2, b, o, ha, hQ b hP hb, Nat.lt_of_lt_of_le hb hk.size, pv, bv, fun i hi => let ⟨q0, q1, q2, q3, q4⟩ := hc i hi
  ⟨(hk.cell _ hP hb).trans q0, (hk.cell _ hP hb).trans q1, (hk.cell _ hP hb).trans q2, q3.keep hk hQ, q4.keep hk hQ⟩⟩⟩
def OwnP (w : World) (base : Nat) (vv fv : Value) (vs : List Vr) (fs : List FV) : Prop :=
 w.ownsRow base 96 2 vv vs.length (vrRow vs) /\ w.ownsRow base 73 3 fv fs.length (fcRow fs) /\ (∀ k, vv.ownBlock = some k -> fv.ownBlock ≠ some k) /\ ∀ p, p ∈ fs -> p.ok w (fun b => base <= b /\ some b ≠ vv.ownBlock /\ some b ≠ fv.ownBlock)
theorem OwnP.nil_ (w : World) (base : Nat) : OwnP w base (.slice none 0 0) (.slice none 0 0) [] [] := ⟨World.ownsRow_nil _ _ _ _, World.ownsRow_nil _ _ _ _, fun k hk => (by cases hk), fun p hp => (by cases hp)⟩
theorem row_keep {w w' : World} {base : Nat} {e : TypeId} {size n : Nat} {v : Value} {xs : List Value} (h : w.ownsRow base e size v n xs) (hk : ∀ b, base <= b -> b < w.heap.size -> v.ownBlock = some b -> w'.heap[b]? = w.heap[b]?) : w'.ownsRow base e size v n xs := by
 refine ⟨h.1, ?_⟩; rcases h.2 with h0 | ⟨g, cap, cur, hv, hb, hg, hr⟩
 ·exact .inl h0
 ·exact .inr ⟨g, cap, cur, hv, hb, (hk g hb (Array.getElem?_eq_some_iff.1 hg).1 (by rw [hv]; rfl)).trans hg, hr⟩
theorem OwnP.keepW {w w' : World} {base : Nat} {vv fv : Value} {vs : List Vr} {fs : List FV} (h : OwnP w base vv fv vs fs) (hz : w.heap.size <= w'.heap.size) (hk : ∀ b, base <= b -> b < w.heap.size -> w'.heap[b]? = w.heap[b]?) : OwnP w' base vv fv vs fs :=
 ⟨row_keep h.1 (fun b h1 h2 _ => hk b h1 h2), row_keep h.2.1 (fun b h1 h2 _ => hk b h1 h2), h.2.2.1, fun p hp => (h.2.2.2 p hp).keep ⟨hz, fun b hb hlt => hk b hb.1 hlt⟩ (fun b hb _ => hb)⟩
theorem OwnP.grown {w w' : World} {base : Nat} {vv fv : Value} {vs : List Vr} {fs : List FV} {row : Option Nat} (h : OwnP w base vv fv vs fs) (hg : w.grownBy w' row) (hr : ∀ k, row = some k -> k < base) : OwnP w' base vv fv vs fs :=
 h.keepW hg.size fun b h1 h2 => hg.block b h2 (fun e => by have := hr b e.symm; omega)
theorem OwnP.snocV {w w' : World} {base : Nat} {vv fv : Value} {vs : List Vr} {fs : List FV} {v : Vr} {A n cap : Nat} (h : OwnP w base vv fv vs fs) (hl : vs.length = n) (hn : w'.ownsRow base 96 2 (.slice (some ⟨A, 0, none⟩) (n + 1) cap) (n + 1) (vrRow vs ++ vrC v))
  (hg : w.grownBy w' vv.ownBlock) (hA : some A = vv.ownBlock \/ A = w.heap.size) : OwnP w' base (.slice (some ⟨A, 0, none⟩) (n + 1) cap) fv (vs ++ [v]) fs := by
 subst hl; obtain ⟨h1, h2, h3, h4⟩ := h; have hl2 := World.ownsRow.lt h2; refine ⟨by rw [List.length_append, vrRow_app]; simpa [vrRow] using hn, row_keep h2 (fun b _ hb hv => hg.block b hb (fun e => h3 b e.symm hv)), fun k hk e => ?_, fun p hp => (h4 p hp).keep (.of_grown hg fun b hb => hb.2.1) fun b hb hlt => ⟨hb.1, fun e => ?_, hb.2.2⟩⟩
 ·have hk : A = k := Option.some.inj hk; subst hk; rcases hA with hA | hA
  ·exact h3 A hA.symm e
  ·have := (hl2 A e).2; omega
 ·have e : b = A := Option.some.inj e; subst e; rcases hA with hA | hA
  ·exact hb.2.1 hA
  ·omega
theorem OwnP.snocF {w w' : World} {base : Nat} {vv fv : Value} {vs : List Vr} {fs : List FV} {p : FV} {A n cap : Nat} (h : OwnP w base vv fv vs fs) (hp : p.ok w (fun b => base <= b /\ some b ≠ vv.ownBlock /\ some b ≠ fv.ownBlock)) (hl : fs.length = n) (hn : w'.ownsRow base 73 3 (.slice (some ⟨A, 0, none⟩) (n + 1) cap) (n + 1) (fcRow fs ++ fcC p))
  (hg : w.grownBy w' fv.ownBlock) (hA : some A = fv.ownBlock \/ A = w.heap.size) : OwnP w' base vv (.slice (some ⟨A, 0, none⟩) (n + 1) cap) vs (fs ++ [p]) := by
 subst hl; obtain ⟨h1, h2, h3, h4⟩ := h; have hl1 := World.ownsRow.lt h1
 have hq : ∀ b, (base <= b /\ some b ≠ vv.ownBlock /\ some b ≠ fv.ownBlock) -> b < w.heap.size -> (base <= b /\ some b ≠ vv.ownBlock /\ some b ≠ Value.ownBlock (.slice (some ⟨A, 0, none⟩) (fs.length + 1) cap)) := fun b hb hlt => ⟨hb.1, hb.2.1, fun e => by
  have e : b = A := Option.some.inj e; subst e; rcases hA with hA | hA
  ·exact hb.2.2 hA
  ·omega⟩
 refine ⟨row_keep h1 (fun b _ hb hv => hg.block b hb (fun e => h3 b hv e.symm)), by rw [List.length_append, fcRow_app]; simpa [fcRow] using hn, fun k hk e => ?_, fun q hq' => ?_⟩
 ·have e : A = k := Option.some.inj e; subst e; rcases hA with hA | hA
  ·exact h3 A hk hA.symm
  ·have := (hl1 A hk).2; omega
 ·rcases List.mem_append.1 hq' with hq' | hq'
  ·exact (h4 q hq').keep (.of_grown hg fun b hb => hb.2.2) hq
  ·rw [List.mem_singleton] at hq'; subst hq'; exact hp.keep (.of_grown hg fun b hb => hb.2.2) hq
theorem OwnP.rd {w : World} {base : Nat} {vv fv : Value} {vs : List Vr} {fs : List FV} (h : OwnP w base vv fv vs fs) : RdV w (fun b => base <= b) vv vs /\ RdF w (fun b => base <= b) fv (fs.map (·.c)) := by
 obtain ⟨h1, h2, _, h4⟩ := h; constructor
 ·rcases h1.2 with ⟨rfl, h0⟩ | ⟨g, cap, cur, rfl, hb, hg, hnc, hcm, hcs, ht⟩
  ·have : vs = [] := List.eq_nil_of_length_eq_zero h0; subst this; exact ⟨none, 0, rfl, .inl rfl⟩
  ·have cell : ∀ j y, (vrRow vs)[j]? = some y -> w.cell? ⟨g, j, none⟩ = some y := fun j y hy => by
    rw [cell_of_row w g j cur 96 (0, 0) hg]; rw [<- ht, List.getElem?_take] at hy; split at hy
    ·simpa using hy
    ·cases hy
   exact ⟨_, cap, rfl, .inr ⟨hnc, hcm, g, 0, rfl, hb, (Array.getElem?_eq_some_iff.1 hg).1, fun i hi => by
    rw [Nat.zero_add]
    exact ⟨cell _ _ (vrRow_get vs i hi 0 (by omega)), cell _ _ (vrRow_get vs i hi 1 (by omega))⟩⟩⟩
 ·rcases h2.2 with ⟨rfl, h0⟩ | ⟨g, cap, cur, rfl, hb, hg, hnc, hcm, hcs, ht⟩
  ·have : fs = [] := List.eq_nil_of_length_eq_zero h0; subst this; exact ⟨none, 0, rfl, .inl rfl⟩
  ·have cell : ∀ j y, (fcRow fs)[j]? = some y -> w.cell? ⟨g, j, none⟩ = some y := fun j y hy => by
    rw [cell_of_row w g j cur 73 (0, 0) hg]; rw [<- ht, List.getElem?_take] at hy; split at hy
    ·simpa using hy
    ·cases hy
   refine ⟨some ⟨g, 0, none⟩, cap, by simp, .inr ⟨by simpa using hnc, hcm, g, 0, rfl, hb, (Array.getElem?_eq_some_iff.1 hg).1, fun i => if h : i < fs.length then fs[i].p else .slice none 0 0, fun i => if h : i < fs.length then fs[i].b else .slice none 0 0, fun i hi => ?_⟩⟩; have hi' : i < fs.length := by simpa using hi
   have e0 : (fs.map (·.c))[i] = fs[i].c := by simp
   have hm := (h4 fs[i] (List.getElem_mem hi')).keep (P := fun b => base <= b /\ some b ≠ vv.ownBlock /\ some b ≠ Value.ownBlock (.slice (some ⟨g, 0, none⟩) fs.length cap)) (w' := w) ⟨Nat.le_refl _, fun _ _ _ => rfl⟩ (Q := fun b => base <= b) (fun b hb _ => hb.1); rw [e0]; simp only [Nat.zero_add, dif_pos hi']; exact ⟨cell _ _ (fcRow_get fs i hi' 0 (by omega)), cell _ _ (fcRow_get fs i hi' 1 (by omega)), cell _ _ (fcRow_get fs i hi' 2 (by omega)), hm.1, hm.2⟩
theorem vrt : RowT prog 23 96 2 24 (.agg #[.string ⟨#[]⟩, .int .i64 0]) := ⟨underlying23, by kernel_rfl, by rfl, by decide⟩
theorem fct : RowT prog 24 73 3 64 (.agg #[.string ⟨#[]⟩, .slice none 0 0, .slice none 0 0]) := ⟨underlying24, by kernel_rfl, by rfl, by decide⟩
def RPrg (g : Nat) (en : Int) (w : World) (r : PR Pg) (e : Ending) (w' : World) : Prop :=
 w.grownBy w' (some g) /\ match r with
 | .ok (p, q) => ∃ A n c B m d, e = .returned (.agg #[.slice A n c, .slice B m d]) /\ RdV w' (fun b => w.heap.size <= b) (.slice A n c) p.vs /\ RdF w' (fun b => w.heap.size <= b) (.slice B m d) p.fs
 | .error (q, n) => e = wrongV en q n
theorem rpg_err {g : Nat} {en : Int} {w w' : World} {r : PR Pg} {q : List Tok} {n : Int} (hr : r = .error (q, n)) (hG : w.grownBy w' (some g)) : RPrg g en w r (wrongV en q n) w' := by
 subst hr; exact ⟨hG, rfl⟩
end Go.Proofs.YtelplgkppalmfaaGreatDoor
