/-
  Parts of the proof: Peq.
-/
import Derived.Test.YtelplgkppalmfaaGreatDoorQ38
import Derived.Test.YtelplgkppalmfaaGreatDoorQ40
import Derived.Test.YtelplgkppalmfaaGreatDoorQ41
set_option maxRecDepth 100000
set_option maxHeartbeats 8000000
set_option linter.unusedVariables false
namespace Go.Proofs.YtelplgkppalmfaaGreatDoor
open Go.Proofs.Tryz
open Go.RowKit
theorem pgW_vs (p : Pg) : p.vs.length <= pgW p := by
 have := sum_le (fun _ : Vr => 1) (fun v => v.nm.length + 1) p.vs (fun v _ => by omega); rw [sum_const] at this; unfold pgW; omega
theorem pgW_fs (p : Pg) : p.fs.length <= pgW p := by
 have := sum_le (fun _ : Fc => 1) (fun f => f.wt + 1) p.fs (fun v _ => by omega); rw [sum_const] at this; unfold pgW; omega
theorem pgW_b {p : Pg} {f : Fc} (h : f ∈ p.fs) : wtS f.body <= pgW p := by
 have := pgW_f h; have : wtS f.body <= f.wt := by unfold Fc.wt; omega
 omega
theorem own_tt {p : Pg} (hw : pgW p <= 6000000) {P : Nat -> Prop} {w : World} {A B : Option Addr} {n c m d : Nat} (hV : RdV w P (.slice A n c) p.vs) (hF : RdF w P (.slice B m d) p.fs) :
  Calls prog 17 #[.agg #[.slice A n c, .slice B m d]] w fun e w' => Ext w w' /\ ∃ A' n' c' B' m' d', e = .returned (.agg #[.slice A' n' c', .slice B' m' d']) /\ RdV w' (fun _ => True) (.slice A' n' c') p.vs /\ RdF w' (fun _ => True) (.slice B' m' d') p.fs := by
 refine (own_any p (by have := pgW_vs p; omega) (by have := pgW_fs p; omega) (fun f hf => by have := pgW_b hf; omega) P w A B n c m d hV hF).mono fun e w' hh => ?_; obtain ⟨hE, A', n', c', B', m', d', he, h1, h2⟩ := hh; exact ⟨hE, A', n', c', B', m', d', he, h1.keep ⟨Nat.le_refl _, fun _ _ _ => rfl⟩ (fun _ _ _ => trivial), h2.keep ⟨Nat.le_refl _, fun _ _ _ => rfl⟩ (fun _ _ _ => trivial)⟩
theorem few_w {p : Pg} (hw : pgW p <= 6000000) {P : Nat -> Prop} {w : World} {A B : Option Addr} {n c m d : Nat} (hV : RdV w P (.slice A n c) p.vs) (hF : RdF w P (.slice B m d) p.fs) :
  Calls prog 15 #[.agg #[.slice A n c, .slice B m d]] w fun e w' => (∃ b : Bool, e = .returned (.bool b)) /\ Ext w w' :=
 few_any p (by have := pgW_vs p; omega) (by have := pgW_fs p; omega) (fun f hf => by have := pgW_b hf; omega) P w A B n c m d hV hF
theorem peq_law (p q : Pg) (hp : pgW p <= 6000000) (hq : pgW q <= 6000000) (P : Nat -> Prop) (w : World) (A B A' B' : Option Addr) (n c m d n' c' m' d' : Nat) (hV : RdV w P (.slice A n c) p.vs) (hF : RdF w P (.slice B m d) p.fs) (hV' : RdV w P (.slice A' n' c') q.vs) (hF' : RdF w P (.slice B' m' d') q.fs)
  (hz : EZ w) (ht : TabW w w.heap.size) : Calls prog 5 #[.agg #[.slice A n c, .slice B m d], .agg #[.slice A' n' c', .slice B' m' d']] w fun e w' => e = .returned (.bool true) /\ Ext w w' := by
 have HE0 := hide ((Ext.alloc w (.cells #[.slice A n c, .slice B m d] 33)).alloc' (.cells #[.slice A' n' c', .slice B' m' d'] 33)); have HA0 := hide ((Blk.new w 33 #[.slice A n c, .slice B m d]).alloc (.cells #[.slice A' n' c', .slice B' m' d'] 33))
 have HB0 := hide (show Blk ((w.alloc (.cells #[.slice A n c, .slice B m d] 33)).alloc (.cells #[.slice A' n' c', .slice B' m' d'] 33)) (w.heap.size + 1) 33 #[.slice A' n' c', .slice B' m' d'] from by
  have := Blk.new (w.alloc (.cells #[.slice A n c, .slice B m d] 33)) 33 #[.slice A' n' c', .slice B' m' d']
  rwa [World.size_alloc] at this)
 have HAW := hide (awake_any _ (hz.ext HE0.out) (tabw_ext ht HE0.out)); have HFW := hide (fun (W : World) (h : Ext w W) => few_w hp (hV.keep (.of_ext h) (Q := P) (fun _ hb _ => hb)) (hF.keep (.of_ext h) (Q := P) (fun _ hb _ => hb))); have HFW' := hide (fun (W : World) (h : Ext w W) => few_w hq (hV'.keep (.of_ext h) (Q := P) (fun _ hb _ => hb)) (hF'.keep (.of_ext h) (Q := P) (fun _ hb _ => hb))); have HOW := hide (fun (W : World) (h : Ext w W) => own_tt hp (hV.keep (.of_ext h) (Q := P) (fun _ hb _ => hb)) (hF.keep (.of_ext h) (Q := P) (fun _ hb _ => hb))); have HOW' := hide (fun (W : World) (h : Ext w W) => own_tt hq (hV'.keep (.of_ext h) (Q := P) (fun _ hb _ => hb)) (hF'.keep (.of_ext h) (Q := P) (fun _ hb _ => hb))); have HRE := hide (fun (W : World) (h : Ext w W) => requal_any p q P W A B A' B' n c m d n' c' m' d' (hV.keep (.of_ext h) (Q := P) (fun _ hb _ => hb)) (hF.keep (.of_ext h) (Q := P) (fun _ hb _ => hb)) (hV'.keep (.of_ext h) (Q := P) (fun _ hb _ => hb)) (hF'.keep (.of_ext h) (Q := P) (fun _ hb _ => hb))); have HPE := hide (fun (W : World) (A B A' B' : Option Addr) (n c m d n' c' m' d' : Nat) (h1 : RdV W (fun _ => True) (.slice A n c) p.vs) (h2 : RdF W (fun _ => True) (.slice B m d) p.fs) (h3 : RdV W (fun _ => True) (.slice A' n' c') q.vs) (h4 : RdF W (fun _ => True) (.slice B' m' d') q.fs) => pequal_any p q _ W A B A' B' n c m d n' c' m' d' h1 h2 h3 h4)
 have HPS := hide (show ∀ (W : World) (A B A' B' : Option Addr) (n c m d n' c' m' d' : Nat), RdV W (fun _ => True) (.slice A n c) p.vs -> RdF W (fun _ => True) (.slice B m d) p.fs -> RdV W (fun _ => True) (.slice A' n' c') p.vs -> RdF W (fun _ => True) (.slice B' m' d') p.fs -> Calls prog 20 #[.agg #[.slice A n c, .slice B m d], .agg #[.slice A' n' c', .slice B' m' d']] W fun e w' => e = .returned (.bool true) /\ Ext W w' from
  fun W A B A' B' n c m d n' c' m' d' h1 h2 h3 h4 => by
   have := pequal_any p p _ W A B A' B' n c m d n' c' m' d' h1 h2 h3 h4
   rwa [eqPg_self] at this)
 generalize eqPg p q = r at *; clear hV hF hV' hF' hz ht hp hq; go_enter func5, ntmps5; go_wp2_with (go_at_call 9; refine HAW.out.mono ?_; rintro e w1 ⟨rfl, hE⟩; have HX := hide (HE0.out.trans hE); have HA := hide (HA0.out.ext hE); have HB := hide (HB0.out.ext hE); clear hE HAW HE0 HA0 HB0); have HF1 := hide (fun (W : World) (h : Ext w1 W) => HFW.out W (HX.out.trans h)); have HF2 := hide (fun (W : World) (h : Ext w1 W) => HFW'.out W (HX.out.trans h)); have HO1 := hide (fun (W : World) (h : Ext w1 W) => HOW.out W (HX.out.trans h)); have HO2 := hide (fun (W : World) (h : Ext w1 W) => HOW'.out W (HX.out.trans h)); have HR1 := hide (fun (W : World) (h : Ext w1 W) => HRE.out W (HX.out.trans h)); clear HFW HFW' HOW HOW' HRE; refine wp_region_ext 26 12 [(1, fun v => ∃ b : Bool, v = .bool b, fun _ _ => True), (5, fun v => ∃ b : Bool, v = .bool b, fun _ _ => True), (10, fun v => ∃ A n c B m d, v = .agg #[.slice A n c, .slice B m d], fun v wx => ∀ A n c B m d, v = .agg #[.slice A n c, .slice B m d] -> RdV wx (fun _ => True) (.slice A n c) p.vs /\ RdF wx (fun _ => True) (.slice B m d) p.fs), (12, fun v => ∃ A n c B m d, v = .agg #[.slice A n c, .slice B m d], fun v wx => ∀ A n c B m d, v = .agg #[.slice A n c, .slice B m d] -> RdV wx (fun _ => True) (.slice A n c) q.vs /\ RdF wx (fun _ => True) (.slice B m d) q.fs), (13, fun v => v = .bool r, fun _ _ => True), (16, fun v => v = .bool r, fun _ _ => True), (20, fun v => ∃ A n c B m d, v = .agg #[.slice A n c, .slice B m d], fun v wx => ∀ A n c B m d, v = .agg #[.slice A n c, .slice B m d] -> RdV wx (fun _ => True) (.slice A n c) p.vs /\ RdF wx (fun _ => True) (.slice B m d) p.fs), (22, fun v => ∃ A n c B m d, v = .agg #[.slice A n c, .slice B m d], fun v wx => ∀ A n c B m d, v = .agg #[.slice A n c, .slice B m d] -> RdV wx (fun _ => True) (.slice A n c) p.vs /\ RdF wx (fun _ => True) (.slice B m d) p.fs), (23, fun v => v = .bool true, fun _ _ => True)] mixed (by kernel_rfl)
  ⟨fun _ _ _ _ _ => trivial, fun _ _ _ _ _ => trivial, fun _ _ _ h hx A n c B m d e => ⟨(h A n c B m d e).1.keep (.of_ext hx) (fun _ hb _ => hb), (h A n c B m d e).2.keep (.of_ext hx) (fun _ hb _ => hb)⟩, fun _ _ _ h hx A n c B m d e => ⟨(h A n c B m d e).1.keep (.of_ext hx) (fun _ hb _ => hb), (h A n c B m d e).2.keep (.of_ext hx) (fun _ hb _ => hb)⟩, fun _ _ _ _ _ => trivial, fun _ _ _ _ _ => trivial, fun _ _ _ h hx A n c B m d e => ⟨(h A n c B m d e).1.keep (.of_ext hx) (fun _ hb _ => hb), (h A n c B m d e).2.keep (.of_ext hx) (fun _ hb _ => hb)⟩, fun _ _ _ h hx A n c B m d e => ⟨(h A n c B m d e).1.keep (.of_ext hx) (fun _ hb _ => hb), (h A n c B m d e).2.keep (.of_ext hx) (fun _ hb _ => hb)⟩, fun _ _ _ _ _ => trivial, trivial⟩ ?_
 repeat (first | ((refine seq_skip (by rfl) ?_); (simp only [pq0, pq1, pq2, pq3, pq4])) | ((refine seq_exact ?_ (by rfl) (by rfl) (fun w1 hU => ?_) ?_); (rotate_left 1); (focus (have f1 := (HA.out.ext hU.un).cell; have f2 := (HB.out.ext hU.un).cell; clear hU; go_simp <;> with_reducible rfl)); (simp only [pq0, pq1, pq2, pq3, pq4])))
 refine seq_opaque _ _ (by rfl) rfl ⟨_, true, rfl⟩ (by simp) (fun w6 hU hp K hK => ?_) ?_
 ·have hc := HF1.out w6 hU.un; clear hp hU; go_simp; refine hc.mono ?_; rintro e w7 ⟨⟨q, rfl⟩, hE⟩; exact hK _ _ hE ⟨_, rfl⟩ trivial
 rintro _ ⟨b1, rfl⟩; simp only [pq0, pq1, pq2, pq3, pq4]
 cases b1 with
 | false =>
  repeat (first | ((refine seq_skip (by rfl) ?_); (simp only [pq0, pq1, pq2, pq3, pq4])) | ((refine seq_exact ?_ (by rfl) (by rfl) (fun w1 hU => ?_) ?_); (rotate_left 1); (focus (have f1 := (HA.out.ext hU.un).cell; have f2 := (HB.out.ext hU.un).cell; clear hU; go_simp <;> with_reducible rfl)); (simp only [pq0, pq1, pq2, pq3, pq4])))
  intro w8 hw8 hp; clear hp; simp only [List.drop_succ_cons, List.drop_zero]; have HX8 := hide (HX.out.trans hw8.un); clear hw8; go_wp2_with fail; go_ret; exact ⟨rfl, HX8.out⟩
 | true =>
  repeat (first | ((refine seq_skip (by rfl) ?_); (simp only [pq0, pq1, pq2, pq3, pq4])) | ((refine seq_exact ?_ (by rfl) (by rfl) (fun w1 hU => ?_) ?_); (rotate_left 1); (focus (have f1 := (HA.out.ext hU.un).cell; have f2 := (HB.out.ext hU.un).cell; clear hU; go_simp <;> with_reducible rfl)); (simp only [pq0, pq1, pq2, pq3, pq4])))
  refine seq_opaque _ _ (by rfl) rfl ⟨_, true, rfl⟩ (by simp) (fun w6 hU hp K hK => ?_) ?_
  ·have hc := HF2.out w6 hU.un; clear hp hU; go_simp; refine hc.mono ?_; rintro e w7 ⟨⟨q, rfl⟩, hE⟩; exact hK _ _ hE ⟨_, rfl⟩ trivial
  rintro _ ⟨b2, rfl⟩; simp only [pq0, pq1, pq2, pq3, pq4]
  cases b2 with
  | false =>
   repeat (first | ((refine seq_skip (by rfl) ?_); (simp only [pq0, pq1, pq2, pq3, pq4])) | ((refine seq_exact ?_ (by rfl) (by rfl) (fun w1 hU => ?_) ?_); (rotate_left 1); (focus (have f1 := (HA.out.ext hU.un).cell; have f2 := (HB.out.ext hU.un).cell; clear hU; go_simp <;> with_reducible rfl)); (simp only [pq0, pq1, pq2, pq3, pq4])))
   intro w8 hw8 hp; clear hp; simp only [List.drop_succ_cons, List.drop_zero]; have HX8 := hide (HX.out.trans hw8.un); clear hw8; go_wp2_with fail; go_ret; exact ⟨rfl, HX8.out⟩
  | true =>
   repeat (first | ((refine seq_skip (by rfl) ?_); (simp only [pq0, pq1, pq2, pq3, pq4])) | ((refine seq_exact ?_ (by rfl) (by rfl) (fun w1 hU => ?_) ?_); (rotate_left 1); (focus (have f1 := (HA.out.ext hU.un).cell; have f2 := (HB.out.ext hU.un).cell; clear hU; go_simp <;> with_reducible rfl)); (simp only [pq0, pq1, pq2, pq3, pq4])))
   refine seq_opaque _ _ (by rfl) rfl ⟨_, none, 0, 0, none, 0, 0, rfl⟩ (by simp) (fun w6 hU hp K hK => ?_) ?_
   ·have hc := HO1.out w6 hU.un; clear hp hU; go_simp; refine hc.mono ?_; rintro e w7 ⟨hE, A', n', c', B', m', d', rfl, h1, h2⟩
    exact hK _ _ hE ⟨_, _, _, _, _, _, rfl⟩ (fun A n c B m d e => by
     injection e with e; simp only [Array.mk.injEq, List.cons.injEq, Value.slice.injEq, and_true] at e; obtain ⟨⟨rfl, rfl, rfl⟩, rfl, rfl, rfl⟩ := e
     exact ⟨h1, h2⟩)
   rintro _ ⟨A1, n1, c1, B1, m1, d1, rfl⟩; simp only [pq0, pq1, pq2, pq3, pq4]; repeat (first | ((refine seq_skip (by rfl) ?_); (simp only [pq0, pq1, pq2, pq3, pq4])) | ((refine seq_exact ?_ (by rfl) (by rfl) (fun w1 hU => ?_) ?_); (rotate_left 1); (focus (have f1 := (HA.out.ext hU.un).cell; have f2 := (HB.out.ext hU.un).cell; clear hU; go_simp <;> with_reducible rfl)); (simp only [pq0, pq1, pq2, pq3, pq4])))
   refine seq_opaque _ _ (by rfl) rfl ⟨_, none, 0, 0, none, 0, 0, rfl⟩ (by simp) (fun w6 hU hp K hK => ?_) ?_
   ·have hc := HO2.out w6 hU.un; clear hp hU; go_simp; refine hc.mono ?_; rintro e w7 ⟨hE, A', n', c', B', m', d', rfl, h1, h2⟩
    exact hK _ _ hE ⟨_, _, _, _, _, _, rfl⟩ (fun A n c B m d e => by
     injection e with e; simp only [Array.mk.injEq, List.cons.injEq, Value.slice.injEq, and_true] at e; obtain ⟨⟨rfl, rfl, rfl⟩, rfl, rfl, rfl⟩ := e
     exact ⟨h1, h2⟩)
   rintro _ ⟨A2, n2, c2, B2, m2, d2, rfl⟩; simp only [pq0, pq1, pq2, pq3, pq4]; repeat (first | ((refine seq_skip (by rfl) ?_); (simp only [pq0, pq1, pq2, pq3, pq4])) | ((refine seq_exact ?_ (by rfl) (by rfl) (fun w1 hU => ?_) ?_); (rotate_left 1); (focus (have f1 := (HA.out.ext hU.un).cell; have f2 := (HB.out.ext hU.un).cell; clear hU; go_simp <;> with_reducible rfl)); (simp only [pq0, pq1, pq2, pq3, pq4])))
   refine seq_opaque _ _ (by rfl) rfl ⟨_, rfl⟩ (by simp) (fun w6 hU hp K hK => ?_) ?_
   ·have h1 := hp _ (.tail _ (.head _)) (by kernel_rfl) _ _ _ _ _ _ rfl; have h2 := hp _ (.head _) (by kernel_rfl) _ _ _ _ _ _ rfl; have hc := HPE.out w6 _ _ _ _ _ _ _ _ _ _ _ _ h1.1 h1.2 h2.1 h2.2; clear hp hU h1 h2; go_simp; refine hc.mono ?_; rintro e w7 ⟨rfl, hE⟩; exact hK _ _ hE rfl trivial
   rintro _ rfl; simp only [pq0, pq1, pq2, pq3, pq4]; repeat (first | ((refine seq_skip (by rfl) ?_); (simp only [pq0, pq1, pq2, pq3, pq4])) | ((refine seq_exact ?_ (by rfl) (by rfl) (fun w1 hU => ?_) ?_); (rotate_left 1); (focus (have f1 := (HA.out.ext hU.un).cell; have f2 := (HB.out.ext hU.un).cell; clear hU; go_simp <;> with_reducible rfl)); (simp only [pq0, pq1, pq2, pq3, pq4])))
   refine seq_opaque _ _ (by rfl) rfl ⟨_, rfl⟩ (by simp) (fun w6 hU hp K hK => ?_) ?_
   ·have hc := HR1.out w6 hU.un; clear hp hU; go_simp; refine hc.mono ?_; rintro e w7 ⟨rfl, hE⟩; exact hK _ _ hE rfl trivial
   rintro _ rfl; simp only [pq0, pq1, pq2, pq3, pq4]; repeat (first | ((refine seq_skip (by rfl) ?_); (simp only [pq0, pq1, pq2, pq3, pq4])) | ((refine seq_exact ?_ (by rfl) (by rfl) (fun w1 hU => ?_) ?_); (rotate_left 1); (focus (have f1 := (HA.out.ext hU.un).cell; have f2 := (HB.out.ext hU.un).cell; clear hU; go_simp <;> with_reducible rfl)); (simp only [pq0, pq1, pq2, pq3, pq4])))
   refine seq_opaque _ _ (by rfl) rfl ⟨_, none, 0, 0, none, 0, 0, rfl⟩ (by simp) (fun w6 hU hp K hK => ?_) ?_
   ·have hc := HO1.out w6 hU.un; clear hp hU; go_simp; refine hc.mono ?_; rintro e w7 ⟨hE, A', n', c', B', m', d', rfl, h1, h2⟩
    exact hK _ _ hE ⟨_, _, _, _, _, _, rfl⟩ (fun A n c B m d e => by
     injection e with e; simp only [Array.mk.injEq, List.cons.injEq, Value.slice.injEq, and_true] at e; obtain ⟨⟨rfl, rfl, rfl⟩, rfl, rfl, rfl⟩ := e
     exact ⟨h1, h2⟩)
   rintro _ ⟨A3, n3, c3, B3, m3, d3, rfl⟩; simp only [pq0, pq1, pq2, pq3, pq4]; repeat (first | ((refine seq_skip (by rfl) ?_); (simp only [pq0, pq1, pq2, pq3, pq4])) | ((refine seq_exact ?_ (by rfl) (by rfl) (fun w1 hU => ?_) ?_); (rotate_left 1); (focus (have f1 := (HA.out.ext hU.un).cell; have f2 := (HB.out.ext hU.un).cell; clear hU; go_simp <;> with_reducible rfl)); (simp only [pq0, pq1, pq2, pq3, pq4])))
   refine seq_opaque _ _ (by rfl) rfl ⟨_, none, 0, 0, none, 0, 0, rfl⟩ (by simp) (fun w6 hU hp K hK => ?_) ?_
   ·have hc := HO1.out w6 hU.un; clear hp hU; go_simp; refine hc.mono ?_; rintro e w7 ⟨hE, A', n', c', B', m', d', rfl, h1, h2⟩
    exact hK _ _ hE ⟨_, _, _, _, _, _, rfl⟩ (fun A n c B m d e => by
     injection e with e; simp only [Array.mk.injEq, List.cons.injEq, Value.slice.injEq, and_true] at e; obtain ⟨⟨rfl, rfl, rfl⟩, rfl, rfl, rfl⟩ := e
     exact ⟨h1, h2⟩)
   rintro _ ⟨A4, n4, c4, B4, m4, d4, rfl⟩; simp only [pq0, pq1, pq2, pq3, pq4]; repeat (first | ((refine seq_skip (by rfl) ?_); (simp only [pq0, pq1, pq2, pq3, pq4])) | ((refine seq_exact ?_ (by rfl) (by rfl) (fun w1 hU => ?_) ?_); (rotate_left 1); (focus (have f1 := (HA.out.ext hU.un).cell; have f2 := (HB.out.ext hU.un).cell; clear hU; go_simp <;> with_reducible rfl)); (simp only [pq0, pq1, pq2, pq3, pq4])))
   refine seq_opaque _ _ (by rfl) rfl ⟨_, rfl⟩ (by simp) (fun w6 hU hp K hK => ?_) ?_
   ·have h1 := hp _ (.tail _ (.head _)) (by kernel_rfl) _ _ _ _ _ _ rfl; have h2 := hp _ (.head _) (by kernel_rfl) _ _ _ _ _ _ rfl; have hc := HPS.out w6 _ _ _ _ _ _ _ _ _ _ _ _ h1.1 h1.2 h2.1 h2.2; clear hp hU h1 h2; go_simp; refine hc.mono ?_; rintro e w7 ⟨rfl, hE⟩; exact hK _ _ hE rfl trivial
   rintro _ rfl; simp only [pq0, pq1, pq2, pq3, pq4]; repeat (first | ((refine seq_skip (by rfl) ?_); (simp only [pq0, pq1, pq2, pq3, pq4])) | ((refine seq_exact ?_ (by rfl) (by rfl) (fun w1 hU => ?_) ?_); (rotate_left 1); (focus (have f1 := (HA.out.ext hU.un).cell; have f2 := (HB.out.ext hU.un).cell; clear hU; go_simp <;> with_reducible rfl)); (simp only [pq0, pq1, pq2, pq3, pq4])))
   intro w8 hw8 hp; clear hp; simp only [List.drop_succ_cons, List.drop_zero]; have HX8 := hide (HX.out.trans hw8.un); clear hw8; go_wp2_with fail; go_ret; exact ⟨rfl, HX8.out⟩
end Go.Proofs.YtelplgkppalmfaaGreatDoor
