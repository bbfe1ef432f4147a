/-
  Parts of the proof: OwnB Few.
-/
import Derived.Test.YtelplgkppalmfaaGreatDoorQ39
import Derived.Test.YtelplgkppalmfaaGreatDoorQ37
import Derived.Test.YtelplgkppalmfaaGreatDoorQ24
set_option maxRecDepth 100000
set_option maxHeartbeats 8000000
set_option linter.unusedVariables false
namespace Go.Proofs.YtelplgkppalmfaaGreatDoor
open Go.Proofs.Tryz
open Go.RowKit
theorem own_any (p : Pg) (hv : p.vs.length <= 1000000000) (hf : p.fs.length <= 1000000000) (hb : ∀ f, f ∈ p.fs -> wtS f.body <= 1000000000) (P : Nat -> Prop) (w : World) (A B : Option Addr) (n c m d : Nat) (hV : RdV w P (.slice A n c) p.vs) (hF : RdF w P (.slice B m d) p.fs) :
  Calls prog 17 #[.agg #[.slice A n c, .slice B m d]] w fun e w' => Ext w w' /\ ∃ A' n' c' B' m' d', e = .returned (.agg #[.slice A' n' c', .slice B' m' d']) /\ RdV w' (fun b => P b \/ w.heap.size <= b) (.slice A' n' c') p.vs /\ RdF w' (fun b => P b \/ w.heap.size <= b) (.slice B' m' d') p.fs := by
 obtain ⟨vs, fs⟩ := p; simp only at *; have hnv : n = vs.length := by obtain ⟨A', c', hh, _⟩ := hV; injection hh
 have hnf : m = fs.length := by obtain ⟨A', c', hh, _⟩ := hF; injection hh
 rw [<- hnv] at hv; rw [<- hnf] at hf; have HNV := hide hnv; have HNF := hide hnf; have HV := hide hV; have HF := hide hF; have HBD := hide hb; have HP0 := hide (po_new 33 26 w (.slice A n c) (.slice B m d)); have HO0 := hide (OwnQ.nil_ 96 73 (QO w P) (((w.alloc (.cells #[.slice A n c, .slice B m d] 33)).alloc (.cells #[.slice none 0 0, .slice none 0 0] 26)).alloc (.cells #[.slice none 0 0, .slice none 0 0] 26)) (w.heap.size + 3)); clear hnv hnf hV hF hb; have c0 := HP0.out.bs.cell; go_enter func17, ntmps17; go_wp2_with fail
 go_loopw [4] (fun vi wr => ∃ (j : Nat) (C : Option Addr) (cap : Nat), vi = .int .i64 (j : Int) /\ j <= n /\ Hid (PO 33 26 w (.slice A n c) (.slice B m d) (.slice C j cap) (.slice none 0 0) wr) /\ Hid (OwnQ 96 73 (QO w P) wr (w.heap.size + 3) (.slice C j cap) (.slice none 0 0) (vs.take j) [])) (fun vi _ => n - (intOf vi).toNat)
 case atStart => exact ⟨0, none, 0, rfl, Nat.zero_le _, HP0, HO0⟩
 case round =>
  clear c0 HP0 HO0; obtain ⟨j, C, cap, rfl, hj, HP, HO⟩ := hrel; have c0 := HP.out.bs.cell; by_cases hlt : j < n
  ·have hlt' : (j : Int) < n := by omega
   have hjl : j < vs.length := by have := HNV.out; omega
   obtain ⟨b, o, rfl, hb, h0, h1⟩ := rdv_at' HV.out j hjl; have e0 := (HP.out.e.cell b _ hb).trans h0; have e1 := (HP.out.e.cell b _ hb).trans h1; have hbl : b < wr.heap.size := Nat.lt_of_lt_of_le hb HP.out.e.size; have HT := hide (show vs.take (j + 1) = vs.take j ++ [vs[j]] from List.take_succ_eq_append_getElem hjl); have hlj : (vs.take j).length = j := by rw [List.length_take]; omega
   generalize vs[j] = x at *; clear h0 h1 hjl; go_wp2_with fail; clear c0; have hrow := World.ownsRow.lt HO.out.1
   refine wp_region_app 9 12 [(7, fun v => ∃ gb, v = .slice (some ⟨gb, 0, none⟩) 1 1, fun v wx => ∃ gb, v = .slice (some ⟨gb, 0, none⟩) 1 1 /\ wr.heap.size <= gb /\ Blk wx gb 96 #[.string (str x.nm), .int .i64 x.sz]),
     (8, fun v => ∃ A' cap', v = .slice (some ⟨A', 0, none⟩) (j + 1) cap', fun v wx => ∃ A' cap', v = .slice (some ⟨A', 0, none⟩) (j + 1) cap' /\ wx.ownsRow (w.heap.size + 3) 96 2 v (j + 1) (vrRow (vs.take j) ++ vrC x) /\ (some A' = Value.ownBlock (.slice C j cap) \/ wr.heap.size <= A'))] 8 (Value.ownBlock (.slice C j cap)) mixed (by kernel_rfl)
    ⟨fun _ _ _ h hx => (let ⟨gb, h1, h2, h3⟩ := h; ⟨gb, h1, h2, h3.ext hx⟩), fun _ _ _ h hx => (let ⟨A', cap', h1, h2, h3⟩ := h; ⟨A', cap', h1, World.ownsRow.kept h2 (hx.grownBy none) (.inr (by rw [h1]; simp [Value.ownBlock])), h3⟩), trivial⟩
    ⟨.inr fun _ _ _ h hx => (let ⟨gb, h1, h2, h3⟩ := h; ⟨gb, h1, h2, h3.grown hx (fun e => by have := (hrow _ e.symm).2; omega)⟩), .inl rfl, trivial⟩ ?_
   repeat ((refine seq_exact ?_ (by rfl) (by rfl) (fun w1 hU => ?_) ?_); (rotate_left 1); (focus (have hpq := HP.out.grown (grown_un hU) (fun k e => (hrow k e).1); have f1 := hpq.bs.cell; have f2 := hpq.bo.cell; have hbk := (grown_un hU).block b hbl (fun e => by have := (hrow _ e.symm).1; omega); have g0 := (World.cell?_of_block (w := wr) (a := ⟨b, o + j * 2, none⟩) hbk).trans e0; have g1 := (World.cell?_of_block (w := wr) (a := ⟨b, o + j * 2 + 1, none⟩) hbk).trans e1; clear hU hpq hbk; go_simp <;> with_reducible rfl)); (simp only [pq0, pq1, pq2, pq3, pq4]))
   refine seq_opaque _ _ (by rfl) rfl ⟨_, 0, rfl⟩ (by simp) (fun w6 hU hp K hK => ?_) ?_
   ·have hs := (grown_un hU).size; clear hU hp; go_simp; exact hK _ _ (Ext.alloc w6 _) ⟨_, rfl⟩ ⟨_, rfl, hs, Blk.new w6 _ _⟩
   rintro _ ⟨gb, rfl⟩; simp only [pq0, pq1, pq2, pq3, pq4]; refine seq_late _ _ (by rfl) rfl ⟨_, 0, 0, rfl⟩ rfl (fun w6 hT hp K hK => ?_) ?_
   ·obtain ⟨gb', hgb, hz, hB3⟩ := hp _ (.head _) (by kernel_rfl); injection hgb with hgb; injection hgb with hgb; injection hgb with hgb; subst hgb; have hO6 := HO.out.ext hT.un; have hs6 := (HP.out.ex hT.un).lt; have hs7 := hT.un.size; clear hp hT; refine wp_app1 vrt _ _ rfl (w.heap.size + 3) _ j (vrRow (vs.take j)) rfl (by have := hO6.1; rw [hlj] at this; exact this) gb (vrC x) rfl hB3 rfl (vrC_one x) (by omega) (by decide) (by omega) ?_; intro A' cap' w9 hq1 hq2 hq3; exact hK _ _ hq2 ⟨_, _, rfl⟩ ⟨_, _, rfl, hq1, hq3.imp_right (fun e => by omega)⟩
   rintro _ ⟨A', cap', rfl⟩; simp only [pq0, pq1, pq2, pq3, pq4]; repeat ((refine seq_exact ?_ (by rfl) (by rfl) (fun w1 hU => ?_) ?_); (rotate_left 1); (focus (go_simp <;> with_reducible rfl)); (simp only [pq0, pq1, pq2, pq3, pq4]))
   intro w8 hw8 hp; obtain ⟨A2, cap2, hv2, hq1, hA⟩ := hp _ (.head _); injection hv2 with hv2 _ hv3; injection hv2 with hv2; injection hv2 with hv2; subst hv2 hv3; clear hp; simp only [List.drop_succ_cons, List.drop_zero]; have hg8 := grown_un hw8; have HP8 := hide (HP.out.grown hg8 (fun k e => (hrow k e).1)); have HO8 := hide (HO.out.snocV hlj hq1 hg8 hA); rw [<- HT.out] at HO8; have HP9 := hide (HP8.out.putV (.slice (some ⟨A', 0, none⟩) (j + 1) cap')); have HO9 := hide (HO8.out.far (b := w.heap.size + 1 + 1) (i := 0) (by omega) (by omega) (.slice (some ⟨A', 0, none⟩) (j + 1) cap')); have d0 := HP8.out.bo.cell; have z0 := HP8.out.bo.frozen; clear hw8 hg8 hq1 hA hrow HO HP HO8 HT hlj e0 e1; go_wp2_with fail; go_roundw
   case rel => exact ⟨j + 1, _, _, by go_num, by omega, HP9, HO9⟩
   case measure => simp [intOf]; omega
  ·have hlt' : ¬ (j : Int) < n := by omega
   have hjn : j = n := by omega
   have HO1 := hide (show OwnQ 96 73 (QO w P) wr (w.heap.size + 3) (.slice C j cap) (.slice none 0 0) vs ([].map id) by
    have := HO.out; rw [List.take_of_length_le (by have := HNV.out; omega)] at this
    exact this)
   clear HO; obtain ⟨vv, hvv⟩ : ∃ vv, Value.slice C j cap = vv := ⟨_, rfl⟩
   rw [hvv] at HO1 HP; have HVV := hide hvv; clear hvv hjn hj hlt c0; have c0 := HP.out.bs.cell; go_wp2_with fail
   go_loopw [5] (fun vi wr => ∃ (j : Nat) (acc : List FV) (C : Option Addr) (cap : Nat), vi = .int .i64 (j : Int) /\ j <= m /\ Hid (acc.map (·.c) = fs.take j) /\ Hid (acc.length = j) /\ Hid (PO 33 26 w (.slice A n c) (.slice B m d) vv (.slice C j cap) wr) /\ Hid (OwnQ 96 73 (QO w P) wr (w.heap.size + 3) vv (.slice C j cap) vs acc)) (fun vi _ => m - (intOf vi).toNat)
   case atStart => exact ⟨0, [], none, 0, rfl, Nat.zero_le _, hide rfl, hide rfl, HP, HO1⟩
   case round =>
    clear c0 HP HO1; obtain ⟨j, acc, C, cap, rfl, hj, HM, HL, HP, HO⟩ := hrel; have c0 := HP.out.bs.cell; by_cases hlt : j < m
    ·have hlt' : (j : Int) < m := by omega
     have hjl : j < fs.length := by have := HNF.out; omega
     obtain ⟨b, o, pv, bv, rfl, hb, h0, h1, h2, hRp, hRb⟩ := rdf_at' HF.out j hjl; have e0 := (HP.out.e.cell b _ hb).trans h0; have e1 := (HP.out.e.cell b _ hb).trans h1; have e2 := (HP.out.e.cell b _ hb).trans h2; have hbl : b < wr.heap.size := Nat.lt_of_lt_of_le hb HP.out.e.size; have HT := hide (show fs.take (j + 1) = fs.take j ++ [fs[j]] from List.take_succ_eq_append_getElem hjl); have hwx := HBD.out _ (List.getElem_mem hjl); generalize fs[j] = x at *; have hlp : ∃ A' c', pv = .slice A' x.ps.length c' := by obtain ⟨A', c', hh, _⟩ := hRp; exact ⟨A', c', hh⟩
     obtain ⟨A3, c3, rfl⟩ := hlp; obtain ⟨B3, d3, rfl, _⟩ := hRb.form; have HRp := hide hRp; have hrow := World.ownsRow.lt HO.out.2.1; have hrow1 := World.ownsRow.lt HO.out.1; have HCB := hide (fun (W : World) (h : wr.grownBy W (Value.ownBlock (.slice C j cap))) => own_s hwx P W (.slice B3 x.body.length d3) (hRb.keep ⟨Nat.le_trans HP.out.e.size h.size, fun b _ hb => (h.block b (Nat.lt_of_lt_of_le hb HP.out.e.size) (fun e => by have := (hrow _ e.symm).1; omega)).trans (HP.out.e.obj hb)⟩ (fun _ hb _ => hb))); clear h0 h1 h2 hjl hRp hRb hwx; go_wp2_with fail; clear c0
     refine wp_region_app 24 12 [(20, fun v => ∃ A c, v = .slice A x.body.length c, fun v wx => RdS wx (fun b => wr.heap.size <= b) v x.body),
       (22, fun v => ∃ gb, v = .slice (some ⟨gb, 0, none⟩) 1 1, fun v wx => ∃ gb B4 d4, v = .slice (some ⟨gb, 0, none⟩) 1 1 /\ wr.heap.size <= gb /\ Blk wx gb 73 #[.string (str x.nm), .slice A3 x.ps.length c3, .slice B4 x.body.length d4] /\ RdS wx (fun b => wr.heap.size <= b) (.slice B4 x.body.length d4) x.body),
       (23, fun v => ∃ A' cap', v = .slice (some ⟨A', 0, none⟩) (j + 1) cap', fun v wx => ∃ A' cap' B4 d4, v = .slice (some ⟨A', 0, none⟩) (j + 1) cap' /\ wx.ownsRow (w.heap.size + 3) 73 3 v (j + 1) (fcRow acc ++ fcC ⟨x, .slice A3 x.ps.length c3, .slice B4 x.body.length d4⟩) /\ (some A' = Value.ownBlock (.slice C j cap) \/ wr.heap.size <= A') /\ RdS wx (fun b => wr.heap.size <= b /\ b ≠ A') (.slice B4 x.body.length d4) x.body)] 23 (Value.ownBlock (.slice C j cap)) mixed (by kernel_rfl)
      ⟨fun _ _ _ h hx => h.keep (.of_ext hx) (fun _ hb _ => hb), fun _ _ _ h hx => (let ⟨gb, B4, d4, h1, h2, h3, h4⟩ := h; ⟨gb, B4, d4, h1, h2, h3.ext hx, h4.keep (.of_ext hx) (fun _ hb _ => hb)⟩), fun _ _ _ h hx => (let ⟨A', cap', B4, d4, h1, h2, h3, h4⟩ := h; ⟨A', cap', B4, d4, h1, World.ownsRow.kept h2 (hx.grownBy none) (.inr (by rw [h1]; simp [Value.ownBlock])), h3, h4.keep (.of_ext hx) (fun _ hb _ => hb)⟩), trivial⟩
      ⟨.inr fun _ _ _ h hx => h.keep (.of_grown hx fun b hb e => by have := (hrow _ e.symm).2; omega) (fun _ hb _ => hb), .inr fun _ _ _ h hx => (let ⟨gb, B4, d4, h1, h2, h3, h4⟩ := h; ⟨gb, B4, d4, h1, h2, h3.grown hx (fun e => by have := (hrow _ e.symm).2; omega), h4.keep (.of_grown hx fun b hb e => by have := (hrow _ e.symm).2; omega) (fun _ hb _ => hb)⟩), .inl rfl, trivial⟩ ?_
     repeat ((refine seq_exact ?_ (by rfl) (by rfl) (fun w1 hU => ?_) ?_); (rotate_left 1); (focus (have hpq := HP.out.grown (grown_un hU) (fun k e => (hrow k e).1); have f1 := hpq.bs.cell; have f2 := hpq.bo.cell; have hbk := (grown_un hU).block b hbl (fun e => by have := (hrow _ e.symm).1; omega); have g0 := (World.cell?_of_block (w := wr) (a := ⟨b, o + j * 3, none⟩) hbk).trans e0; have g1 := (World.cell?_of_block (w := wr) (a := ⟨b, o + j * 3 + 1, none⟩) hbk).trans e1; have g2 := (World.cell?_of_block (w := wr) (a := ⟨b, o + j * 3 + 2, none⟩) hbk).trans e2; clear hU hpq hbk; go_simp <;> with_reducible rfl)); (simp only [pq0, pq1, pq2, pq3, pq4]))
     refine seq_opaque _ _ (by rfl) rfl ⟨_, none, 0, rfl⟩ (by simp) (fun w6 hU hp K hK => ?_) ?_
     ·clear hp; have hc := HCB.out w6 (grown_un hU); have hs := (grown_un hU).size; clear hU; go_simp; refine hc.mono ?_; rintro e w7 ⟨hE, A4, c4, rfl, hR3⟩; exact hK _ _ hE ⟨_, _, rfl⟩ (hR3.mono (fun b hb _ => Nat.le_trans hs hb))
     rintro _ ⟨A4, c4, rfl⟩; simp only [pq0, pq1, pq2, pq3, pq4]; repeat ((refine seq_exact ?_ (by rfl) (by rfl) (fun w1 hU => ?_) ?_); (rotate_left 1); (focus (go_simp <;> with_reducible rfl)); (simp only [pq0, pq1, pq2, pq3, pq4]))
     refine seq_opaque _ _ (by rfl) rfl ⟨_, 0, rfl⟩ (by simp) (fun w6 hU hp K hK => ?_) ?_
     ·have h3 : RdS w6 (fun b => wr.heap.size <= b) (.slice A4 x.body.length c4) x.body := hp _ (.head _) (by kernel_rfl); have hs := (grown_un hU).size; clear hU hp; go_simp; exact hK _ _ (Ext.alloc w6 _) ⟨_, rfl⟩ ⟨_, _, _, rfl, hs, Blk.new w6 _ _, h3.keep (.of_ext (Ext.alloc w6 _)) (fun _ hb _ => hb)⟩
     rintro _ ⟨gb, rfl⟩; simp only [pq0, pq1, pq2, pq3, pq4]; refine seq_late _ _ (by rfl) rfl ⟨_, 0, 0, rfl⟩ rfl (fun w6 hT hp K hK => ?_) ?_
     ·obtain ⟨gb', B4, d4, hgb, hz, hB3, hR3⟩ := hp _ (.head _) (by kernel_rfl); injection hgb with hgb; injection hgb with hgb; injection hgb with hgb; subst hgb; have hO6 := HO.out.ext hT.un; have hs6 := (HP.out.ex hT.un).lt; have hs7 := hT.un.size; have hl8 := HL.out; clear hp hT; refine wp_app1 fct _ _ rfl (w.heap.size + 3) _ j (fcRow acc) rfl (by have := hO6.2.1; rw [hl8] at this; exact this) gb (fcC ⟨x, .slice A3 x.ps.length c3, .slice B4 x.body.length d4⟩) rfl hB3 rfl (fcC_one _ _ _ _ _ _ _) (by omega) (by decide) (by omega) ?_; intro A' cap' w9 hq1 hq2 hq3; exact hK _ _ hq2 ⟨_, _, rfl⟩ ⟨_, _, _, _, rfl, hq1, hq3.imp_right (fun e => by omega), hR3.keep (.of_grown hq2 fun b hb e => by have := (hrow _ e.symm).2; omega) (fun b hb hlt => ⟨hb, fun e => by rcases hq3 with hq3 | hq3; (have := (hrow _ hq3.symm).2; omega); omega⟩)⟩
     rintro _ ⟨A', cap', rfl⟩; simp only [pq0, pq1, pq2, pq3, pq4]; repeat ((refine seq_exact ?_ (by rfl) (by rfl) (fun w1 hU => ?_) ?_); (rotate_left 1); (focus (go_simp <;> with_reducible rfl)); (simp only [pq0, pq1, pq2, pq3, pq4]))
     intro w8 hw8 hp; obtain ⟨A2, cap2, B4, d4, hv2, hq1, hA, hR4⟩ := hp _ (.head _); injection hv2 with hv2 _ hv3; injection hv2 with hv2; injection hv2 with hv2; subst hv2 hv3; clear hp; simp only [List.drop_succ_cons, List.drop_zero]; have hg8 := grown_un hw8; have hlw := HP.out.lt; have HP8 := hide (HP.out.grown hg8 (fun k e => (hrow k e).1)); have hok : FV.ok w8 (fun b => QO w P b /\ some b ≠ vv.ownBlock /\ b ≠ A') ⟨x, .slice A3 x.ps.length c3, .slice B4 x.body.length d4⟩ := by
      refine ⟨HRp.out.keep (.of_ext HP8.out.e) (fun b hb hlt => ⟨.inl ⟨hb, hlt⟩, fun e => by have := (hrow1 b e.symm).1; omega, fun e => by rcases hA with hA | hA; (have := (hrow _ hA.symm).1; omega); omega⟩), hR4.mono (fun b hb hlt => ⟨.inr (by omega), fun e => by have := (hrow1 b e.symm).2; omega, hb.2⟩)⟩
     have HO8 := hide (HO.out.snocF hok HL.out hq1 hg8 hA); have HP9 := hide (HP8.out.putF (.slice (some ⟨A', 0, none⟩) (j + 1) cap')); have HO9 := hide (HO8.out.far (b := w.heap.size + 1 + 1) (i := 1) (by omega) (by omega) (.slice (some ⟨A', 0, none⟩) (j + 1) cap')); have HM9 := hide (show (acc ++ [FV.mk x (.slice A3 x.ps.length c3) (.slice B4 x.body.length d4)]).map (·.c) = fs.take (j + 1) by rw [HT.out, List.map_append, HM.out]; rfl); have HL9 := hide (show (acc ++ [FV.mk x (.slice A3 x.ps.length c3) (.slice B4 x.body.length d4)]).length = j + 1 by rw [List.length_append, HL.out]; rfl); have d0 := HP8.out.bo.cell; have z0 := HP8.out.bo.frozen; clear hw8 hg8 hq1 hA hrow hrow1 HO HP HO8 HT HM HL e0 e1 e2 hok hR4 hlw; go_wp2_with fail; go_roundw
     case rel => exact ⟨j + 1, _, _, _, by go_num, by omega, HM9, HL9, HP9, HO9⟩
     case measure => simp [intOf]; omega
    ·have hlt' : ¬ (j : Int) < m := by omega
     obtain ⟨hrv, hrf⟩ := HO.out.rd (fun b hb => .inr hb); rw [HM.out, List.take_of_length_le (by have := HNF.out; omega)] at hrf; have hkk := kq_trans (qo_set (P := P) (w := w) (W := wr) (b := w.heap.size + 1) (i := 0) vv (by omega) (by omega)) (qo_set (P := P) (w := w) (b := w.heap.size + 1) (i := 1) (.slice C j cap) (by omega) (by omega)); have HRV := hide (hrv.keep hkk (Q := fun b => P b \/ w.heap.size <= b) (fun b hb _ => by rcases hb with hb | hb; (exact .inl hb.1); (exact .inr (by omega)))); have HRF := hide (hrf.keep hkk (Q := fun b => P b \/ w.heap.size <= b) (fun b hb _ => by rcases hb with hb | hb; (exact .inl hb.1); (exact .inr (by omega)))); have HE9 := hide ((HP.out.e.set (p := ⟨w.heap.size + 1, 0, none⟩) (by show w.heap.size <= w.heap.size + 1; omega) vv).set (p := ⟨w.heap.size + 1, 1, none⟩) (by show w.heap.size <= w.heap.size + 1; omega) (.slice C j cap)); have hB9 := (HP.out.bz.set 0 vv).set 1 (.slice C j cap); have hz9 := hB9.cell; have d0 := HP.out.bo.cell; have d1 := HP.out.bz.cell; have z1 := HP.out.bz.frozen; clear hrv hrf hkk HO HM HL hB9; have hvv := HVV.out; subst hvv; go_wp2_with fail; refine bodyPost_ret (v := .agg #[.slice _ _ _, .slice C j cap]) ?_ rfl ⟨HE9.out, _, _, _, _, _, _, rfl, HRV.out, HRF.out⟩; simp [results, results17, go_sem, hz9]
end Go.Proofs.YtelplgkppalmfaaGreatDoor
namespace Go.Proofs.YtelplgkppalmfaaGreatDoor
open Go.Proofs.Tryz
open Go.RowKit
def SzE (xs : List Ex) : Prop := ∀ (P : Nat -> Prop) (w : World) (u : Value), RdE w P u xs -> Calls prog 90 #[u] w fun e w' => (∃ k : Int, e = .returned (.int .i64 k)) /\ Ext w w'
def SzS (xs : List St) : Prop := ∀ (P : Nat -> Prop) (w : World) (u : Value), RdS w P u xs -> Calls prog 43 #[u] w fun e w' => (∃ k : Int, e = .returned (.int .i64 k)) /\ Ext w w'
theorem sz_estep (xs : List Ex) (hl : xs.length <= 1073741824) (hIH : ∀ x, x ∈ xs -> SzE x.args) : SzE xs := by
 intro P w u hu; obtain ⟨A, c, rfl, _⟩ := hu.form; obtain ⟨n, hn⟩ : ∃ n, xs.length = n := ⟨_, rfl⟩
 rw [hn] at hu hl; rw [hn]; have HN := hide hn; have HR := hide hu; have HI := hide hIH; clear hu hIH hn; go_enter func90, ntmps90; go_wp2_with fail
 go_loopw [3, 4] (fun vo vi wr => ∃ (j : Nat) (k : Int), vi = .int .i64 (j : Int) /\ vo = .int .i64 k /\ j <= n /\ Hid (Ext w wr)) (fun vo vi _ => n - (intOf vi).toNat)
 case atStart => exact ⟨0, 0, rfl, rfl, Nat.zero_le _, hide (Ext.refl w)⟩
 case round =>
  obtain ⟨j, k, rfl, rfl, hj, HX⟩ := hrel; by_cases hlt : j < n
  ·have hlt' : (j : Int) < n := by omega
   have hjl : j < xs.length := by have := HN.out; omega
   obtain ⟨b, o, a, rfl, hb, hP, h0, h1, h2, h3, h4, h5, hRa⟩ := HR.out.at_ j hjl; have hbl : b < wr.heap.size := Nat.lt_of_lt_of_le hb HX.out.size; have hIx := HI.out _ (List.getElem_mem hjl); generalize xs[j] = x at *; have e5 := (HX.out.cell b _ hb).trans h5; obtain ⟨A2, c2, rfl, _⟩ := hRa.form; have HC := hide (hIx P wr _ (hRa.keep (.of_ext HX.out) (fun b hb _ => hb))); clear h0 h1 h2 h3 h4 h5 hRa hIx; go_wp2_with (go_at_call 90; refine HC.out.mono ?_; rintro e w1 ⟨⟨q, rfl⟩, hE⟩; have HX1 := hide (HX.out.trans hE); clear hE HC); go_roundw
   case rel => exact ⟨j + 1, _, by go_num, rfl, by omega, HX1⟩
   case measure => simp [intOf]; omega
  ·have hlt' : ¬ (j : Int) < n := by omega
   go_wp2_with fail; go_ret; exact ⟨⟨_, rfl⟩, HX.out⟩
theorem sz_eall : ∀ (k : Nat) (xs : List Ex), wtL xs < k -> k <= 1000000001 -> SzE xs
 | 0, xs, h, _ => absurd h (Nat.not_lt_zero _)
 | k + 1, xs, h, hk => sz_estep xs (by have := wtL_length xs; omega) (fun x hx => sz_eall k x.args (by have := wtL_mem hx; have := x.wt_eq; omega) (by omega))
theorem sz_e {xs : List Ex} (h : wtL xs <= 1000000000) : SzE xs := sz_eall _ xs (Nat.lt_succ_self _) (by omega)
theorem sz_sstep (xs : List St) (hl : xs.length <= 1073741824) (hIH : ∀ x, x ∈ xs -> SzE x.ex /\ SzS x.body /\ SzS x.els) : SzS xs := by
 intro P w u hu; obtain ⟨A, c, rfl, _⟩ := hu.form; obtain ⟨n, hn⟩ : ∃ n, xs.length = n := ⟨_, rfl⟩
 rw [hn] at hu hl; rw [hn]; have HN := hide hn; have HR := hide hu; have HI := hide hIH; clear hu hIH hn; go_enter func43, ntmps43; go_wp2_with fail
 go_loopw [3, 4] (fun vo vi wr => ∃ (j : Nat) (k : Int), vi = .int .i64 (j : Int) /\ vo = .int .i64 k /\ j <= n /\ Hid (Ext w wr)) (fun vo vi _ => n - (intOf vi).toNat)
 case atStart => exact ⟨0, 0, rfl, rfl, Nat.zero_le _, hide (Ext.refl w)⟩
 case round =>
  obtain ⟨j, k, rfl, rfl, hj, HX⟩ := hrel; by_cases hlt : j < n
  ·have hlt' : (j : Int) < n := by omega
   have hjl : j < xs.length := by have := HN.out; omega
   obtain ⟨b, o, a, g, z, rfl, hb, hP, h0, h1, h2, h3, h4, hRa, hRb, hRc⟩ := HR.out.at_ j hjl; have hbl : b < wr.heap.size := Nat.lt_of_lt_of_le hb HX.out.size; have hIx := HI.out _ (List.getElem_mem hjl); generalize xs[j] = x at *; have e2 := (HX.out.cell b _ hb).trans h2; have e3 := (HX.out.cell b _ hb).trans h3; have e4 := (HX.out.cell b _ hb).trans h4; obtain ⟨A2, c2, rfl, _⟩ := hRa.form; obtain ⟨B2, d2, rfl, _⟩ := hRb.form; obtain ⟨C2, i2, rfl, _⟩ := hRc.form; have HC := hide (fun (W : World) (h : Ext wr W) => hIx.1 P W _ (hRa.keep (.of_ext (HX.out.trans h)) (fun b hb _ => hb))); have HC1 := hide (fun (W : World) (h : Ext wr W) => hIx.2.1 P W _ (hRb.keep (.of_ext (HX.out.trans h)) (fun b hb _ => hb))); have HC2 := hide (fun (W : World) (h : Ext wr W) => hIx.2.2 P W _ (hRc.keep (.of_ext (HX.out.trans h)) (fun b hb _ => hb))); clear h0 h1 h2 h3 h4 hRa hRb hRc hIx; go_wp2_with fail; refine wp_region_ext 23 12 [(6, fun v => ∃ k : Int, v = .int .i64 k, fun _ _ => True), (13, fun v => ∃ k : Int, v = .int .i64 k, fun _ _ => True), (20, fun v => ∃ k : Int, v = .int .i64 k, fun _ _ => True)] mixed (by kernel_rfl)
    ⟨fun _ _ _ _ _ => trivial, fun _ _ _ _ _ => trivial, fun _ _ _ _ _ => trivial, trivial⟩ ?_
   repeat ((refine seq_exact ?_ (by rfl) (by rfl) (fun w1 hU => ?_) ?_); (rotate_left 1); (focus (have g2 := (hU.un.cell b _ hbl).trans e2; clear hU; go_simp <;> with_reducible rfl)); (simp only [pq0, pq1, pq2, pq3, pq4]))
   refine seq_opaque _ _ (by rfl) rfl ⟨_, 0, rfl⟩ (by simp) (fun w6 hU hp K hK => ?_) ?_
   ·have hc := HC.out w6 hU.un; clear hp hU; go_simp; refine hc.mono ?_; rintro e w7 ⟨⟨q, rfl⟩, hE⟩; exact hK _ _ hE ⟨_, rfl⟩ trivial
   rintro _ ⟨k1, rfl⟩; simp only [pq0, pq1, pq2, pq3, pq4]; repeat ((refine seq_exact ?_ (by rfl) (by rfl) (fun w1 hU => ?_) ?_); (rotate_left 1); (focus (have g3 := (hU.un.cell b _ hbl).trans e3; clear hU; go_simp <;> with_reducible rfl)); (simp only [pq0, pq1, pq2, pq3, pq4]))
   refine seq_opaque _ _ (by rfl) rfl ⟨_, 0, rfl⟩ (by simp) (fun w6 hU hp K hK => ?_) ?_
   ·have hc := HC1.out w6 hU.un; clear hp hU; go_simp; refine hc.mono ?_; rintro e w7 ⟨⟨q, rfl⟩, hE⟩; exact hK _ _ hE ⟨_, rfl⟩ trivial
   rintro _ ⟨k2, rfl⟩; simp only [pq0, pq1, pq2, pq3, pq4]; repeat ((refine seq_exact ?_ (by rfl) (by rfl) (fun w1 hU => ?_) ?_); (rotate_left 1); (focus (have g4 := (hU.un.cell b _ hbl).trans e4; clear hU; go_simp <;> with_reducible rfl)); (simp only [pq0, pq1, pq2, pq3, pq4]))
   refine seq_opaque _ _ (by rfl) rfl ⟨_, 0, rfl⟩ (by simp) (fun w6 hU hp K hK => ?_) ?_
   ·have hc := HC2.out w6 hU.un; clear hp hU; go_simp; refine hc.mono ?_; rintro e w7 ⟨⟨q, rfl⟩, hE⟩; exact hK _ _ hE ⟨_, rfl⟩ trivial
   rintro _ ⟨k3, rfl⟩; simp only [pq0, pq1, pq2, pq3, pq4]; repeat ((refine seq_exact ?_ (by rfl) (by rfl) (fun w1 hU => ?_) ?_); (rotate_left 1); (focus (go_simp <;> with_reducible rfl)); (simp only [pq0, pq1, pq2, pq3, pq4]))
   intro w8 hw8 hp; clear hp; simp only [List.drop_succ_cons, List.drop_zero]; have HX8 := hide (HX.out.trans hw8.un); clear hw8; go_wp2_with fail; go_roundw
   case rel => exact ⟨j + 1, _, by go_num, rfl, by omega, HX8⟩
   case measure => simp [intOf]; omega
  ·have hlt' : ¬ (j : Int) < n := by omega
   go_wp2_with fail; go_ret; exact ⟨⟨_, rfl⟩, HX.out⟩
theorem sz_sall : ∀ (k : Nat) (xs : List St), wtS xs < k -> k <= 1000000001 -> SzS xs
 | 0, xs, h, _ => absurd h (Nat.not_lt_zero _)
 | k + 1, xs, h, hk => sz_sstep xs (by have := wtS_length xs; omega) (fun x hx => ⟨sz_e (by have := wtS_mem hx; have := x.wt_eq; omega), sz_sall k x.body (by have := wtS_mem hx; have := x.wt_eq; omega) (by omega), sz_sall k x.els (by have := wtS_mem hx; have := x.wt_eq; omega) (by omega)⟩)
theorem sz_s {xs : List St} (h : wtS xs <= 1000000000) : SzS xs := sz_sall _ xs (Nat.lt_succ_self _) (by omega)
theorem few_any (p : Pg) (hv : p.vs.length <= 1000000000) (hf : p.fs.length <= 1000000000) (hb : ∀ f, f ∈ p.fs -> wtS f.body <= 1000000000) (P : Nat -> Prop) (w : World) (A B : Option Addr) (n c m d : Nat) (hV : RdV w P (.slice A n c) p.vs) (hF : RdF w P (.slice B m d) p.fs) :
  Calls prog 15 #[.agg #[.slice A n c, .slice B m d]] w fun e w' => (∃ b : Bool, e = .returned (.bool b)) /\ Ext w w' := by
 obtain ⟨vs, fs⟩ := p; simp only at *; have hnv : n = vs.length := by obtain ⟨A', c', hh, _⟩ := hV; injection hh
 have hnf : m = fs.length := by obtain ⟨A', c', hh, _⟩ := hF; injection hh
 rw [<- hnv] at hv; rw [<- hnf] at hf; have HNF := hide hnf; have HF := hide hF; have HBD := hide hb; have HE0 := hide (Ext.alloc w (.cells #[.slice A n c, .slice B m d] 33)); have HB0 := hide (Blk.new w 33 #[.slice A n c, .slice B m d]); have hwr : IntKind.i64.wrap ((n : Int) + m) = n + m := by simp [IntKind.wrap, IntKind.signed, IntKind.bits]; omega
 clear hnv hnf hV hF hb; have c0 := HB0.out.cell; go_enter func15, ntmps15; go_wp2_with fail
 go_loopw [3, 4] (fun vo vi wr => ∃ (j : Nat) (k : Int), vi = .int .i64 (j : Int) /\ vo = .int .i64 k /\ j <= m /\ Hid (Ext w wr) /\ Hid (Blk wr w.heap.size 33 #[.slice A n c, .slice B m d])) (fun vo vi _ => m - (intOf vi).toNat)
 case atStart => exact ⟨0, 0, rfl, rfl, Nat.zero_le _, HE0, HB0⟩
 case round =>
  clear c0 HE0 HB0; obtain ⟨j, k, rfl, rfl, hj, HX, HB⟩ := hrel; have c0 := HB.out.cell; by_cases hlt : j < m
  ·have hlt' : (j : Int) < m := by omega
   have hjl : j < fs.length := by have := HNF.out; omega
   obtain ⟨b, o, pv, bv, rfl, hb, h0, h1, h2, hRp, hRb⟩ := rdf_at' HF.out j hjl; have e1 := (HX.out.cell b _ hb).trans h1; have e2 := (HX.out.cell b _ hb).trans h2; have hbl : b < wr.heap.size := Nat.lt_of_lt_of_le hb HX.out.size; have hwx := HBD.out _ (List.getElem_mem hjl); generalize fs[j] = x at *; have hlp : ∃ A' c', pv = .slice A' x.ps.length c' := by obtain ⟨A', c', hh, _⟩ := hRp; exact ⟨A', c', hh⟩
   obtain ⟨A3, c3, rfl⟩ := hlp; obtain ⟨B3, d3, rfl, _⟩ := hRb.form; have HC := hide (fun (W : World) (h : Ext wr W) => sz_s hwx P W _ (hRb.keep (.of_ext (HX.out.trans h)) (fun b hb _ => hb))); clear h0 h1 h2 hRp hRb hwx; go_wp2_with fail; clear c0; refine wp_region_ext 17 12 [(14, fun v => ∃ k : Int, v = .int .i64 k, fun _ _ => True)] mixed (by kernel_rfl) ⟨fun _ _ _ _ _ => trivial, trivial⟩ ?_; repeat ((refine seq_exact ?_ (by rfl) (by rfl) (fun w1 hU => ?_) ?_); (rotate_left 1); (focus (have f1 := (HB.out.ext hU.un).cell; have g1 := (hU.un.cell b _ hbl).trans e1; have g2 := (hU.un.cell b _ hbl).trans e2; clear hU; go_simp <;> with_reducible rfl)); (simp only [pq0, pq1, pq2, pq3, pq4]))
   refine seq_opaque _ _ (by rfl) rfl ⟨_, 0, rfl⟩ (by simp) (fun w6 hU hp K hK => ?_) ?_
   ·have hc := HC.out w6 hU.un; clear hp hU; go_simp; refine hc.mono ?_; rintro e w7 ⟨⟨q, rfl⟩, hE⟩; exact hK _ _ hE ⟨_, rfl⟩ trivial
   rintro _ ⟨k1, rfl⟩; simp only [pq0, pq1, pq2, pq3, pq4]; repeat ((refine seq_exact ?_ (by rfl) (by rfl) (fun w1 hU => ?_) ?_); (rotate_left 1); (focus (go_simp <;> with_reducible rfl)); (simp only [pq0, pq1, pq2, pq3, pq4]))
   intro w8 hw8 hp; clear hp; simp only [List.drop_succ_cons, List.drop_zero]; have HX8 := hide (HX.out.trans hw8.un); have HB8 := hide (HB.out.ext hw8.un); clear hw8; go_wp2_with fail; go_roundw
   case rel => exact ⟨j + 1, _, by go_num, rfl, by omega, HX8, HB8⟩
   case measure => simp [intOf]; omega
  ·have hlt' : ¬ (j : Int) < m := by omega
   by_cases h1 : (n : Int) + m <= 60
   ·by_cases h2 : k <= 600
    ·go_wp2_with fail; go_ret; first | exact ⟨.inl rfl, HX.out⟩ | exact ⟨.inr rfl, HX.out⟩
    ·go_wp2_with fail; go_ret; first | exact ⟨.inl rfl, HX.out⟩ | exact ⟨.inr rfl, HX.out⟩
   ·go_wp2_with fail; go_ret; first | exact ⟨.inl rfl, HX.out⟩ | exact ⟨.inr rfl, HX.out⟩
end Go.Proofs.YtelplgkppalmfaaGreatDoor
