/-
  Join of the reference.
-/
import Derived.Test.YtfcmngiekdhfpaaRefB
namespace Go.Proofs.Ytfcmngiekdhfpaa
open Go.RowKit
set_option linter.unusedVariables false

set_option maxRecDepth 100000 in
set_option maxHeartbeats 4000000 in
theorem rjoin_good (plen qlen : Nat) (n : Int) (P Q : Option Addr) (cp cq : Nat) (ps qs : List Chg) (w : World) (hp : Chs w P cp ps) (hq : Chs w Q cq qs) (hlp : ps.length ≤ 65536) (hlq : qs.length ≤ 65536) (hdp : ∀ c ∈ ps, c.2.length ≤ 65536) (hdq : ∀ c ∈ qs, c.2.length ≤ 65536)
    (hn2 : n ≤ 9223372036854775807) (h1 : validP plen ps n = true) (h2 : validP qlen qs plen = true) :
    Calls Try.prog 40 #[.agg #[.int .i64 plen, .slice P ps.length cp], .agg #[.int .i64 qlen, .slice Q qs.length cq], .int .i64 n] w fun e w' => ∃ C c, e = .returned (.tuple #[.agg #[.int .i64 qlen, .slice C (joinTo ps qs (cntN qlen)).length c], .int .i64 0]) ∧ OwnCh w' w.heap.size 88 (.slice C (joinTo ps qs (cntN qlen)).length c) (joinTo ps qs (cntN qlen)) ∧ Ext w w' := by
  have hq24 := (validP_parts h2).2.2.1
  have hp24 := (validP_parts h1).2.2.1
  have HV1 := hide h1
  have HV2 := hide h2
  have HP := hide hp
  have HQ := hide hq
  have HDP := hide hdp
  have HDQ := hide hdq
  have HCN := hide (cntN_cast qlen)
  have hcl := cntN_le qlen
  have HJL := hide (joinTo_length ps qs)
  clear hp hq hdp hdq h1 h2
  go_enter Try.func40, Try.ntmps40
  go_wp2_with fail
  refine (rvalid3_any _ _ _ _ _ _ (HP.out.ext (((Ext.alloc w _).alloc' _).alloc' _)) hlp HDP.out hn2).mono ?_
  rw [HV1.out]
  rintro e w1 ⟨rfl, hE1⟩
  have hB1 : Blk w1 w.heap.size 35 #[.int .i64 plen, .slice P ps.length cp] := (((Blk.new w 35 #[.int .i64 plen, .slice P ps.length cp]).alloc _).alloc _).ext hE1
  have hB2 : Blk w1 (w.heap.size + 1) 35 #[.int .i64 qlen, .slice Q qs.length cq] := by
    have := ((Blk.new (w.alloc (.cells #[.int .i64 plen, .slice P ps.length cp] 35)) 35 #[.int .i64 qlen, .slice Q qs.length cq]).alloc (.cells #[.int .i64 0, .slice none 0 0] 35)).ext hE1
    simpa using this
  have hB3 : Blk w1 (w.heap.size + 2) 35 #[.int .i64 0, .slice none 0 0] := by
    have := (Blk.new ((w.alloc (.cells #[.int .i64 plen, .slice P ps.length cp] 35)).alloc (.cells #[.int .i64 qlen, .slice Q qs.length cq] 35)) 35 #[.int .i64 0, .slice none 0 0]).ext hE1
    simpa using this
  have HE1 := hide ((((Ext.alloc w _).alloc' _).alloc' _).trans hE1)
  have hc1 := hB1.cell
  have hc2 := hB2.cell
  have hz1 := hB3.lt
  have HB1 := hide hB1
  have HB2 := hide hB2
  have HB3 := hide hB3
  clear hE1 hB1 hB2 hB3
  go_wp2_with fail
  refine (rvalid3_any _ _ _ _ _ _ (HQ.out.ext HE1.out) hlq HDQ.out (by omega)).mono ?_
  rw [HV2.out]
  rintro e w2 ⟨rfl, hE2⟩
  have hB1 := HB1.out.ext hE2
  have hB2 := HB2.out.ext hE2
  have hB3 := HB3.out.ext hE2
  have HE2 := hide (HE1.out.trans hE2)
  have hc3 := hB1.cell
  have hc4 := hB2.cell
  have hz2 := hB3.lt
  clear hE2 hc1 hc2 HB1 HB2 HB3 HE1
  have HB1 := hide hB1
  have HB2 := hide hB2
  have HB3 := hide hB3
  clear hB1 hB2 hB3
  go_wp2_with fail
  go_loopw [9] (fun k wr => ∃ (j : Nat) (C : Option Addr) (c' : Nat), j ≤ cntN qlen ∧ k = .int .i64 j ∧ PBox wr w2.heap.size 35 88 qlen C c' (joinTo ps qs j) ∧
      Blk wr w.heap.size 35 #[.int .i64 plen, .slice P ps.length cp] ∧ Blk wr (w.heap.size + 1) 35 #[.int .i64 qlen, .slice Q qs.length cq] ∧ Blk wr (w.heap.size + 2) 35 #[.int .i64 0, .slice none 0 0] ∧ Ext w wr) (fun k _ => cntN qlen - (intOf k).toNat)
  case atStart =>
    refine ⟨0, none, 0, Nat.zero_le _, rfl, ⟨?_, OwnCh.nil_ _ _ _⟩, HB1.out.alloc _, HB2.out.alloc _, HB3.out.alloc _, HE2.out.alloc' _⟩
    exact Blk.new w2 35 #[.int .i64 qlen, .slice none 0 0]
  case round =>
    obtain ⟨j, C, c', hj, rfl, hbox, hp1, hp2, hp3, hext⟩ := hrel
    have hcb := hp2.cell
    have hca := hp1.cell
    have hzr := hbox.blk.lt
    have HBX := hide hbox
    have HP1 := hide hp1
    have HP2 := hide hp2
    have HP3 := hide hp3
    have HX := hide hext
    clear hbox hp1 hp2 hp3 hc3 hc4
    by_cases hjl : j < cntN qlen
    · have hjc : (j : Int) < cnt qlen := by rw [HCN.out]; omega
      have HPR := hide (HP.out.ext hext)
      have HQR := hide (HQ.out.ext hext)
      have hjlen := HJL.out j
      clear hext
      obtain ⟨f, hf⟩ : ∃ f, fi qs j = f := ⟨_, rfl⟩
      have hfb := fi_fb qs j
      have hfd := fi_fd qs j
      have hge := fi_ge qs j
      rw [hf] at hfb hfd hge
      have HF := hide hf
      obtain ⟨g1, g2⟩ := hge
      by_cases h0 : 0 ≤ f
      · obtain ⟨i, rfl⟩ := Int.eq_ofNat_of_zero_le h0
        obtain ⟨c, hcc1, hcc2⟩ := hfd h0
        have hil : i < qs.length := by omega
        have hce : qs[i] = c := by
          rw [Int.toNat_natCast, List.getElem?_eq_getElem hil] at hcc1
          exact Option.some.inj hcc1
        have hfbt : fb qs j = true := by
          cases hb : fb qs (j : Int) with
          | true => rfl
          | false =>
            rw [hb] at hfb
            exact absurd (show (i : Int) < 0 by rw [hfb]) (by omega)
        have HD := hide (show joinTo ps qs (j + 1) = joinTo ps qs j ++ [((j : Int), qs[i].2)] by simp only [joinTo]; rw [hfbt, if_pos rfl, hce, hcc2])
        obtain ⟨b, off, Ai, ci, rfl, hb1, he1', he2', hs1⟩ := HQ.out.at_ i hil
        have he1 := (HX.out.cell b _ hb1).trans he1'
        have he2 := (HX.out.cell b _ hb1).trans he2'
        have hsz := HDQ.out qs[i] (List.getElem_mem hil)
        have hAi0 := hs1.lt
        have HC3 := hide (hs1.ext HX.out)
        clear he1' he2'
        clear hf hfb hfd hcc1 hcc2 hce hs1 hfbt h0
        go_wp2_with (first
          | (go_at_call 17; refine (rcount_any _ _ (by omega)).mono ?_; rintro e w' ⟨rfl, rfl⟩)
          | (go_at_call 58; refine (rfind_any _ _ _ _ _ HQR.out hlq).mono ?_; rw [HF.out]; rintro e w' ⟨rfl, rfl⟩))
        have hrow := HBX.out.hrow
        have hr1 : some w2.heap.size ≠ Value.ownBlock (.slice C (joinTo ps qs j).length c') := fun e => by have := hrow _ e.symm; omega
        have hr2 : some w.heap.size ≠ Value.ownBlock (.slice C (joinTo ps qs j).length c') := fun e => by have := hrow _ e.symm; omega
        have hr3 : some (w.heap.size + 1) ≠ Value.ownBlock (.slice C (joinTo ps qs j).length c') := fun e => by have := hrow _ e.symm; omega
        have hr4 : some (w.heap.size + 2) ≠ Value.ownBlock (.slice C (joinTo ps qs j).length c') := fun e => by have := hrow _ e.symm; omega
        have hbne : some b ≠ Value.ownBlock (.slice C (joinTo ps qs j).length c') := fun e => by have := hrow _ e.symm; omega
        have hAi : qs[i].2 = [] ∨ ∀ a, Ai = some a → some a.block ≠ Value.ownBlock (.slice C (joinTo ps qs j).length c') := hAi0.imp id (fun h a ha e => by have := hrow _ e.symm; have := h a ha; omega)
        generalize hgr : Value.ownBlock (.slice C (joinTo ps qs j).length c') = row at *
        have HGR := hide hgr
        clear hgr
        refine wp_region_app 15 3 [(3, ShEm, EmX (w2.heap.size + 1) row 5), (10, ShSl qs[i].2.length, SlX (w2.heap.size + 1) row qs[i].2),
            (12, fun v => ∃ g, v = .slice (some ⟨g, 0, none⟩) 1 1, OneCh (w2.heap.size + 1) row 88 ((j : Int), qs[i].2)),
            (13, ShSl ((joinTo ps qs j).length + 1), fun v w' => OwnCh w' (w2.heap.size + 1) 88 v (joinTo ps qs j ++ [((j : Int), qs[i].2)]))] 13 row
            mixed (by kernel_rfl) ⟨fun _ _ _ h hx => h.grown (hx.grownBy _), fun _ _ _ h hx => h.grown (hx.grownBy _), fun _ _ _ h hx => h.grown (hx.grownBy _), fun _ _ _ h hx => h.ext hx, trivial⟩
            ⟨.inr fun _ _ _ h hx => h.grown hx, .inr fun _ _ _ h hx => h.grown hx, .inr fun _ _ _ h hx => h.grown hx, .inl rfl, trivial⟩ ?_
        repeat ((refine seq_exact ?_ (by rfl) (by rfl) (fun w1 hU => ?_) ?_); (rotate_left 1); (focus (have hU := grown_un hU; have hbk := (HBX.out.blk.grown hU hr1).cell; have hpk := (HP2.out.grown hU hr3).cell; have hk1 := hU.cell he1 hbne; have hk2 := hU.cell he2 hbne; clear hU; go_simp <;> with_reducible rfl)); (simp only [Act.put, List.setIfInBounds_toArray, List.set_cons_zero, List.set_cons_succ]))
        refine seq_opaque _ _ (by rfl) rfl ⟨_, 0, rfl⟩ (by simp) (fun w1 hU _ K hK => ?_) ?_
        · have hz := (grown_un hU).size
          go_simp
          exact hK _ _ (Ext.alloc w1 _) ⟨_, rfl⟩ (EmX.new w1 5 (by omega) fun k e => by have := hrow k e; omega)
        rintro _ ⟨g0, rfl⟩
        simp only [Act.put, List.setIfInBounds_toArray, List.set_cons_zero, List.set_cons_succ]
        repeat ((refine seq_exact ?_ (by rfl) (by rfl) (fun w1 hU => ?_) ?_); (rotate_left 1); (focus (have hU := grown_un hU; have hbk := (HBX.out.blk.grown hU hr1).cell; have hpk := (HP2.out.grown hU hr3).cell; have hk1 := hU.cell he1 hbne; have hk2 := hU.cell he2 hbne; clear hU; go_simp <;> with_reducible rfl)); (simp only [Act.put, List.setIfInBounds_toArray, List.set_cons_zero, List.set_cons_succ]))
        refine seq_opaque _ _ (by rfl) rfl ⟨_, none, 0, rfl⟩ (by simp) (fun w1 hU hp K hK => ?_) ?_
        · have hs := hp _ (.head _) (by kernel_rfl)
          have hU := grown_un hU
          have hz := hU.size
          exact wp_appendE bt _ _ rfl (w2.heap.size + 1) _ rfl hs.1 Ai ci qs[i].2 rfl (HC3.out.grown hU hAi) (by omega) (by omega) fun A' cap' w' h1 h2 h3 => hK _ _ h2 ⟨A', cap', rfl⟩ (h1.slX2 hs.2 (fun k e => by have := hrow k e; omega) h3)
        rintro _ ⟨A3, c3, rfl⟩
        simp only [Act.put, List.setIfInBounds_toArray, List.set_cons_zero, List.set_cons_succ]
        repeat ((refine seq_exact ?_ (by rfl) (by rfl) (fun w1 hU => ?_) ?_); (rotate_left 1); (focus (go_simp <;> with_reducible rfl)); (simp only [Act.put, List.setIfInBounds_toArray, List.set_cons_zero, List.set_cons_succ]))
        refine seq_opaque _ _ (by rfl) rfl ⟨_, 0, rfl⟩ (by simp) (fun w1 hU hp K hK => ?_) ?_
        · have hs := hp _ (.head _) (by kernel_rfl)
          have hz := (grown_un hU).size
          clear hp
          go_simp
          exact hK _ _ (Ext.alloc w1 _) ⟨_, rfl⟩ (OneCh.mk_ hs fun k e => by have := hrow k e; omega)
        rintro _ ⟨g, rfl⟩
        simp only [Act.put, List.setIfInBounds_toArray, List.set_cons_zero, List.set_cons_succ]
        refine seq_late _ _ (by rfl) rfl ⟨_, none, 0, rfl⟩ rfl (fun w1 hU hp K hK => ?_) ?_
        · have hs := hp _ (.head _) (by kernel_rfl)
          have ho := HBX.out.own.ext hU.un
          have hz := Ext.size hU.un
          have hgr := HGR.out
          refine wp_appendCh rct _ _ rfl (w2.heap.size + 1) _ _ _ rfl ho _ rfl (hgr ▸ hs) (by omega) (by omega) fun A' cap' w' h1 h2 => ?_
          exact hK _ _ (hgr ▸ h2) ⟨A', cap', rfl⟩ h1
        rintro _ ⟨C', cap', rfl⟩
        simp only [Act.put, List.setIfInBounds_toArray, List.set_cons_zero, List.set_cons_succ]
        repeat ((refine seq_exact ?_ (by rfl) (by rfl) (fun w1 hU => ?_) ?_); (rotate_left 1); (focus (go_simp <;> with_reducible rfl)); (simp only [Act.put, List.setIfInBounds_toArray, List.set_cons_zero, List.set_cons_succ]))
        intro w8 hw8 hp
        have ho8 := hp _ (.head _)
        clear hp
        simp only [List.drop_succ_cons, List.drop_zero]
        have hw8 := grown_un hw8
        have hb8 := HBX.out.blk.grown hw8 hr1
        have HR8 := hide (HP3.out.grown hw8 hr4)
        have HA8 := hide (HP1.out.grown hw8 hr2)
        have HC8 := hide (HP2.out.grown hw8 hr3)
        have HX8 := hide (HX.out.grown hw8 (fun k e => by have := hrow k e; omega))
        have hc8 := hb8.cell
        have hf8 := hb8.frozen
        have HB8 := hide hb8
        have HO8 := hide ho8
        clear hb8 ho8 hw8 HBX HP1 HP2 HP3 hrow hr1 hr2 hr3 hr4
        go_wp2
        go_roundw
        case rel =>
          refine ⟨j + 1, C', cap', by omega, by go_num, ⟨?_, ?_⟩, HA8.out.far (by simp <;> omega) _, HC8.out.far (by simp <;> omega) _, HR8.out.far (by simp <;> omega) _, HX8.out.set (by simp <;> omega) _⟩
          · rw [HD.out, List.length_append]
            have := HB8.out.set 1 (.slice C' ((joinTo ps qs j).length + 1) cap')
            simpa using this
          · rw [HD.out, List.length_append]
            have := OwnCh.set HO8.out (p := ⟨w2.heap.size, 1, none⟩) (by simp) (.slice C' ((joinTo ps qs j).length + 1) cap')
            simpa using this
        case measure => simp [intOf]; omega
      · have hfbq : fb qs j = false := by
          cases hb : fb qs (j : Int) with
          | false => rfl
          | true =>
            rw [hb] at hfb
            have : f < 0 := by omega
            rw [hfb] at this
            cases this
        have h0' : f < 0 := by omega
        have HFB := hide hfbq
        clear hf hfb hfd h0 hfbq
        obtain ⟨f2, hf2⟩ : ∃ f2, fi ps j = f2 := ⟨_, rfl⟩
        have hfb2 := fi_fb ps j
        have hfd2 := fi_fd ps j
        have hge2 := fi_ge ps j
        rw [hf2] at hfb2 hfd2 hge2
        have HF2 := hide hf2
        obtain ⟨g3, g4⟩ := hge2
        by_cases h0 : 0 ≤ f2
        · obtain ⟨i2, rfl⟩ := Int.eq_ofNat_of_zero_le h0
          obtain ⟨c, hcc1, hcc2⟩ := hfd2 h0
          have hil : i2 < ps.length := by omega
          have hce : ps[i2] = c := by
            rw [Int.toNat_natCast, List.getElem?_eq_getElem hil] at hcc1
            exact Option.some.inj hcc1
          have hfbt : fb ps j = true := by
            cases hb : fb ps (j : Int) with
            | true => rfl
            | false =>
              rw [hb] at hfb2
              exact absurd (show (i2 : Int) < 0 by rw [hfb2]) (by omega)
          have HD := hide (show joinTo ps qs (j + 1) = joinTo ps qs j ++ [((j : Int), ps[i2].2)] by simp only [joinTo]; rw [HFB.out, if_neg (by simp)]; rw [hfbt, if_pos rfl, hce, hcc2])
          obtain ⟨b, off, Ai, ci, rfl, hb1, he1', he2', hs1⟩ := HP.out.at_ i2 hil
          have he1 := (HX.out.cell b _ hb1).trans he1'
          have he2 := (HX.out.cell b _ hb1).trans he2'
          have hsz := HDP.out ps[i2] (List.getElem_mem hil)
          have hAi0 := hs1.lt
          have HC3 := hide (hs1.ext HX.out)
          clear he1' he2'
          clear hf2 hfb2 hfd2 hcc1 hcc2 hce hs1 hfbt h0
          go_wp2_with (first
            | (go_at_call 17; refine (rcount_any _ _ (by omega)).mono ?_; rintro e w' ⟨rfl, rfl⟩)
            | (go_at_call 58; with_reducible (refine (rfind_any _ _ _ _ _ HQR.out hlq).mono ?_); rw [HF.out]; rintro e w' ⟨rfl, rfl⟩)
            | (go_at_call 58; with_reducible (refine (rfind_any _ _ _ _ _ HPR.out hlp).mono ?_); rw [HF2.out]; rintro e w' ⟨rfl, rfl⟩))
          have hrow := HBX.out.hrow
          have hr1 : some w2.heap.size ≠ Value.ownBlock (.slice C (joinTo ps qs j).length c') := fun e => by have := hrow _ e.symm; omega
          have hr2 : some w.heap.size ≠ Value.ownBlock (.slice C (joinTo ps qs j).length c') := fun e => by have := hrow _ e.symm; omega
          have hr3 : some (w.heap.size + 1) ≠ Value.ownBlock (.slice C (joinTo ps qs j).length c') := fun e => by have := hrow _ e.symm; omega
          have hr4 : some (w.heap.size + 2) ≠ Value.ownBlock (.slice C (joinTo ps qs j).length c') := fun e => by have := hrow _ e.symm; omega
          have hbne : some b ≠ Value.ownBlock (.slice C (joinTo ps qs j).length c') := fun e => by have := hrow _ e.symm; omega
          have hAi : ps[i2].2 = [] ∨ ∀ a, Ai = some a → some a.block ≠ Value.ownBlock (.slice C (joinTo ps qs j).length c') := hAi0.imp id (fun h a ha e => by have := hrow _ e.symm; have := h a ha; omega)
          generalize hgr : Value.ownBlock (.slice C (joinTo ps qs j).length c') = row at *
          have HGR := hide hgr
          clear hgr
          refine wp_region_app 15 3 [(3, ShEm, EmX (w2.heap.size + 1) row 5), (10, ShSl ps[i2].2.length, SlX (w2.heap.size + 1) row ps[i2].2),
              (12, fun v => ∃ g, v = .slice (some ⟨g, 0, none⟩) 1 1, OneCh (w2.heap.size + 1) row 88 ((j : Int), ps[i2].2)),
              (13, ShSl ((joinTo ps qs j).length + 1), fun v w' => OwnCh w' (w2.heap.size + 1) 88 v (joinTo ps qs j ++ [((j : Int), ps[i2].2)]))] 13 row
              mixed (by kernel_rfl) ⟨fun _ _ _ h hx => h.grown (hx.grownBy _), fun _ _ _ h hx => h.grown (hx.grownBy _), fun _ _ _ h hx => h.grown (hx.grownBy _), fun _ _ _ h hx => h.ext hx, trivial⟩
              ⟨.inr fun _ _ _ h hx => h.grown hx, .inr fun _ _ _ h hx => h.grown hx, .inr fun _ _ _ h hx => h.grown hx, .inl rfl, trivial⟩ ?_
          repeat ((refine seq_exact ?_ (by rfl) (by rfl) (fun w1 hU => ?_) ?_); (rotate_left 1); (focus (have hU := grown_un hU; have hbk := (HBX.out.blk.grown hU hr1).cell; have hpk := (HP1.out.grown hU hr2).cell; have hk1 := hU.cell he1 hbne; have hk2 := hU.cell he2 hbne; clear hU; go_simp <;> with_reducible rfl)); (simp only [Act.put, List.setIfInBounds_toArray, List.set_cons_zero, List.set_cons_succ]))
          refine seq_opaque _ _ (by rfl) rfl ⟨_, 0, rfl⟩ (by simp) (fun w1 hU _ K hK => ?_) ?_
          · have hz := (grown_un hU).size
            go_simp
            exact hK _ _ (Ext.alloc w1 _) ⟨_, rfl⟩ (EmX.new w1 5 (by omega) fun k e => by have := hrow k e; omega)
          rintro _ ⟨g0, rfl⟩
          simp only [Act.put, List.setIfInBounds_toArray, List.set_cons_zero, List.set_cons_succ]
          repeat ((refine seq_exact ?_ (by rfl) (by rfl) (fun w1 hU => ?_) ?_); (rotate_left 1); (focus (have hU := grown_un hU; have hbk := (HBX.out.blk.grown hU hr1).cell; have hpk := (HP1.out.grown hU hr2).cell; have hk1 := hU.cell he1 hbne; have hk2 := hU.cell he2 hbne; clear hU; go_simp <;> with_reducible rfl)); (simp only [Act.put, List.setIfInBounds_toArray, List.set_cons_zero, List.set_cons_succ]))
          refine seq_opaque _ _ (by rfl) rfl ⟨_, none, 0, rfl⟩ (by simp) (fun w1 hU hp K hK => ?_) ?_
          · have hs := hp _ (.head _) (by kernel_rfl)
            have hU := grown_un hU
            have hz := hU.size
            exact wp_appendE bt _ _ rfl (w2.heap.size + 1) _ rfl hs.1 Ai ci ps[i2].2 rfl (HC3.out.grown hU hAi) (by omega) (by omega) fun A' cap' w' h1 h2 h3 => hK _ _ h2 ⟨A', cap', rfl⟩ (h1.slX2 hs.2 (fun k e => by have := hrow k e; omega) h3)
          rintro _ ⟨A3, c3, rfl⟩
          simp only [Act.put, List.setIfInBounds_toArray, List.set_cons_zero, List.set_cons_succ]
          repeat ((refine seq_exact ?_ (by rfl) (by rfl) (fun w1 hU => ?_) ?_); (rotate_left 1); (focus (go_simp <;> with_reducible rfl)); (simp only [Act.put, List.setIfInBounds_toArray, List.set_cons_zero, List.set_cons_succ]))
          refine seq_opaque _ _ (by rfl) rfl ⟨_, 0, rfl⟩ (by simp) (fun w1 hU hp K hK => ?_) ?_
          · have hs := hp _ (.head _) (by kernel_rfl)
            have hz := (grown_un hU).size
            clear hp
            go_simp
            exact hK _ _ (Ext.alloc w1 _) ⟨_, rfl⟩ (OneCh.mk_ hs fun k e => by have := hrow k e; omega)
          rintro _ ⟨g, rfl⟩
          simp only [Act.put, List.setIfInBounds_toArray, List.set_cons_zero, List.set_cons_succ]
          refine seq_late _ _ (by rfl) rfl ⟨_, none, 0, rfl⟩ rfl (fun w1 hU hp K hK => ?_) ?_
          · have hs := hp _ (.head _) (by kernel_rfl)
            have ho := HBX.out.own.ext hU.un
            have hz := Ext.size hU.un
            have hgr := HGR.out
            refine wp_appendCh rct _ _ rfl (w2.heap.size + 1) _ _ _ rfl ho _ rfl (hgr ▸ hs) (by omega) (by omega) fun A' cap' w' h1 h2 => ?_
            exact hK _ _ (hgr ▸ h2) ⟨A', cap', rfl⟩ h1
          rintro _ ⟨C', cap', rfl⟩
          simp only [Act.put, List.setIfInBounds_toArray, List.set_cons_zero, List.set_cons_succ]
          repeat ((refine seq_exact ?_ (by rfl) (by rfl) (fun w1 hU => ?_) ?_); (rotate_left 1); (focus (go_simp <;> with_reducible rfl)); (simp only [Act.put, List.setIfInBounds_toArray, List.set_cons_zero, List.set_cons_succ]))
          intro w8 hw8 hp
          have ho8 := hp _ (.head _)
          clear hp
          simp only [List.drop_succ_cons, List.drop_zero]
          have hw8 := grown_un hw8
          have hb8 := HBX.out.blk.grown hw8 hr1
          have HR8 := hide (HP3.out.grown hw8 hr4)
          have HA8 := hide (HP1.out.grown hw8 hr2)
          have HC8 := hide (HP2.out.grown hw8 hr3)
          have HX8 := hide (HX.out.grown hw8 (fun k e => by have := hrow k e; omega))
          have hc8 := hb8.cell
          have hf8 := hb8.frozen
          have HB8 := hide hb8
          have HO8 := hide ho8
          clear hb8 ho8 hw8 HBX HP1 HP2 HP3 hrow hr1 hr2 hr3 hr4
          go_wp2
          go_roundw
          case rel =>
            refine ⟨j + 1, C', cap', by omega, by go_num, ⟨?_, ?_⟩, HA8.out.far (by simp <;> omega) _, HC8.out.far (by simp <;> omega) _, HR8.out.far (by simp <;> omega) _, HX8.out.set (by simp <;> omega) _⟩
            · rw [HD.out, List.length_append]
              have := HB8.out.set 1 (.slice C' ((joinTo ps qs j).length + 1) cap')
              simpa using this
            · rw [HD.out, List.length_append]
              have := OwnCh.set HO8.out (p := ⟨w2.heap.size, 1, none⟩) (by simp) (.slice C' ((joinTo ps qs j).length + 1) cap')
              simpa using this
          case measure => simp [intOf]; omega
        · have hfbp : fb ps j = false := by
            cases hb : fb ps (j : Int) with
            | false => rfl
            | true =>
              rw [hb] at hfb2
              have : f2 < 0 := by omega
              rw [hfb2] at this
              cases this
          have h0' : f2 < 0 := by omega
          have HD := hide (show joinTo ps qs (j + 1) = joinTo ps qs j by simp only [joinTo]; rw [HFB.out, hfbp]; simp)
          clear hf2 hfb2 hfd2 h0 hfbp
          go_wp2_with (first
            | (go_at_call 17; refine (rcount_any _ _ (by omega)).mono ?_; rintro e w' ⟨rfl, rfl⟩)
            | (go_at_call 58; with_reducible (refine (rfind_any _ _ _ _ _ HQR.out hlq).mono ?_); rw [HF.out]; rintro e w' ⟨rfl, rfl⟩)
            | (go_at_call 58; with_reducible (refine (rfind_any _ _ _ _ _ HPR.out hlp).mono ?_); rw [HF2.out]; rintro e w' ⟨rfl, rfl⟩))
          go_roundw
          case rel =>
            refine ⟨j + 1, C, c', by omega, by go_num, ?_, HP1.out, HP2.out, HP3.out, HX.out⟩
            rw [HD.out]
            exact HBX.out
          case measure => simp [intOf]; omega
    · have hjj : j = cntN qlen := by omega
      have hjc : ¬ (j : Int) < cnt qlen := by rw [HCN.out]; omega
      subst hjj
      have hcx := HBX.out.blk.cell
      have hcr := HP3.out.cell
      have hfr := HP3.out.frozen
      clear hext
      go_wp2_with (go_at_call 17; refine (rcount_any _ _ (by omega)).mono ?_; rintro e w' ⟨rfl, rfl⟩)
      have hset := (HP3.out.set 0 (.int .i64 qlen)).set 1 (.slice C (joinTo ps qs (cntN qlen)).length c')
      have hcc := hset.cell
      refine bodyPost_ret (v := .tuple #[.agg #[.int .i64 qlen, .slice C (joinTo ps qs (cntN qlen)).length c'], .int .i64 0]) (by simp [results, Try.results40, go_sem, hcc]) rfl ?_
      refine ⟨C, c', rfl, ?_, (HX.out.set (by simp <;> omega) _).set (by simp <;> omega) _⟩
      exact ((HBX.out.own.set (p := ⟨w.heap.size + 2, 0, none⟩) (by simp <;> omega) _).set (p := ⟨w.heap.size + 2, 1, none⟩) (by simp <;> omega) _).base_le (by omega)
set_option maxRecDepth 100000 in
theorem rjoin_bad (plen qlen n : Int) (P Q : Option Addr) (cp cq : Nat) (ps qs : List Chg) (w : World) (hp : Chs w P cp ps) (hq : Chs w Q cq qs) (hlp : ps.length ≤ 65536) (hlq : qs.length ≤ 65536) (hdp : ∀ c ∈ ps, c.2.length ≤ 65536) (hdq : ∀ c ∈ qs, c.2.length ≤ 65536)
    (hn2 : n ≤ 9223372036854775807) (hpl : plen ≤ 9223372036854775807) (hb : validP plen ps n = false ∨ validP qlen qs plen = false) :
    Calls Try.prog 40 #[.agg #[.int .i64 plen, .slice P ps.length cp], .agg #[.int .i64 qlen, .slice Q qs.length cq], .int .i64 n] w fun e w' => e = .returned (.tuple #[.agg #[.int .i64 0, .slice none 0 0], .int .i64 1]) ∧ Ext w w' := by
  have HP := hide hp
  have HQ := hide hq
  have HDP := hide hdp
  have HDQ := hide hdq
  clear hp hq hdp hdq
  by_cases hv : validP plen ps n = true
  · have h2 : validP qlen qs plen = false := hb.resolve_left (by rw [hv]; simp)
    have HV1 := hide hv
    have HV2 := hide h2
    clear hv h2 hb
    go_enter Try.func40, Try.ntmps40
    go_wp2_with fail
    refine (rvalid3_any _ _ _ _ _ _ (HP.out.ext (((Ext.alloc w _).alloc' _).alloc' _)) hlp HDP.out hn2).mono ?_
    rw [HV1.out]
    rintro e w1 ⟨rfl, hE1⟩
    have hB1 : Blk w1 w.heap.size 35 #[.int .i64 plen, .slice P ps.length cp] := (((Blk.new w 35 #[.int .i64 plen, .slice P ps.length cp]).alloc _).alloc _).ext hE1
    have hB2 : Blk w1 (w.heap.size + 1) 35 #[.int .i64 qlen, .slice Q qs.length cq] := by
      have := ((Blk.new (w.alloc (.cells #[.int .i64 plen, .slice P ps.length cp] 35)) 35 #[.int .i64 qlen, .slice Q qs.length cq]).alloc (.cells #[.int .i64 0, .slice none 0 0] 35)).ext hE1
      simpa using this
    have hB3 : Blk w1 (w.heap.size + 2) 35 #[.int .i64 0, .slice none 0 0] := by
      have := (Blk.new ((w.alloc (.cells #[.int .i64 plen, .slice P ps.length cp] 35)).alloc (.cells #[.int .i64 qlen, .slice Q qs.length cq] 35)) 35 #[.int .i64 0, .slice none 0 0]).ext hE1
      simpa using this
    have HE1 := hide ((((Ext.alloc w _).alloc' _).alloc' _).trans hE1)
    have hc1 := hB1.cell
    have hc2 := hB2.cell
    have hz1 := hB3.lt
    have HB3 := hide hB3
    clear hE1 hB1 hB2 hB3
    go_wp2_with fail
    refine (rvalid3_any _ _ _ _ _ _ (HQ.out.ext HE1.out) hlq HDQ.out (by omega)).mono ?_
    rw [HV2.out]
    rintro e w2 ⟨rfl, hE2⟩
    have hB3 := HB3.out.ext hE2
    have HE2 := hide (HE1.out.trans hE2)
    have hcr := hB3.cell
    have hfr := hB3.frozen
    have hz2 := hB3.lt
    have HB4 := hide hB3
    clear hE2 hc1 hc2 hB3
    go_wp2_with fail
    have hset := (HB4.out.set 0 (.int .i64 0)).set 1 (.slice none 0 0)
    have hcc := hset.cell
    exact bodyPost_ret (v := .tuple #[.agg #[.int .i64 0, .slice none 0 0], .int .i64 1]) (by simp [results, Try.results40, go_sem, hcc]) rfl ⟨rfl, (HE2.out.set (by simp <;> omega) _).set (by simp <;> omega) _⟩
  · have h2 : validP plen ps n = false := by simpa using hv
    have HV1 := hide h2
    clear hv h2 hb
    go_enter Try.func40, Try.ntmps40
    go_wp2_with fail
    refine (rvalid3_any _ _ _ _ _ _ (HP.out.ext (((Ext.alloc w _).alloc' _).alloc' _)) hlp HDP.out hn2).mono ?_
    rw [HV1.out]
    rintro e w1 ⟨rfl, hE1⟩
    have hB3 : Blk w1 (w.heap.size + 2) 35 #[.int .i64 0, .slice none 0 0] := by
      have := (Blk.new ((w.alloc (.cells #[.int .i64 plen, .slice P ps.length cp] 35)).alloc (.cells #[.int .i64 qlen, .slice Q qs.length cq] 35)) 35 #[.int .i64 0, .slice none 0 0]).ext hE1
      simpa using this
    have HE1 := hide ((((Ext.alloc w _).alloc' _).alloc' _).trans hE1)
    have hcr := hB3.cell
    have hfr := hB3.frozen
    have hz1 := hB3.lt
    have HB4 := hide hB3
    clear hE1 hB3
    go_wp2_with fail
    have hset := (HB4.out.set 0 (.int .i64 0)).set 1 (.slice none 0 0)
    have hcc := hset.cell
    exact bodyPost_ret (v := .tuple #[.agg #[.int .i64 0, .slice none 0 0], .int .i64 1]) (by simp [results, Try.results40, go_sem, hcc]) rfl ⟨rfl, (HE1.out.set (by simp <;> omega) _).set (by simp <;> omega) _⟩
end Go.Proofs.Ytfcmngiekdhfpaa
