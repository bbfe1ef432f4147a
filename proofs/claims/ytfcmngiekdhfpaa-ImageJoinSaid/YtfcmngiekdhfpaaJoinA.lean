/-
  Join of the program.
-/
import Derived.Test.YtfcmngiekdhfpaaRefB
namespace Go.Proofs.Ytfcmngiekdhfpaa
open Go.RowKit
set_option linter.unusedVariables false

set_option maxRecDepth 100000 in
set_option maxHeartbeats 4000000 in
theorem join_good (plen qlen : Nat) (n : Int) (P Q : Option Addr) (cp cq : Nat) (ps qs : List Chg) (w : World) (hp : Chs w P cp ps) (hq : Chs w Q cq qs) (hlp : ps.length ≤ 65536) (hlq : qs.length ≤ 65536) (hdp : ∀ c ∈ ps, c.2.length ≤ 65536) (hdq : ∀ c ∈ qs, c.2.length ≤ 65536)
    (hn2 : n ≤ 9223372036854775807) (h1 : validP plen ps n = true) (h2 : validP qlen qs plen = true) :
    Calls Try.prog 38 #[.agg #[.int .i64 plen, .slice P ps.length cp], .agg #[.int .i64 qlen, .slice Q qs.length cq], .int .i64 n] w fun e w' => ∃ C c, e = .returned (.tuple #[.agg #[.int .i64 qlen, .slice C (joinTo ps qs (cntN qlen)).length c], .int .i64 0]) ∧ OwnCh w' w.heap.size 43 (.slice C (joinTo ps qs (cntN qlen)).length c) (joinTo ps qs (cntN qlen)) ∧ Ext w w' := by
  have hq24 := (validP_parts h2).2.2.1
  have hp24 := (validP_parts h1).2.2.1
  have HV1 := hide h1
  have HV2 := hide h2
  have HP := hide hp
  have HQ := hide hq
  have HDP := hide hdp
  have HDQ := hide hdq
  have HCN := hide (cntN_cast qlen)
  have hcl := cntN_le qlen
  have HJL := hide (joinTo_length ps qs)
  clear hp hq hdp hdq h1 h2
  go_enter Try.func38, Try.ntmps38
  go_wp2_with fail
  refine (valid_any _ _ _ _ _ _ (HP.out.ext (((Ext.alloc w _).alloc' _).alloc' _)) hlp HDP.out hn2).mono ?_
  rw [HV1.out]
  rintro e w1 ⟨rfl, hE1⟩
  have hB1 : Blk w1 w.heap.size 29 #[.int .i64 plen, .slice P ps.length cp] := (((Blk.new w 29 #[.int .i64 plen, .slice P ps.length cp]).alloc _).alloc _).ext hE1
  have hB2 : Blk w1 (w.heap.size + 1) 29 #[.int .i64 qlen, .slice Q qs.length cq] := by
    have := ((Blk.new (w.alloc (.cells #[.int .i64 plen, .slice P ps.length cp] 29)) 29 #[.int .i64 qlen, .slice Q qs.length cq]).alloc (.cells #[.int .i64 0, .slice none 0 0] 29)).ext hE1
    simpa using this
  have hB3 : Blk w1 (w.heap.size + 2) 29 #[.int .i64 0, .slice none 0 0] := by
    have := (Blk.new ((w.alloc (.cells #[.int .i64 plen, .slice P ps.length cp] 29)).alloc (.cells #[.int .i64 qlen, .slice Q qs.length cq] 29)) 29 #[.int .i64 0, .slice none 0 0]).ext hE1
    simpa using this
  have HE1 := hide ((((Ext.alloc w _).alloc' _).alloc' _).trans hE1)
  have hc1 := hB1.cell
  have hc2 := hB2.cell
  have hz1 := hB3.lt
  have HB1 := hide hB1
  have HB2 := hide hB2
  have HB3 := hide hB3
  clear hE1 hB1 hB2 hB3
  go_wp2_with fail
  refine (valid_any _ _ _ _ _ _ (HQ.out.ext HE1.out) hlq HDQ.out (by omega)).mono ?_
  rw [HV2.out]
  rintro e w2 ⟨rfl, hE2⟩
  have hB1 := HB1.out.ext hE2
  have hB2 := HB2.out.ext hE2
  have hB3 := HB3.out.ext hE2
  have HE2 := hide (HE1.out.trans hE2)
  have hc3 := hB1.cell
  have hc4 := hB2.cell
  have hz2 := hB3.lt
  clear hE2 hc1 hc2 HB1 HB2 HB3 HE1
  have HB1 := hide hB1
  have HB2 := hide hB2
  have HB3 := hide hB3
  clear hB1 hB2 hB3
  have hcA := (HB2.out.alloc (.cells #[.int .i64 qlen, .slice none 0 0] 29)).cell
  clear hc3 hc4
  have hc4 := HB2.out.cell
  go_wp2_with (go_at_call 15; refine (count_any _ _ (by omega)).mono ?_; rintro e w' ⟨rfl, rfl⟩)
  clear hcA
  have hc3 := 0
  go_loopw [30] (fun k wr => ∃ (j : Nat) (C : Option Addr) (c' : Nat), j ≤ cntN qlen ∧ k = .int .i64 j ∧ PBox wr w2.heap.size 29 43 qlen C c' (joinTo ps qs j) ∧
      Blk wr w.heap.size 29 #[.int .i64 plen, .slice P ps.length cp] ∧ Blk wr (w.heap.size + 1) 29 #[.int .i64 qlen, .slice Q qs.length cq] ∧ Blk wr (w.heap.size + 2) 29 #[.int .i64 0, .slice none 0 0] ∧ Ext w wr) (fun k _ => cntN qlen - (intOf k).toNat)
  case atStart =>
    refine ⟨0, none, 0, Nat.zero_le _, rfl, ⟨?_, OwnCh.nil_ _ _ _⟩, HB1.out.alloc _, HB2.out.alloc _, HB3.out.alloc _, HE2.out.alloc' _⟩
    exact Blk.new w2 29 #[.int .i64 qlen, .slice none 0 0]
  case round =>
    obtain ⟨j, C, c', hj, rfl, hbox, hp1, hp2, hp3, hext⟩ := hrel
    have hcb := hp2.cell
    have hca := hp1.cell
    have hzr := hbox.blk.lt
    have HBX := hide hbox
    have HP1 := hide hp1
    have HP2 := hide hp2
    have HP3 := hide hp3
    have HX := hide hext
    clear hbox hp1 hp2 hp3 hc3 hc4
    by_cases hjl : j < cntN qlen
    · have hjc : (j : Int) < cnt qlen := by rw [HCN.out]; omega
      have HPR := hide (HP.out.ext hext)
      have HQR := hide (HQ.out.ext hext)
      have hjlen := HJL.out j
      clear hext
      obtain ⟨tq, htq⟩ : ∃ tq, fb qs j = tq := ⟨_, rfl⟩
      have HTQ := hide htq
      clear htq
      have hsq := fd_small (k := (j : Int)) HDQ.out
      have hsp := fd_small (k := (j : Int)) HDP.out
      cases tq
      rotate_left
      · have HD := hide (show joinTo ps qs (j + 1) = joinTo ps qs j ++ [((j : Int), fd qs j)] by simp only [joinTo]; rw [HTQ.out, if_pos rfl])
        go_wp2_with fail
        refine (find_old _ _ _ _ _ _ _ HQ.out HX.out hlq).mono ?_
        rw [HTQ.out]
        rintro e w3 ⟨Ai, ci, rfl, hS, hE⟩
        have hAi0 := hS.lt
        have HC3 := hide (hS.ext (HX.out.trans hE))
        clear hS
        have HBXa := hide (HBX.out.ext hE)
        have HP1a := hide (HP1.out.ext hE)
        have HP2a := hide (HP2.out.ext hE)
        have HP3a := hide (HP3.out.ext hE)
        have HXa := hide (HX.out.trans hE)
        have hcba := HP2a.out.cell
        have hcaa := HP1a.out.cell
        have hzra := HBXa.out.blk.lt
        have HPRa := hide (HPR.out.ext hE)
        clear hE HBX HP1 HP2 HP3 HX hcb hca HPR
        go_wp2_with fail
        have hrow := HBXa.out.hrow
        have hr1 : some w2.heap.size ≠ Value.ownBlock (.slice C (joinTo ps qs j).length c') := fun e => by have := hrow _ e.symm; omega
        have hr2 : some w.heap.size ≠ Value.ownBlock (.slice C (joinTo ps qs j).length c') := fun e => by have := hrow _ e.symm; omega
        have hr3 : some (w.heap.size + 1) ≠ Value.ownBlock (.slice C (joinTo ps qs j).length c') := fun e => by have := hrow _ e.symm; omega
        have hr4 : some (w.heap.size + 2) ≠ Value.ownBlock (.slice C (joinTo ps qs j).length c') := fun e => by have := hrow _ e.symm; omega
        have hAi : fd qs j = [] ∨ ∀ a, Ai = some a → some a.block ≠ Value.ownBlock (.slice C (joinTo ps qs j).length c') := hAi0.imp id (fun h a ha e => by have := hrow _ e.symm; have := h a ha; omega)
        generalize hgr : Value.ownBlock (.slice C (joinTo ps qs j).length c') = row at *
        have HGR := hide hgr
        clear hgr
        refine wp_region_app 9 2 [(4, ShSl (fd qs j).length, SlX (w2.heap.size + 1) row (fd qs j)),
            (6, fun v => ∃ g, v = .slice (some ⟨g, 0, none⟩) 1 1, OneCh (w2.heap.size + 1) row 43 ((j : Int), fd qs j)),
            (7, ShSl ((joinTo ps qs j).length + 1), fun v w' => OwnCh w' (w2.heap.size + 1) 43 v (joinTo ps qs j ++ [((j : Int), fd qs j)]))] 7 row
            mixed (by kernel_rfl) ⟨fun _ _ _ h hx => h.grown (hx.grownBy _), fun _ _ _ h hx => h.grown (hx.grownBy _), fun _ _ _ h hx => h.ext hx, trivial⟩
            ⟨.inr fun _ _ _ h hx => h.grown hx, .inr fun _ _ _ h hx => h.grown hx, .inl rfl, trivial⟩ ?_
        repeat ((refine seq_exact ?_ (by rfl) (by rfl) (fun w1 hU => ?_) ?_); (rotate_left 1); (focus (have hbk := (HBXa.out.blk.grown (grown_un hU) hr1).cell; go_simp <;> with_reducible rfl)); (simp only [Act.put, List.setIfInBounds_toArray, List.set_cons_zero, List.set_cons_succ]))
        refine seq_opaque _ _ (by rfl) rfl ⟨_, none, 0, rfl⟩ (by simp) (fun w3 hU _ K hK => ?_) ?_
        · have hU := grown_un hU
          have hz := hU.size
          have hs := HC3.out.grown hU hAi
          clear hU
          go_simp
          refine (clone_any _ _ _ _ hs (by omega)).mono ?_
          rintro e w4 ⟨A', cap', rfl, q1, q2⟩
          exact hK _ _ q2 ⟨A', cap', rfl⟩ (q1.slX (by omega) (fun k e => by have := hrow k e; omega))
        rintro _ ⟨A3, c3, rfl⟩
        simp only [Act.put, List.setIfInBounds_toArray, List.set_cons_zero, List.set_cons_succ]
        repeat ((refine seq_exact ?_ (by rfl) (by rfl) (fun w1 hU => ?_) ?_); (rotate_left 1); (focus (go_simp <;> with_reducible rfl)); (simp only [Act.put, List.setIfInBounds_toArray, List.set_cons_zero, List.set_cons_succ]))
        refine seq_opaque _ _ (by rfl) rfl ⟨_, 0, rfl⟩ (by simp) (fun w3 hU hp K hK => ?_) ?_
        · have hs := hp _ (.head _) (by kernel_rfl)
          have hz := (grown_un hU).size
          clear hp
          go_simp
          exact hK _ _ (Ext.alloc w3 _) ⟨_, rfl⟩ (OneCh.mk_ hs fun k e => by have := hrow k e; omega)
        rintro _ ⟨g, rfl⟩
        simp only [Act.put, List.setIfInBounds_toArray, List.set_cons_zero, List.set_cons_succ]
        refine seq_late _ _ (by rfl) rfl ⟨_, none, 0, rfl⟩ rfl (fun w3 hU hp K hK => ?_) ?_
        · have hs := hp _ (.head _) (by kernel_rfl)
          have ho := HBXa.out.own.ext hU.un
          have hz := Ext.size hU.un
          have hgr := HGR.out
          refine wp_appendCh ct _ _ rfl (w2.heap.size + 1) _ _ _ rfl ho _ rfl (hgr ▸ hs) (by omega) (by omega) fun A' cap' w' h1 h2 => ?_
          exact hK _ _ (hgr ▸ h2) ⟨A', cap', rfl⟩ h1
        rintro _ ⟨C', cap', rfl⟩
        simp only [Act.put, List.setIfInBounds_toArray, List.set_cons_zero, List.set_cons_succ]
        repeat ((refine seq_exact ?_ (by rfl) (by rfl) (fun w1 hU => ?_) ?_); (rotate_left 1); (focus (go_simp <;> with_reducible rfl)); (simp only [Act.put, List.setIfInBounds_toArray, List.set_cons_zero, List.set_cons_succ]))
        intro w8 hw8 hp
        have ho8 := hp _ (.head _)
        clear hp
        simp only [List.drop_succ_cons, List.drop_zero]
        have hw8 := grown_un hw8
        have hb8 := HBXa.out.blk.grown hw8 hr1
        have HR8 := hide (HP3a.out.grown hw8 hr4)
        have HA8 := hide (HP1a.out.grown hw8 hr2)
        have HC8 := hide (HP2a.out.grown hw8 hr3)
        have HX8 := hide (HXa.out.grown hw8 (fun k e => by have := hrow k e; omega))
        have hc8 := hb8.cell
        have hf8 := hb8.frozen
        have HB8 := hide hb8
        have HO8 := hide ho8
        clear hb8 ho8 hw8 HBXa HP1a HP2a HP3a hrow hr1 hr2 hr3 hr4
        go_wp2
        go_roundw
        case rel =>
          refine ⟨j + 1, C', cap', by omega, by go_num, ⟨?_, ?_⟩, HA8.out.far (by simp <;> omega) _, HC8.out.far (by simp <;> omega) _, HR8.out.far (by simp <;> omega) _, HX8.out.set (by simp <;> omega) _⟩
          · rw [HD.out, List.length_append]
            have := HB8.out.set 1 (.slice C' ((joinTo ps qs j).length + 1) cap')
            simpa using this
          · rw [HD.out, List.length_append]
            have := OwnCh.set HO8.out (p := ⟨w2.heap.size, 1, none⟩) (by simp) (.slice C' ((joinTo ps qs j).length + 1) cap')
            simpa using this
        case measure => simp [intOf]; omega
      · obtain ⟨tp, htp⟩ : ∃ tp, fb ps j = tp := ⟨_, rfl⟩
        have HTP := hide htp
        clear htp
        go_wp2_with fail
        refine (find_old _ _ _ _ _ _ _ HQ.out HX.out hlq).mono ?_
        rw [HTQ.out]
        rintro e w3 ⟨Aj, cj, rfl, hS, hE⟩
        clear hS
        have HBXa := hide (HBX.out.ext hE)
        have HP1a := hide (HP1.out.ext hE)
        have HP2a := hide (HP2.out.ext hE)
        have HP3a := hide (HP3.out.ext hE)
        have HXa := hide (HX.out.trans hE)
        have hcba := HP2a.out.cell
        have hcaa := HP1a.out.cell
        have hzra := HBXa.out.blk.lt
        have HPRa := hide (HPR.out.ext hE)
        clear hE HBX HP1 HP2 HP3 HX hcb hca HPR
        go_wp2_with fail
        refine (find_old _ _ _ _ _ _ _ HP.out HXa.out hlp).mono ?_
        rw [HTP.out]
        rintro e w4 ⟨Ai, ci, rfl, hS, hE⟩
        have hAi0 := hS.lt
        have HC3 := hide (hS.ext (HXa.out.trans hE))
        clear hS
        have HBXb := hide (HBXa.out.ext hE)
        have HP1b := hide (HP1a.out.ext hE)
        have HP2b := hide (HP2a.out.ext hE)
        have HP3b := hide (HP3a.out.ext hE)
        have HXb := hide (HXa.out.trans hE)
        have hcbb := HP2b.out.cell
        have hcab := HP1b.out.cell
        have hzrb := HBXb.out.blk.lt
        have HPRb := hide (HPRa.out.ext hE)
        clear hE HBXa HP1a HP2a HP3a HXa hcba hcaa HPRa
        cases tp
        · have HD := hide (show joinTo ps qs (j + 1) = joinTo ps qs j by simp only [joinTo]; rw [HTQ.out, HTP.out]; simp)
          go_wp2_with fail
          go_roundw
          case rel =>
            refine ⟨j + 1, C, c', by omega, by go_num, ?_, HP1b.out, HP2b.out, HP3b.out, HXb.out⟩
            rw [HD.out]
            exact HBXb.out
          case measure => simp [intOf]; omega
        · have HD := hide (show joinTo ps qs (j + 1) = joinTo ps qs j ++ [((j : Int), fd ps j)] by simp only [joinTo]; rw [HTQ.out, HTP.out]; simp)
          go_wp2_with fail
          have hrow := HBXb.out.hrow
          have hr1 : some w2.heap.size ≠ Value.ownBlock (.slice C (joinTo ps qs j).length c') := fun e => by have := hrow _ e.symm; omega
          have hr2 : some w.heap.size ≠ Value.ownBlock (.slice C (joinTo ps qs j).length c') := fun e => by have := hrow _ e.symm; omega
          have hr3 : some (w.heap.size + 1) ≠ Value.ownBlock (.slice C (joinTo ps qs j).length c') := fun e => by have := hrow _ e.symm; omega
          have hr4 : some (w.heap.size + 2) ≠ Value.ownBlock (.slice C (joinTo ps qs j).length c') := fun e => by have := hrow _ e.symm; omega
          have hAi : fd ps j = [] ∨ ∀ a, Ai = some a → some a.block ≠ Value.ownBlock (.slice C (joinTo ps qs j).length c') := hAi0.imp id (fun h a ha e => by have := hrow _ e.symm; have := h a ha; omega)
          generalize hgr : Value.ownBlock (.slice C (joinTo ps qs j).length c') = row at *
          have HGR := hide hgr
          clear hgr
          refine wp_region_app 9 2 [(4, ShSl (fd ps j).length, SlX (w2.heap.size + 1) row (fd ps j)),
              (6, fun v => ∃ g, v = .slice (some ⟨g, 0, none⟩) 1 1, OneCh (w2.heap.size + 1) row 43 ((j : Int), fd ps j)),
              (7, ShSl ((joinTo ps qs j).length + 1), fun v w' => OwnCh w' (w2.heap.size + 1) 43 v (joinTo ps qs j ++ [((j : Int), fd ps j)]))] 7 row
              mixed (by kernel_rfl) ⟨fun _ _ _ h hx => h.grown (hx.grownBy _), fun _ _ _ h hx => h.grown (hx.grownBy _), fun _ _ _ h hx => h.ext hx, trivial⟩
              ⟨.inr fun _ _ _ h hx => h.grown hx, .inr fun _ _ _ h hx => h.grown hx, .inl rfl, trivial⟩ ?_
          repeat ((refine seq_exact ?_ (by rfl) (by rfl) (fun w1 hU => ?_) ?_); (rotate_left 1); (focus (have hbk := (HBXb.out.blk.grown (grown_un hU) hr1).cell; go_simp <;> with_reducible rfl)); (simp only [Act.put, List.setIfInBounds_toArray, List.set_cons_zero, List.set_cons_succ]))
          refine seq_opaque _ _ (by rfl) rfl ⟨_, none, 0, rfl⟩ (by simp) (fun w3 hU _ K hK => ?_) ?_
          · have hU := grown_un hU
            have hz := hU.size
            have hs := HC3.out.grown hU hAi
            clear hU
            go_simp
            refine (clone_any _ _ _ _ hs (by omega)).mono ?_
            rintro e w4 ⟨A', cap', rfl, q1, q2⟩
            exact hK _ _ q2 ⟨A', cap', rfl⟩ (q1.slX (by omega) (fun k e => by have := hrow k e; omega))
          rintro _ ⟨A3, c3, rfl⟩
          simp only [Act.put, List.setIfInBounds_toArray, List.set_cons_zero, List.set_cons_succ]
          repeat ((refine seq_exact ?_ (by rfl) (by rfl) (fun w1 hU => ?_) ?_); (rotate_left 1); (focus (go_simp <;> with_reducible rfl)); (simp only [Act.put, List.setIfInBounds_toArray, List.set_cons_zero, List.set_cons_succ]))
          refine seq_opaque _ _ (by rfl) rfl ⟨_, 0, rfl⟩ (by simp) (fun w3 hU hp K hK => ?_) ?_
          · have hs := hp _ (.head _) (by kernel_rfl)
            have hz := (grown_un hU).size
            clear hp
            go_simp
            exact hK _ _ (Ext.alloc w3 _) ⟨_, rfl⟩ (OneCh.mk_ hs fun k e => by have := hrow k e; omega)
          rintro _ ⟨g, rfl⟩
          simp only [Act.put, List.setIfInBounds_toArray, List.set_cons_zero, List.set_cons_succ]
          refine seq_late _ _ (by rfl) rfl ⟨_, none, 0, rfl⟩ rfl (fun w3 hU hp K hK => ?_) ?_
          · have hs := hp _ (.head _) (by kernel_rfl)
            have ho := HBXb.out.own.ext hU.un
            have hz := Ext.size hU.un
            have hgr := HGR.out
            refine wp_appendCh ct _ _ rfl (w2.heap.size + 1) _ _ _ rfl ho _ rfl (hgr ▸ hs) (by omega) (by omega) fun A' cap' w' h1 h2 => ?_
            exact hK _ _ (hgr ▸ h2) ⟨A', cap', rfl⟩ h1
          rintro _ ⟨C', cap', rfl⟩
          simp only [Act.put, List.setIfInBounds_toArray, List.set_cons_zero, List.set_cons_succ]
          repeat ((refine seq_exact ?_ (by rfl) (by rfl) (fun w1 hU => ?_) ?_); (rotate_left 1); (focus (go_simp <;> with_reducible rfl)); (simp only [Act.put, List.setIfInBounds_toArray, List.set_cons_zero, List.set_cons_succ]))
          intro w8 hw8 hp
          have ho8 := hp _ (.head _)
          clear hp
          simp only [List.drop_succ_cons, List.drop_zero]
          have hw8 := grown_un hw8
          have hb8 := HBXb.out.blk.grown hw8 hr1
          have HR8 := hide (HP3b.out.grown hw8 hr4)
          have HA8 := hide (HP1b.out.grown hw8 hr2)
          have HC8 := hide (HP2b.out.grown hw8 hr3)
          have HX8 := hide (HXb.out.grown hw8 (fun k e => by have := hrow k e; omega))
          have hc8 := hb8.cell
          have hf8 := hb8.frozen
          have HB8 := hide hb8
          have HO8 := hide ho8
          clear hb8 ho8 hw8 HBXb HP1b HP2b HP3b hrow hr1 hr2 hr3 hr4
          go_wp2
          go_roundw
          case rel =>
            refine ⟨j + 1, C', cap', by omega, by go_num, ⟨?_, ?_⟩, HA8.out.far (by simp <;> omega) _, HC8.out.far (by simp <;> omega) _, HR8.out.far (by simp <;> omega) _, HX8.out.set (by simp <;> omega) _⟩
            · rw [HD.out, List.length_append]
              have := HB8.out.set 1 (.slice C' ((joinTo ps qs j).length + 1) cap')
              simpa using this
            · rw [HD.out, List.length_append]
              have := OwnCh.set HO8.out (p := ⟨w2.heap.size, 1, none⟩) (by simp) (.slice C' ((joinTo ps qs j).length + 1) cap')
              simpa using this
          case measure => simp [intOf]; omega
    · have hjj : j = cntN qlen := by omega
      have hjc : ¬ (j : Int) < cnt qlen := by rw [HCN.out]; omega
      subst hjj
      have hcx := HBX.out.blk.cell
      have hcr := HP3.out.cell
      have hfr := HP3.out.frozen
      clear hext
      go_wp2_with fail
      have hset := (HP3.out.set 0 (.int .i64 qlen)).set 1 (.slice C (joinTo ps qs (cntN qlen)).length c')
      have hcc := hset.cell
      refine bodyPost_ret (v := .tuple #[.agg #[.int .i64 qlen, .slice C (joinTo ps qs (cntN qlen)).length c'], .int .i64 0]) (by simp [results, Try.results38, go_sem, hcc]) rfl ?_
      refine ⟨C, c', rfl, ?_, (HX.out.set (by simp <;> omega) _).set (by simp <;> omega) _⟩
      exact ((HBX.out.own.set (p := ⟨w.heap.size + 2, 0, none⟩) (by simp <;> omega) _).set (p := ⟨w.heap.size + 2, 1, none⟩) (by simp <;> omega) _).base_le (by omega)
set_option maxRecDepth 100000 in
theorem join_bad (plen qlen n : Int) (P Q : Option Addr) (cp cq : Nat) (ps qs : List Chg) (w : World) (hp : Chs w P cp ps) (hq : Chs w Q cq qs) (hlp : ps.length ≤ 65536) (hlq : qs.length ≤ 65536) (hdp : ∀ c ∈ ps, c.2.length ≤ 65536) (hdq : ∀ c ∈ qs, c.2.length ≤ 65536)
    (hn2 : n ≤ 9223372036854775807) (hpl : plen ≤ 9223372036854775807) (hb : validP plen ps n = false ∨ validP qlen qs plen = false) :
    Calls Try.prog 38 #[.agg #[.int .i64 plen, .slice P ps.length cp], .agg #[.int .i64 qlen, .slice Q qs.length cq], .int .i64 n] w fun e w' => e = .returned (.tuple #[.agg #[.int .i64 0, .slice none 0 0], .int .i64 1]) ∧ Ext w w' := by
  have HP := hide hp
  have HQ := hide hq
  have HDP := hide hdp
  have HDQ := hide hdq
  clear hp hq hdp hdq
  by_cases hv : validP plen ps n = true
  · have h2 : validP qlen qs plen = false := hb.resolve_left (by rw [hv]; simp)
    have HV1 := hide hv
    have HV2 := hide h2
    clear hv h2 hb
    go_enter Try.func38, Try.ntmps38
    go_wp2_with fail
    refine (valid_any _ _ _ _ _ _ (HP.out.ext (((Ext.alloc w _).alloc' _).alloc' _)) hlp HDP.out hn2).mono ?_
    rw [HV1.out]
    rintro e w1 ⟨rfl, hE1⟩
    have hB1 : Blk w1 w.heap.size 29 #[.int .i64 plen, .slice P ps.length cp] := (((Blk.new w 29 #[.int .i64 plen, .slice P ps.length cp]).alloc _).alloc _).ext hE1
    have hB2 : Blk w1 (w.heap.size + 1) 29 #[.int .i64 qlen, .slice Q qs.length cq] := by
      have := ((Blk.new (w.alloc (.cells #[.int .i64 plen, .slice P ps.length cp] 29)) 29 #[.int .i64 qlen, .slice Q qs.length cq]).alloc (.cells #[.int .i64 0, .slice none 0 0] 29)).ext hE1
      simpa using this
    have hB3 : Blk w1 (w.heap.size + 2) 29 #[.int .i64 0, .slice none 0 0] := by
      have := (Blk.new ((w.alloc (.cells #[.int .i64 plen, .slice P ps.length cp] 29)).alloc (.cells #[.int .i64 qlen, .slice Q qs.length cq] 29)) 29 #[.int .i64 0, .slice none 0 0]).ext hE1
      simpa using this
    have HE1 := hide ((((Ext.alloc w _).alloc' _).alloc' _).trans hE1)
    have hc1 := hB1.cell
    have hc2 := hB2.cell
    have hz1 := hB3.lt
    have HB3 := hide hB3
    clear hE1 hB1 hB2 hB3
    go_wp2_with fail
    refine (valid_any _ _ _ _ _ _ (HQ.out.ext HE1.out) hlq HDQ.out (by omega)).mono ?_
    rw [HV2.out]
    rintro e w2 ⟨rfl, hE2⟩
    have hB3 := HB3.out.ext hE2
    have HE2 := hide (HE1.out.trans hE2)
    have hcr := hB3.cell
    have hfr := hB3.frozen
    have hz2 := hB3.lt
    have HB4 := hide hB3
    clear hE2 hc1 hc2 hB3
    go_wp2_with fail
    have hset := (HB4.out.set 0 (.int .i64 0)).set 1 (.slice none 0 0)
    have hcc := hset.cell
    exact bodyPost_ret (v := .tuple #[.agg #[.int .i64 0, .slice none 0 0], .int .i64 1]) (by simp [results, Try.results38, go_sem, hcc]) rfl ⟨rfl, (HE2.out.set (by simp <;> omega) _).set (by simp <;> omega) _⟩
  · have h2 : validP plen ps n = false := by simpa using hv
    have HV1 := hide h2
    clear hv h2 hb
    go_enter Try.func38, Try.ntmps38
    go_wp2_with fail
    refine (valid_any _ _ _ _ _ _ (HP.out.ext (((Ext.alloc w _).alloc' _).alloc' _)) hlp HDP.out hn2).mono ?_
    rw [HV1.out]
    rintro e w1 ⟨rfl, hE1⟩
    have hB3 : Blk w1 (w.heap.size + 2) 29 #[.int .i64 0, .slice none 0 0] := by
      have := (Blk.new ((w.alloc (.cells #[.int .i64 plen, .slice P ps.length cp] 29)).alloc (.cells #[.int .i64 qlen, .slice Q qs.length cq] 29)) 29 #[.int .i64 0, .slice none 0 0]).ext hE1
      simpa using this
    have HE1 := hide ((((Ext.alloc w _).alloc' _).alloc' _).trans hE1)
    have hcr := hB3.cell
    have hfr := hB3.frozen
    have hz1 := hB3.lt
    have HB4 := hide hB3
    clear hE1 hB3
    go_wp2_with fail
    have hset := (HB4.out.set 0 (.int .i64 0)).set 1 (.slice none 0 0)
    have hcc := hset.cell
    exact bodyPost_ret (v := .tuple #[.agg #[.int .i64 0, .slice none 0 0], .int .i64 1]) (by simp [results, Try.results38, go_sem, hcc]) rfl ⟨rfl, (HE1.out.set (by simp <;> omega) _).set (by simp <;> omega) _⟩
end Go.Proofs.Ytfcmngiekdhfpaa
