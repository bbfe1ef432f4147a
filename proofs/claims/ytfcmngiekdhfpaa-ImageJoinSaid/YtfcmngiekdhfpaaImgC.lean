/-
  From and To: patches of the program as patches of the reference, and back.
-/
import Derived.Test.YtfcmngiekdhfpaaImgB
namespace Go.Proofs.Ytfcmngiekdhfpaa
open Go.RowKit
set_option linter.unusedVariables false

theorem Chs.lt {w : World} {A : Option Addr} {cap : Nat} {cs : List Chg} (h : Chs w A cap cs) : cs = [] ∨ ∀ a, A = some a → a.block < w.heap.size := by
  refine h.rd.imp id fun ⟨b, off, ha, hb, _⟩ a h => ?_
  rw [ha] at h
  injection h with h
  subst h
  exact hb
/-- A change among those of a slice. -/
theorem Chs.at_ {w : World} {A : Option Addr} {cap : Nat} {cs : List Chg} (h : Chs w A cap cs) (i : Nat) (hi : i < cs.length) :
    ∃ b off Ai ci, A = some ⟨b, off, none⟩ ∧ b < w.heap.size ∧ w.cell? ⟨b, off + i * 2, none⟩ = some (.int .i64 cs[i].1) ∧ w.cell? ⟨b, off + i * 2 + 1, none⟩ = some (.slice Ai cs[i].2.length ci) ∧ Sl w Ai ci cs[i].2 := by
  rcases h.rd with rfl | ⟨b, off, ha, hb, hc⟩
  · simp at hi
  · obtain ⟨Ai, ci, h1, h2, h3⟩ := hc i hi
    exact ⟨b, off, Ai, ci, ha, hb, h1, h2, h3⟩
theorem PBox.hrow {w : World} {g : Nat} {tp e : TypeId} {len : Int} {C : Option Addr} {cap : Nat} {cs : List Chg} (h : PBox w g tp e len C cap cs) : ∀ k, Value.ownBlock (.slice C cs.length cap) = some k → g + 1 ≤ k ∧ k < w.heap.size := fun k hk => by
  obtain ⟨xs, h1, _⟩ := h.own
  exact h1.lt k hk
theorem ret_agg {a b : Array Value} (h : a = b) : Ending.returned (.agg a) = .returned (.agg b) := by rw [h]

set_option maxRecDepth 100000 in
set_option maxHeartbeats 1000000 in
theorem from_any (len : Int) (A : Option Addr) (cap : Nat) (cs : List Chg) (w : World) (hc : Chs w A cap cs) (hl : cs.length ≤ 65536) (hd : ∀ c ∈ cs, c.2.length ≤ 65536) :
    Calls Try.prog 22 #[.agg #[.int .i64 len, .slice A cs.length cap]] w fun e w' => ∃ C c', e = .returned (.agg #[.int .i64 len, .slice C cs.length c']) ∧ Chs w' C c' cs ∧ Ext w w' := by
  go_enter Try.func22, Try.ntmps22
  go_wp2
  go_loopw [4] (fun k wr => ∃ (j : Nat) (C : Option Addr) (c' : Nat), j ≤ cs.length ∧ k = .int .i64 j ∧ PBox wr (w.heap.size + 2) 35 88 len C c' (cs.take j) ∧
      Blk wr (w.heap.size + 1) 35 #[.int .i64 0, .slice none 0 0] ∧ Blk wr w.heap.size 29 #[.int .i64 len, .slice A cs.length cap] ∧ Ext w wr) (fun k _ => cs.length - (intOf k).toNat)
  case atStart =>
    refine ⟨0, none, 0, Nat.zero_le _, rfl, ⟨?_, OwnCh.nil_ _ _ _⟩, ?_, ?_, ?_⟩
    · have := Blk.new ((w.alloc (.cells #[.int .i64 len, .slice A cs.length cap] 29)).alloc (.cells #[.int .i64 0, .slice none 0 0] 35)) 35 #[.int .i64 len, .slice none 0 0]
      simpa using this
    · have := (Blk.new (w.alloc (.cells #[.int .i64 len, .slice A cs.length cap] 29)) 35 #[.int .i64 0, .slice none 0 0]).alloc (.cells #[.int .i64 len, .slice none 0 0] 35)
      simpa using this
    · exact ((Blk.new w 29 _).alloc _).alloc _
    · exact ((Ext.alloc w _).alloc' _).alloc' _
  case round =>
    obtain ⟨j, C, c', hj, rfl, hbox, hres, hpar, hext⟩ := hrel
    have hcp := hpar.cell
    by_cases hjl : j < cs.length
    · go_wp2_with fail
      have hlj : (cs.take j).length = j := by simp; omega
      obtain ⟨b, off, Ai, ci, rfl, hbl, hc1, hc2, hc3⟩ := hc.at_ j hjl
      have hrow := hbox.hrow
      have hd1 := hd cs[j] (List.getElem_mem hjl)
      have HLJ := hide hlj
      have HBX := hide hbox
      have HRS := hide hres
      have HPR := hide hpar
      have HC3 := hide (hc3.ext hext)
      have hxc := hext.cell
      have he1 : wr.cell? ⟨b, off + j * 2, none⟩ = some (.int .i64 cs[j].1) := (hxc _ _ hbl).trans hc1
      have he2 : wr.cell? ⟨b, off + j * 2 + 1, none⟩ = some (.slice Ai cs[j].2.length ci) := (hxc _ _ hbl).trans hc2
      have hbr : b < wr.heap.size := Nat.lt_of_lt_of_le hbl hext.size
      have hbne : some b ≠ Value.ownBlock (.slice C (cs.take j).length c') := fun e => by have := hrow _ e.symm; omega
      have hr1 : some (w.heap.size + 2) ≠ Value.ownBlock (.slice C (cs.take j).length c') := fun e => by have := hrow _ e.symm; omega
      have hr0 : some w.heap.size ≠ Value.ownBlock (.slice C (cs.take j).length c') := fun e => by have := hrow _ e.symm; omega
      have hAi : cs[j].2 = [] ∨ ∀ a, Ai = some a → some a.block ≠ Value.ownBlock (.slice C (cs.take j).length c') := hc3.lt.imp id (fun h a ha e => by have := hrow _ e.symm; have := h a ha; omega)
      have hszr : w.heap.size + 3 ≤ wr.heap.size := by have := hbox.blk.lt; omega
      clear hc hlj hbox hres hpar hc1 hc2 hc3 hcp hxc
      generalize hgr : Value.ownBlock (.slice C (cs.take j).length c') = row at *
      have HGR := hide hgr
      clear hgr
      refine wp_region_app 20 3 [(8, ShEm, EmX (w.heap.size + 3) row 5), (15, ShSl cs[j].2.length, SlX (w.heap.size + 3) row cs[j].2),
          (17, fun v => ∃ g, v = .slice (some ⟨g, 0, none⟩) 1 1, OneCh (w.heap.size + 3) row 88 cs[j]),
          (18, ShSl (j + 1), fun v w' => OwnCh w' (w.heap.size + 3) 88 v (cs.take j ++ [cs[j]]))] 18 row
          mixed (by kernel_rfl) ⟨fun _ _ _ h hx => h.grown (hx.grownBy _), fun _ _ _ h hx => h.grown (hx.grownBy _), fun _ _ _ h hx => h.grown (hx.grownBy _), fun _ _ _ h hx => h.ext hx, trivial⟩
          ⟨.inr fun _ _ _ h hx => h.grown hx, .inr fun _ _ _ h hx => h.grown hx, .inr fun _ _ _ h hx => h.grown hx, .inl rfl, trivial⟩ ?_
      repeat ((refine seq_exact ?_ (by rfl) (by rfl) (fun w1 hU => ?_) ?_); (rotate_left 1); (focus (have hU := grown_un hU; have hbk := (HBX.out.blk.grown hU hr1).cell; have hpk := (HPR.out.grown hU hr0).cell; have hk1 := hU.cell he1 hbne; have hk2 := hU.cell he2 hbne; clear hU; go_simp <;> with_reducible rfl)); (simp only [Act.put, List.setIfInBounds_toArray, List.set_cons_zero, List.set_cons_succ]))
      refine seq_opaque _ _ (by rfl) rfl ⟨_, 0, rfl⟩ (by simp) (fun w1 hU _ K hK => ?_) ?_
      · have hz := (grown_un hU).size
        go_simp
        exact hK _ _ (Ext.alloc w1 _) ⟨_, rfl⟩ (EmX.new w1 5 (by omega) fun k e => by have := hrow k e; omega)
      rintro _ ⟨g0, rfl⟩
      simp only [Act.put, List.setIfInBounds_toArray, List.set_cons_zero, List.set_cons_succ]
      repeat ((refine seq_exact ?_ (by rfl) (by rfl) (fun w1 hU => ?_) ?_); (rotate_left 1); (focus (have hU := grown_un hU; have hbk := (HBX.out.blk.grown hU hr1).cell; have hpk := (HPR.out.grown hU hr0).cell; have hk1 := hU.cell he1 hbne; have hk2 := hU.cell he2 hbne; clear hU; go_simp <;> with_reducible rfl)); (simp only [Act.put, List.setIfInBounds_toArray, List.set_cons_zero, List.set_cons_succ]))
      refine seq_opaque _ _ (by rfl) rfl ⟨_, none, 0, rfl⟩ (by simp) (fun w1 hU hp K hK => ?_) ?_
      · have hs := hp _ (.head _) (by kernel_rfl)
        have hU := grown_un hU
        have hz := hU.size
        exact wp_appendE bt _ _ rfl (w.heap.size + 3) _ rfl hs.1 Ai ci cs[j].2 rfl (HC3.out.grown hU hAi) (by omega) (by omega) fun A' cap' w' h1 h2 h3 => hK _ _ h2 ⟨A', cap', rfl⟩ (h1.slX2 hs.2 (fun k e => by have := hrow k e; omega) h3)
      rintro _ ⟨A3, c3, rfl⟩
      simp only [Act.put, List.setIfInBounds_toArray, List.set_cons_zero, List.set_cons_succ]
      repeat ((refine seq_exact ?_ (by rfl) (by rfl) (fun w1 hU => ?_) ?_); (rotate_left 1); (focus (go_simp <;> with_reducible rfl)); (simp only [Act.put, List.setIfInBounds_toArray, List.set_cons_zero, List.set_cons_succ]))
      refine seq_opaque _ _ (by rfl) rfl ⟨_, 0, rfl⟩ (by simp) (fun w1 hU hp K hK => ?_) ?_
      · have hs := hp _ (.head _) (by kernel_rfl)
        have hz := (grown_un hU).size
        clear hp
        go_simp
        exact hK _ _ (Ext.alloc w1 _) ⟨_, rfl⟩ (OneCh.mk_ hs fun k e => by have := hrow k e; omega)
      rintro _ ⟨g, rfl⟩
      simp only [Act.put, List.setIfInBounds_toArray, List.set_cons_zero, List.set_cons_succ]
      refine seq_late _ _ (by rfl) rfl ⟨_, none, 0, rfl⟩ rfl (fun w1 hU hp K hK => ?_) ?_
      · have hs := hp _ (.head _) (by kernel_rfl)
        have ho := HBX.out.own.ext hU.un
        have hz := Ext.size hU.un
        rw [HLJ.out] at ho
        have hgr := HGR.out
        rw [HLJ.out] at hgr
        refine wp_appendCh rct _ _ rfl (w.heap.size + 3) _ _ _ rfl ho _ rfl (hgr ▸ hs) (by rw [HLJ.out]; omega) (by omega) fun A' cap' w' h1 h2 => ?_
        rw [HLJ.out] at h1 ⊢
        exact hK _ _ (hgr ▸ h2) ⟨A', cap', rfl⟩ h1
      rintro _ ⟨C', cap', rfl⟩
      simp only [Act.put, List.setIfInBounds_toArray, List.set_cons_zero, List.set_cons_succ]
      repeat ((refine seq_exact ?_ (by rfl) (by rfl) (fun w1 hU => ?_) ?_); (rotate_left 1); (focus (go_simp <;> with_reducible rfl)); (simp only [Act.put, List.setIfInBounds_toArray, List.set_cons_zero, List.set_cons_succ]))
      intro w8 hw8 hp
      have ho8 := hp _ (.head _)
      clear hp
      simp only [List.drop_succ_cons, List.drop_zero]
      have hw8 := grown_un hw8
      have hb8 := HBX.out.blk.grown hw8 hr1
      have hr8 := HRS.out.grown hw8 (fun e => by have := hrow _ e.symm; omega)
      have hp8 := HPR.out.grown hw8 hr0
      have hx8 : Ext w w8 := hext.grown hw8 (fun k e => by have := hrow k e; omega)
      have hc8 := hb8.cell
      have hf8 := hb8.frozen
      have HB8 := hide hb8
      have HR8 := hide hr8
      have HP8 := hide hp8
      have HX8 := hide hx8
      have HO8 := hide ho8
      clear hb8 hr8 hx8 ho8 hw8 hp8 HBX HRS HPR hrow hr1 he1 he2 hext
      go_wp2
      go_roundw
      case rel =>
        have hd : cs.take (j + 1) = cs.take j ++ [cs[j]] := by rw [List.take_succ_eq_append_getElem hjl]
        have hl' : (cs.take (j + 1)).length = j + 1 := by simp; omega
        refine ⟨j + 1, C', cap', by omega, by go_num, ⟨?_, ?_⟩, HR8.out.far (by simp <;> omega) _, HP8.out.far (by simp <;> omega) _, HX8.out.set (by simp <;> omega) _⟩
        · rw [hl']
          have := HB8.out.set 1 (.slice C' (j + 1) cap')
          simpa using this
        · rw [hl', hd]
          have := OwnCh.set HO8.out (p := ⟨w.heap.size + 2, 1, none⟩) (by simp) (.slice C' (j + 1) cap')
          simpa using this
      case measure => simp [intOf]; omega
    · have hjj : j = cs.length := by omega
      subst hjj
      have hcb := hbox.blk.cell
      have hcr := hres.cell
      have hfr := hres.frozen
      rw [List.take_length] at hbox hcb
      have HBX := hide hbox
      have HRS := hide hres
      clear hbox hres
      go_wp2_with fail
      have hset := (HRS.out.set 0 (.int .i64 len)).set 1 (.slice C cs.length c')
      have hcc := hset.cell
      refine bodyPost_ret (v := .agg #[.int .i64 len, .slice C cs.length c']) (by simp [results, Try.results22, go_sem, hcc]) rfl ?_
      refine ⟨C, c', rfl, ?_, (hext.set (by simp <;> omega) _).set (by simp <;> omega) _⟩
      exact ((HBX.out.own.set (p := ⟨w.heap.size + 1, 0, none⟩) (by simp <;> omega) _).set (p := ⟨w.heap.size + 1, 1, none⟩) (by simp <;> omega) _).chs.2
set_option maxRecDepth 100000 in
set_option maxHeartbeats 1000000 in
theorem to_any (len : Int) (A : Option Addr) (cap : Nat) (cs : List Chg) (w : World) (hc : Chs w A cap cs) (hl : cs.length ≤ 65536) (hd : ∀ c ∈ cs, c.2.length ≤ 65536) :
    Calls Try.prog 39 #[.agg #[.int .i64 len, .slice A cs.length cap]] w fun e w' => ∃ C c', e = .returned (.agg #[.int .i64 len, .slice C cs.length c']) ∧ Chs w' C c' cs ∧ Ext w w' := by
  go_enter Try.func39, Try.ntmps39
  go_wp2
  go_loopw [4] (fun k wr => ∃ (j : Nat) (C : Option Addr) (c' : Nat), j ≤ cs.length ∧ k = .int .i64 j ∧ PBox wr (w.heap.size + 2) 29 43 len C c' (cs.take j) ∧
      Blk wr (w.heap.size + 1) 29 #[.int .i64 0, .slice none 0 0] ∧ Blk wr w.heap.size 35 #[.int .i64 len, .slice A cs.length cap] ∧ Ext w wr) (fun k _ => cs.length - (intOf k).toNat)
  case atStart =>
    refine ⟨0, none, 0, Nat.zero_le _, rfl, ⟨?_, OwnCh.nil_ _ _ _⟩, ?_, ?_, ?_⟩
    · have := Blk.new ((w.alloc (.cells #[.int .i64 len, .slice A cs.length cap] 35)).alloc (.cells #[.int .i64 0, .slice none 0 0] 29)) 29 #[.int .i64 len, .slice none 0 0]
      simpa using this
    · have := (Blk.new (w.alloc (.cells #[.int .i64 len, .slice A cs.length cap] 35)) 29 #[.int .i64 0, .slice none 0 0]).alloc (.cells #[.int .i64 len, .slice none 0 0] 29)
      simpa using this
    · exact ((Blk.new w 35 _).alloc _).alloc _
    · exact ((Ext.alloc w _).alloc' _).alloc' _
  case round =>
    obtain ⟨j, C, c', hj, rfl, hbox, hres, hpar, hext⟩ := hrel
    have hcp := hpar.cell
    by_cases hjl : j < cs.length
    · go_wp2_with fail
      have hlj : (cs.take j).length = j := by simp; omega
      obtain ⟨b, off, Ai, ci, rfl, hbl, hc1, hc2, hc3⟩ := hc.at_ j hjl
      have hrow := hbox.hrow
      have hd1 := hd cs[j] (List.getElem_mem hjl)
      have HLJ := hide hlj
      have HBX := hide hbox
      have HRS := hide hres
      have HPR := hide hpar
      have HC3 := hide (hc3.ext hext)
      have hxc := hext.cell
      have he1 : wr.cell? ⟨b, off + j * 2, none⟩ = some (.int .i64 cs[j].1) := (hxc _ _ hbl).trans hc1
      have he2 : wr.cell? ⟨b, off + j * 2 + 1, none⟩ = some (.slice Ai cs[j].2.length ci) := (hxc _ _ hbl).trans hc2
      have hbr : b < wr.heap.size := Nat.lt_of_lt_of_le hbl hext.size
      have hbne : some b ≠ Value.ownBlock (.slice C (cs.take j).length c') := fun e => by have := hrow _ e.symm; omega
      have hr1 : some (w.heap.size + 2) ≠ Value.ownBlock (.slice C (cs.take j).length c') := fun e => by have := hrow _ e.symm; omega
      have hr0 : some w.heap.size ≠ Value.ownBlock (.slice C (cs.take j).length c') := fun e => by have := hrow _ e.symm; omega
      have hAi : cs[j].2 = [] ∨ ∀ a, Ai = some a → some a.block ≠ Value.ownBlock (.slice C (cs.take j).length c') := hc3.lt.imp id (fun h a ha e => by have := hrow _ e.symm; have := h a ha; omega)
      have hszr : w.heap.size + 3 ≤ wr.heap.size := by have := hbox.blk.lt; omega
      clear hc hlj hbox hres hpar hc1 hc2 hc3 hcp hxc
      generalize hgr : Value.ownBlock (.slice C (cs.take j).length c') = row at *
      have HGR := hide hgr
      clear hgr
      refine wp_region_app 20 3 [(8, ShEm, EmX (w.heap.size + 3) row 5), (15, ShSl cs[j].2.length, SlX (w.heap.size + 3) row cs[j].2),
          (17, fun v => ∃ g, v = .slice (some ⟨g, 0, none⟩) 1 1, OneCh (w.heap.size + 3) row 43 cs[j]),
          (18, ShSl (j + 1), fun v w' => OwnCh w' (w.heap.size + 3) 43 v (cs.take j ++ [cs[j]]))] 18 row
          mixed (by kernel_rfl) ⟨fun _ _ _ h hx => h.grown (hx.grownBy _), fun _ _ _ h hx => h.grown (hx.grownBy _), fun _ _ _ h hx => h.grown (hx.grownBy _), fun _ _ _ h hx => h.ext hx, trivial⟩
          ⟨.inr fun _ _ _ h hx => h.grown hx, .inr fun _ _ _ h hx => h.grown hx, .inr fun _ _ _ h hx => h.grown hx, .inl rfl, trivial⟩ ?_
      repeat ((refine seq_exact ?_ (by rfl) (by rfl) (fun w1 hU => ?_) ?_); (rotate_left 1); (focus (have hU := grown_un hU; have hbk := (HBX.out.blk.grown hU hr1).cell; have hpk := (HPR.out.grown hU hr0).cell; have hk1 := hU.cell he1 hbne; have hk2 := hU.cell he2 hbne; clear hU; go_simp <;> with_reducible rfl)); (simp only [Act.put, List.setIfInBounds_toArray, List.set_cons_zero, List.set_cons_succ]))
      refine seq_opaque _ _ (by rfl) rfl ⟨_, 0, rfl⟩ (by simp) (fun w1 hU _ K hK => ?_) ?_
      · have hz := (grown_un hU).size
        go_simp
        exact hK _ _ (Ext.alloc w1 _) ⟨_, rfl⟩ (EmX.new w1 5 (by omega) fun k e => by have := hrow k e; omega)
      rintro _ ⟨g0, rfl⟩
      simp only [Act.put, List.setIfInBounds_toArray, List.set_cons_zero, List.set_cons_succ]
      repeat ((refine seq_exact ?_ (by rfl) (by rfl) (fun w1 hU => ?_) ?_); (rotate_left 1); (focus (have hU := grown_un hU; have hbk := (HBX.out.blk.grown hU hr1).cell; have hpk := (HPR.out.grown hU hr0).cell; have hk1 := hU.cell he1 hbne; have hk2 := hU.cell he2 hbne; clear hU; go_simp <;> with_reducible rfl)); (simp only [Act.put, List.setIfInBounds_toArray, List.set_cons_zero, List.set_cons_succ]))
      refine seq_opaque _ _ (by rfl) rfl ⟨_, none, 0, rfl⟩ (by simp) (fun w1 hU hp K hK => ?_) ?_
      · have hs := hp _ (.head _) (by kernel_rfl)
        have hU := grown_un hU
        have hz := hU.size
        exact wp_appendE bt _ _ rfl (w.heap.size + 3) _ rfl hs.1 Ai ci cs[j].2 rfl (HC3.out.grown hU hAi) (by omega) (by omega) fun A' cap' w' h1 h2 h3 => hK _ _ h2 ⟨A', cap', rfl⟩ (h1.slX2 hs.2 (fun k e => by have := hrow k e; omega) h3)
      rintro _ ⟨A3, c3, rfl⟩
      simp only [Act.put, List.setIfInBounds_toArray, List.set_cons_zero, List.set_cons_succ]
      repeat ((refine seq_exact ?_ (by rfl) (by rfl) (fun w1 hU => ?_) ?_); (rotate_left 1); (focus (go_simp <;> with_reducible rfl)); (simp only [Act.put, List.setIfInBounds_toArray, List.set_cons_zero, List.set_cons_succ]))
      refine seq_opaque _ _ (by rfl) rfl ⟨_, 0, rfl⟩ (by simp) (fun w1 hU hp K hK => ?_) ?_
      · have hs := hp _ (.head _) (by kernel_rfl)
        have hz := (grown_un hU).size
        clear hp
        go_simp
        exact hK _ _ (Ext.alloc w1 _) ⟨_, rfl⟩ (OneCh.mk_ hs fun k e => by have := hrow k e; omega)
      rintro _ ⟨g, rfl⟩
      simp only [Act.put, List.setIfInBounds_toArray, List.set_cons_zero, List.set_cons_succ]
      refine seq_late _ _ (by rfl) rfl ⟨_, none, 0, rfl⟩ rfl (fun w1 hU hp K hK => ?_) ?_
      · have hs := hp _ (.head _) (by kernel_rfl)
        have ho := HBX.out.own.ext hU.un
        have hz := Ext.size hU.un
        rw [HLJ.out] at ho
        have hgr := HGR.out
        rw [HLJ.out] at hgr
        refine wp_appendCh ct _ _ rfl (w.heap.size + 3) _ _ _ rfl ho _ rfl (hgr ▸ hs) (by rw [HLJ.out]; omega) (by omega) fun A' cap' w' h1 h2 => ?_
        rw [HLJ.out] at h1 ⊢
        exact hK _ _ (hgr ▸ h2) ⟨A', cap', rfl⟩ h1
      rintro _ ⟨C', cap', rfl⟩
      simp only [Act.put, List.setIfInBounds_toArray, List.set_cons_zero, List.set_cons_succ]
      repeat ((refine seq_exact ?_ (by rfl) (by rfl) (fun w1 hU => ?_) ?_); (rotate_left 1); (focus (go_simp <;> with_reducible rfl)); (simp only [Act.put, List.setIfInBounds_toArray, List.set_cons_zero, List.set_cons_succ]))
      intro w8 hw8 hp
      have ho8 := hp _ (.head _)
      clear hp
      simp only [List.drop_succ_cons, List.drop_zero]
      have hw8 := grown_un hw8
      have hb8 := HBX.out.blk.grown hw8 hr1
      have hr8 := HRS.out.grown hw8 (fun e => by have := hrow _ e.symm; omega)
      have hp8 := HPR.out.grown hw8 hr0
      have hx8 : Ext w w8 := hext.grown hw8 (fun k e => by have := hrow k e; omega)
      have hc8 := hb8.cell
      have hf8 := hb8.frozen
      have HB8 := hide hb8
      have HR8 := hide hr8
      have HP8 := hide hp8
      have HX8 := hide hx8
      have HO8 := hide ho8
      clear hb8 hr8 hx8 ho8 hw8 hp8 HBX HRS HPR hrow hr1 he1 he2 hext
      go_wp2
      go_roundw
      case rel =>
        have hd : cs.take (j + 1) = cs.take j ++ [cs[j]] := by rw [List.take_succ_eq_append_getElem hjl]
        have hl' : (cs.take (j + 1)).length = j + 1 := by simp; omega
        refine ⟨j + 1, C', cap', by omega, by go_num, ⟨?_, ?_⟩, HR8.out.far (by simp <;> omega) _, HP8.out.far (by simp <;> omega) _, HX8.out.set (by simp <;> omega) _⟩
        · rw [hl']
          have := HB8.out.set 1 (.slice C' (j + 1) cap')
          simpa using this
        · rw [hl', hd]
          have := OwnCh.set HO8.out (p := ⟨w.heap.size + 2, 1, none⟩) (by simp) (.slice C' (j + 1) cap')
          simpa using this
      case measure => simp [intOf]; omega
    · have hjj : j = cs.length := by omega
      subst hjj
      have hcb := hbox.blk.cell
      have hcr := hres.cell
      have hfr := hres.frozen
      rw [List.take_length] at hbox hcb
      have HBX := hide hbox
      have HRS := hide hres
      clear hbox hres
      go_wp2_with fail
      have hset := (HRS.out.set 0 (.int .i64 len)).set 1 (.slice C cs.length c')
      have hcc := hset.cell
      refine bodyPost_ret (v := .agg #[.int .i64 len, .slice C cs.length c']) (by simp [results, Try.results39, go_sem, hcc]) rfl ?_
      refine ⟨C, c', rfl, ?_, (hext.set (by simp <;> omega) _).set (by simp <;> omega) _⟩
      exact ((HBX.out.own.set (p := ⟨w.heap.size + 1, 0, none⟩) (by simp <;> omega) _).set (p := ⟨w.heap.size + 1, 1, none⟩) (by simp <;> omega) _).chs.2
end Go.Proofs.Ytfcmngiekdhfpaa
