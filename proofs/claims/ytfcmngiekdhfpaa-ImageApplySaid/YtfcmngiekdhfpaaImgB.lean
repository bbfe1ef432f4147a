/-
  The reference's Diff.
-/
import Derived.Test.YtfcmngiekdhfpaaImgA
import Derived.Test.YtfcmngiekdhfpaaChg
namespace Go.Proofs.Ytfcmngiekdhfpaa
open Go.RowKit
set_option linter.unusedVariables false

def cntN (n : Nat) : Nat := (cnt n).toNat
theorem cntN_cast (n : Nat) : cnt n = (cntN n : Int) := by unfold cntN cnt; split <;> omega
def diffTo (a b : List UInt8) : Nat → List Chg
  | 0 => []
  | k + 1 => if pageL a k = pageL b k then diffTo a b k else diffTo a b k ++ [((k : Int), pageL b k)]
def diffL (a b : List UInt8) : List Chg := diffTo a b (cntN b.length)
theorem diffTo_length (a b : List UInt8) : ∀ k, (diffTo a b k).length ≤ k
  | 0 => Nat.le_refl _
  | k + 1 => by
    have := diffTo_length a b k
    simp only [diffTo]
    split
    · omega
    · simp; omega
theorem cntN_le (n : Nat) : cntN n ≤ n := by unfold cntN cnt; split <;> omega
theorem mixed : Try.prog.follows .mixedOrders = true := by kernel_rfl
theorem ret_err2 {v w : Value} {a b : Int} (h : v = w) (h2 : a = b) : Ending.returned (.tuple #[v, .int .i64 a]) = .returned (.tuple #[w, .int .i64 b]) := by rw [h, h2]

/-- The cells of the box of a patch that is being made, and what its slice owns. -/
structure PBox (w : World) (g : Nat) (tp e : TypeId) (len : Int) (C : Option Addr) (cap : Nat) (cs : List Chg) : Prop where
  blk : Blk w g tp #[.int .i64 len, .slice C cs.length cap]
  own : OwnCh w (g + 1) e (.slice C cs.length cap) cs
theorem PBox.ext {w w' : World} {g : Nat} {tp e : TypeId} {len : Int} {C : Option Addr} {cap : Nat} {cs : List Chg} (h : PBox w g tp e len C cap cs) (he : Ext w w') : PBox w' g tp e len C cap cs := ⟨h.blk.ext he, h.own.ext he⟩

set_option maxRecDepth 100000 in
set_option maxHeartbeats 1000000 in
theorem rdiff_any (A B : Option Addr) (ca cb : Nat) (a b : List UInt8) (w : World) (ha : Sl w A ca a) (hb : Sl w B cb b) (la : a.length ≤ 65536) (lb : b.length ≤ 24000) :
    Calls Try.prog 20 #[.slice A a.length ca, .slice B b.length cb] w fun e w' => ∃ C cap, e = .returned (.tuple #[.agg #[.int .i64 b.length, .slice C (diffL a b).length cap], .int .i64 0]) ∧ Chs w' C cap (diffL a b) ∧ Ext w w' := by
  have hcn := cntN_cast b.length
  have HCN := hide hcn
  clear hcn
  have hcl := cntN_le b.length
  have hBlt := hb.lt
  have HBL := hide hBlt
  clear hBlt
  have hlt : ¬ (24000 : Int) < b.length := by omega
  go_enter Try.func20, Try.ntmps20
  go_wp2
  go_loopw [7] (fun k wr => ∃ (j : Nat) (C : Option Addr) (cap : Nat), j ≤ cntN b.length ∧ k = .int .i64 j ∧ PBox wr (w.heap.size + 1) 35 88 b.length C cap (diffTo a b j) ∧
      Blk wr w.heap.size 35 #[.int .i64 0, .slice none 0 0] ∧ Ext w wr) (fun k _ => cntN b.length - (intOf k).toNat)
  case atStart =>
    refine ⟨0, none, 0, Nat.zero_le _, rfl, ⟨?_, OwnCh.nil_ _ _ _⟩, ?_, ?_⟩
    · have := Blk.new (w.alloc (.cells #[.int .i64 0, .slice none 0 0] 35)) 35 #[.int .i64 b.length, .slice none 0 0]
      simpa [diffTo] using this
    · exact (Blk.new w 35 _).alloc _
    · exact (Ext.alloc w _).alloc' _
  case round =>
    obtain ⟨j, C, cap, hj, rfl, hbox, hres, hext⟩ := hrel
    have HBX := hide hbox
    have HRS := hide hres
    clear hbox hres
    by_cases hjl : j < cntN b.length
    · have HA := hide (ha.ext hext)
      have HB := hide (hb.ext hext)
      have hjc : (j : Int) < cnt b.length := by rw [HCN.out]; omega
      clear ha hb
      go_wp2_with (go_at_call 17; refine (rcount_any _ _ (by omega)).mono ?_; rintro e w' ⟨rfl, rfl⟩)
      refine wp_region_ext 9 2 [(2, ShSl (pageL a j).length, SlX 0 none (pageL a j)), (3, fun v => v = .string (str (pageL a j)), fun _ _ => True),
        (6, ShSl (pageL b j).length, SlX 0 none (pageL b j)), (7, fun v => v = .string (str (pageL b j)), fun _ _ => True)] mixed (by kernel_rfl)
        ⟨fun _ _ _ h hx => h.grown (hx.grownBy _), fun _ _ _ _ _ => trivial, fun _ _ _ h hx => h.grown (hx.grownBy _), fun _ _ _ _ _ => trivial, trivial⟩ ?_
      repeat ((refine seq_exact ?_ (by rfl) (by rfl) (fun w1 hU => ?_) ?_); (rotate_left 1); (focus (go_simp <;> with_reducible rfl)); (simp only [Act.put, List.setIfInBounds_toArray, List.set_cons_zero, List.set_cons_succ]))
      refine seq_opaque _ _ (by rfl) rfl ⟨_, none, 0, rfl⟩ (by simp) (fun w1 hU _ K hK => ?_) ?_
      · go_simp
        refine (rpage_any _ _ _ _ _ (HA.out.ext hU.un) la).mono ?_
        rw [pageI_nat]
        rintro e w2 ⟨A', cap', rfl, h3, h4⟩
        exact hK _ _ h4 ⟨A', cap', rfl⟩ (h3.slX (Nat.zero_le _) (fun k e => by cases e))
      rintro _ ⟨A1, c1, rfl⟩
      simp only [Act.put, List.setIfInBounds_toArray, List.set_cons_zero, List.set_cons_succ]
      refine seq_opaque _ _ (by rfl) rfl ⟨_, rfl⟩ (by simp) (fun w1 hU hp K hK => ?_) ?_
      · have hs := (SlX.sl (hp _ (.head _) (by kernel_rfl))).convert (P := Try.prog) Try.underlying22 Try.underlying5 Try.underlying9
        clear hp
        go_simp
        exact hK _ _ (Ext.refl _) rfl trivial
      rintro _ rfl
      simp only [Act.put, List.setIfInBounds_toArray, List.set_cons_zero, List.set_cons_succ]
      repeat ((refine seq_exact ?_ (by rfl) (by rfl) (fun w1 hU => ?_) ?_); (rotate_left 1); (focus (go_simp <;> with_reducible rfl)); (simp only [Act.put, List.setIfInBounds_toArray, List.set_cons_zero, List.set_cons_succ]))
      refine seq_opaque _ _ (by rfl) rfl ⟨_, none, 0, rfl⟩ (by simp) (fun w1 hU _ K hK => ?_) ?_
      · go_simp
        refine (rpage_any _ _ _ _ _ (HB.out.ext hU.un) (by omega)).mono ?_
        rw [pageI_nat]
        rintro e w2 ⟨A', cap', rfl, h3, h4⟩
        exact hK _ _ h4 ⟨A', cap', rfl⟩ (h3.slX (Nat.zero_le _) (fun k e => by cases e))
      rintro _ ⟨A2, c2, rfl⟩
      simp only [Act.put, List.setIfInBounds_toArray, List.set_cons_zero, List.set_cons_succ]
      refine seq_opaque _ _ (by rfl) rfl ⟨_, rfl⟩ (by simp) (fun w1 hU hp K hK => ?_) ?_
      · have hs := (SlX.sl (hp _ (.head _) (by kernel_rfl))).convert (P := Try.prog) Try.underlying22 Try.underlying5 Try.underlying9
        clear hp
        go_simp
        exact hK _ _ (Ext.refl _) rfl trivial
      rintro _ rfl
      simp only [Act.put, List.setIfInBounds_toArray, List.set_cons_zero, List.set_cons_succ]
      repeat ((refine seq_exact ?_ (by rfl) (by rfl) (fun w1 hU => ?_) ?_); (rotate_left 1); (focus (go_simp <;> with_reducible rfl)); (simp only [Act.put, List.setIfInBounds_toArray, List.set_cons_zero, List.set_cons_succ]))
      intro w7 hw7 _
      have hx7 := hext.trans hw7.un
      have HBX7 := hide (HBX.out.ext hw7.un)
      have HRS7 := hide (HRS.out.ext hw7.un)
      have HB7 := hide (HB.out.ext hw7.un)
      clear HBX HRS HB HA hw7 hext
      simp only [List.drop_succ_cons, List.drop_nil]
      generalize hpe : (pageL a j == pageL b j) = pe
      have HPE := hide hpe
      clear hpe
      cases pe
      rotate_left
      · go_wp2
        go_roundw
        case rel =>
          have hd : diffTo a b (j + 1) = diffTo a b j := by simp only [diffTo]; rw [if_pos (by simpa using HPE.out)]
          exact ⟨j + 1, C, cap, by omega, by go_num, by rw [hd]; exact HBX7.out, HRS7.out, hx7⟩
        case measure => simp [intOf]; omega
      · go_wp2
        have hrow : ∀ k, Value.ownBlock (.slice C (diffTo a b j).length cap) = some k → w.heap.size + 2 ≤ k ∧ k < w7.heap.size := fun k hk => by
          obtain ⟨xs, h1, _⟩ := HBX7.out.own
          have := h1.lt k hk
          omega
        have hr1 : some (w.heap.size + 1) ≠ Value.ownBlock (.slice C (diffTo a b j).length cap) := fun e => by have := hrow _ e.symm; omega
        refine wp_region_app 10 2 [(5, ShSl (pageL b j).length, SlX (w.heap.size + 2) (Value.ownBlock (.slice C (diffTo a b j).length cap)) (pageL b j)),
          (7, fun v => ∃ g, v = .slice (some ⟨g, 0, none⟩) 1 1, OneCh (w.heap.size + 2) (Value.ownBlock (.slice C (diffTo a b j).length cap)) 88 ((j : Int), pageL b j)),
          (8, ShSl ((diffTo a b j).length + 1), fun v w' => OwnCh w' (w.heap.size + 2) 88 v (diffTo a b j ++ [((j : Int), pageL b j)]))] 8 (Value.ownBlock (.slice C (diffTo a b j).length cap))
          mixed (by kernel_rfl) ⟨fun _ _ _ h hx => h.grown (hx.grownBy _), fun _ _ _ h hx => h.grown (hx.grownBy _), fun _ _ _ h hx => h.ext hx, trivial⟩
          ⟨.inr fun _ _ _ h hx => h.grown hx, .inr fun _ _ _ h hx => h.grown hx, .inl rfl, trivial⟩ ?_
        repeat ((refine seq_exact ?_ (by rfl) (by rfl) (fun w1 hU => ?_) ?_); (rotate_left 1); (focus (have hbk := (HBX7.out.blk.grown (grown_un hU) hr1).cell; go_simp <;> with_reducible rfl)); (simp only [Act.put, List.setIfInBounds_toArray, List.set_cons_zero, List.set_cons_succ]))
        refine seq_opaque _ _ (by rfl) rfl ⟨_, none, 0, rfl⟩ (by simp) (fun w1 hU _ K hK => ?_) ?_
        · have hU := grown_un hU
          go_simp
          refine (rpage_any _ _ _ _ _ (HB7.out.grown hU ?_) (by omega)).mono ?_
          · exact HBL.out.imp id (fun h a ha e => by have := hrow _ e.symm; have := h a ha; omega)
          rw [pageI_nat]
          rintro e w2 ⟨A', cap', rfl, h3, h4⟩
          exact hK _ _ h4 ⟨A', cap', rfl⟩ (h3.slX (by have := HBX7.out.blk.lt; have := hU.size; omega) (fun k e => by have := hrow k e; have := hU.size; omega))
        rintro _ ⟨A3, c3, rfl⟩
        simp only [Act.put, List.setIfInBounds_toArray, List.set_cons_zero, List.set_cons_succ]
        repeat ((refine seq_exact ?_ (by rfl) (by rfl) (fun w1 hU => ?_) ?_); (rotate_left 1); (focus (go_simp <;> with_reducible rfl)); (simp only [Act.put, List.setIfInBounds_toArray, List.set_cons_zero, List.set_cons_succ]))
        refine seq_opaque _ _ (by rfl) rfl ⟨_, 0, rfl⟩ (by simp) (fun w1 hU hp K hK => ?_) ?_
        · have hs := hp _ (.head _) (by kernel_rfl)
          clear hp
          have hU := grown_un hU
          go_simp
          exact hK _ _ (Ext.alloc w1 _) ⟨_, rfl⟩ (OneCh.mk_ hs fun k e => by have := hrow k e; have := hU.size; omega)
        rintro _ ⟨g, rfl⟩
        simp only [Act.put, List.setIfInBounds_toArray, List.set_cons_zero, List.set_cons_succ]
        refine seq_late _ _ (by rfl) rfl ⟨_, none, 0, rfl⟩ rfl (fun w1 hU hp K hK => ?_) ?_
        · have hs := hp _ (.head _) (by kernel_rfl)
          clear hp
          exact wp_appendCh rct _ _ rfl (w.heap.size + 2) _ _ _ rfl (HBX7.out.own.ext hU.un) _ rfl hs (by have := diffTo_length a b j; omega) (by have := HBX7.out.blk.lt; have := Ext.size hU.un; omega) fun A' cap' w' h1 h2 => hK _ _ h2 ⟨A', cap', rfl⟩ h1
        rintro _ ⟨C', cap', rfl⟩
        simp only [Act.put, List.setIfInBounds_toArray, List.set_cons_zero, List.set_cons_succ]
        repeat ((refine seq_exact ?_ (by rfl) (by rfl) (fun w1 hU => ?_) ?_); (rotate_left 1); (focus (go_simp <;> with_reducible rfl)); (simp only [Act.put, List.setIfInBounds_toArray, List.set_cons_zero, List.set_cons_succ]))
        intro w8 hw8 hp
        have ho8 := hp _ (.head _)
        clear hp
        simp only [List.drop_succ_cons, List.drop_zero]
        have hw8 := grown_un hw8
        have hb8 := HBX7.out.blk.grown hw8 hr1
        have hr8 := HRS7.out.grown hw8 (fun e => by have := hrow _ e.symm; omega)
        have hx8 : Ext w w8 := hx7.grown hw8 (fun k e => by have := hrow k e; omega)
        have hc8 := hb8.cell
        have hf8 := hb8.frozen
        have HB8 := hide hb8
        have HR8 := hide hr8
        have HX8 := hide hx8
        have HO8 := hide ho8
        clear hb8 hr8 hx8 ho8 hw8 HBX7 HRS7 hrow hr1
        go_wp2
        go_roundw
        case rel =>
          have hd : diffTo a b (j + 1) = diffTo a b j ++ [((j : Int), pageL b j)] := by simp only [diffTo]; rw [if_neg (by simpa using HPE.out)]
          refine ⟨j + 1, C', cap', by omega, by go_num, ?_, HR8.out.far (by simp) _, HX8.out.set (by simp) _⟩
          rw [hd]
          refine ⟨by have := HB8.out.set 1 (.slice C' ((diffTo a b j).length + 1) cap'); simpa using this, ?_⟩
          have := OwnCh.set HO8.out (p := ⟨w.heap.size + 1, 1, none⟩) (by simp) (.slice C' ((diffTo a b j).length + 1) cap')
          simpa using this
        case measure => simp [intOf]; omega
    · have hjc : ¬ (j : Int) < cnt b.length := by rw [HCN.out]; omega
      have hjj : j = cntN b.length := by omega
      have hcb := HBX.out.blk.cell
      have hcr := HRS.out.cell
      have hfr := HRS.out.frozen
      go_wp2_with (go_at_call 17; refine (rcount_any _ _ (by omega)).mono ?_; rintro e w' ⟨rfl, rfl⟩)
      have hset := (HRS.out.set 0 (.int .i64 b.length)).set 1 (.slice C (diffTo a b (cntN b.length)).length cap)
      have hcc := hset.cell
      refine bodyPost_ret (v := .tuple #[.agg #[.int .i64 b.length, .slice C (diffTo a b (cntN b.length)).length cap], .int .i64 0]) (by simp [results, Try.results20, go_sem, hcc]) rfl ?_
      refine ⟨C, cap, rfl, ?_, (hext.set (by simp) _).set (by simp) _⟩
      have hO := HBX.out.own
      rw [hjj] at hO
      exact ((hO.set (p := ⟨w.heap.size, 0, none⟩) (by simp; omega) _).set (p := ⟨w.heap.size, 1, none⟩) (by simp; omega) _).chs.2

theorem rdiff_big (A B : Option Addr) (ca cb : Nat) (n m : Nat) (w : World) (lb : 24000 < m) :
    Calls Try.prog 20 #[.slice A n ca, .slice B m cb] w fun e w' => e = .returned (.tuple #[.agg #[.int .i64 0, .slice none 0 0], .int .i64 6]) ∧ Ext w w' := by
  go_enter Try.func20, Try.ntmps20
  have hlt : (24000 : Int) < m := by omega
  go_wp2
  exact bodyPost_ret (v := .tuple #[.agg #[.int .i64 0, .slice none 0 0], .int .i64 6]) (by simp [results, Try.results20, go_sem]) rfl ⟨rfl, Ext.alloc w _⟩
end Go.Proofs.Ytfcmngiekdhfpaa
