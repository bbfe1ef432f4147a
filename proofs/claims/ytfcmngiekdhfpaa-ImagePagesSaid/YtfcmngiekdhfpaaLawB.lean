/-
  The walk of ImagePages.
-/
import Derived.Test.YtfcmngiekdhfpaaLawA
namespace Go.Proofs.Ytfcmngiekdhfpaa
open Go.RowKit
set_option linter.unusedVariables false

theorem take_page (b : List UInt8) (j : Nat) : b.take (j * 128) ++ pageL b j = b.take ((j + 1) * 128) := by
  unfold pageL
  rw [Nat.add_mul, List.take_add]
theorem ext_row {w w1 w2 : World} {v : Value} (he : Ext w w1) (hg : w1.grownBy w2 v.ownBlock) (hv : ∀ k, v.ownBlock = some k → w.heap.size ≤ k) : Ext w w2 := he.grown hg hv

set_option maxRecDepth 100000 in
set_option maxHeartbeats 1000000 in
theorem pages_law (A : Option Addr) (cap : Nat) (b : List UInt8) (n k : Int) (w : World) (hs : Sl w A cap b) (hn : n ≤ 9223372036854775807) :
    Calls Try.prog 3 #[.slice A b.length cap, .int .i64 n, .int .i64 k] w fun e w' => e = .returned (.bool true) ∧ Ext w w' := by
  have HS := hide hs
  clear hs
  by_cases hl : 2000 < b.length
  · have hl' : (2000 : Int) < b.length := by omega
    have hmx := HS.out.max
    have hle := HS.out.le
    unfold maxLen at hmx
    go_enter Try.func3, Try.ntmps3
    go_wp2_with (go_at_call 14; refine (awake_any _).mono ?_; rintro e w1 ⟨rfl, hE1⟩)
    go_ret
    exact ⟨rfl, hE1⟩
  · have hl' : ¬ (2000 : Int) < b.length := by omega
    have HCN := hide (cntN_cast b.length)
    have hcl := cntN_le b.length
    go_enter Try.func3, Try.ntmps3
    go_wp2_with (go_at_call 14; refine (awake_any _).mono ?_; rintro e w1 ⟨rfl, hE1⟩; have HE1 := hide hE1; clear hE1)
    go_loopw [7, 8] (fun v i wr => ∃ (j : Nat) (C : Option Addr) (c' : Nat) (l : List UInt8), j ≤ cntN b.length ∧ i = .int .i64 j ∧ v = .slice C l.length c' ∧ Own wr w.heap.size 5 (.slice C l.length c') l ∧ Ext w wr ∧ Hid (l = b.take (j * 128))) (fun _ i _ => cntN b.length - (intOf i).toNat)
    case atStart => exact ⟨0, none, 0, [], Nat.zero_le _, rfl, by simp, Own.nil_ w1 w.heap.size 5, HE1.out, hide (by simp)⟩
    case round =>
      obtain ⟨j, C, c', l, hj, rfl, rfl, hown, hext, HL⟩ := hrel
      have HO := hide hown
      have HX := hide hext
      have hll : l.length ≤ 2000 := by rw [HL.out]; simp; omega
      clear hown hext
      by_cases hjl : j < cntN b.length
      · have hjc : (j : Int) < cnt b.length := by rw [HCN.out]; omega
        have hjb : (j : Int) ≤ b.length := by omega
        have hpl : (pageL b j).length ≤ 128 := by rw [pageL_length]; omega
        have HP := hide (HS.out.ext HX.out)
        go_wp2_with (first
          | (go_at_call 15; refine (count_any _ _ (by omega)).mono ?_; rintro e w' ⟨rfl, rfl⟩)
          | (go_at_call 16; refine (page_any _ _ _ _ _ HP.out (by omega)).mono ?_; rw [pageI_nat]; rintro e w2 ⟨A2, c2, rfl, hq, hq2⟩; have HQ := hide hq.sl.2; have HO2 := hide (HO.out.ext hq2); have HX2 := hide (HX.out.trans hq2); clear hq hq2)
          | (at_builtin; refine wpList_appendB bt rfl _ _ rfl w.heap.size (.slice C l.length c') l rfl HO2.out A2 c2 (pageL b j) rfl HQ.out (by omega) (HX2.out.size) ?_; intro A3 c3 w3 ho3 hg3 _; have HO3 := hide ho3; have HG3 := hide hg3; clear ho3 hg3))
        go_roundw
        case rel =>
          have hx3 := HX2.out.grown HG3.out (fun k hk => (World.ownsRow.lt HO2.out k hk).1)
          refine ⟨j + 1, A3, c3, l ++ pageL b j, by omega, by go_num, by rw [List.length_append], ?_, hx3, hide (by rw [HL.out, take_page])⟩
          rw [List.length_append]
          exact HO3.out
        case measure => simp [intOf]; omega
      · have hjc : ¬ (j : Int) < cnt b.length := by rw [HCN.out]; omega
        have hlb : l = b := by rw [HL.out]; apply List.take_of_length_le; have := HCN.out; unfold cnt at this; split at this <;> omega
        subst hlb
        have HP := hide (HS.out.ext HX.out)
        have HO7 := hide HO.out.sl.2
        have H1 := fun (w : World) (h : Ext wr w) => (HO7.out.ext h).convert (P := Try.prog) (src := 22) (dst := 9) Try.underlying22 Try.underlying5 Try.underlying9
        have H2 := fun (w : World) (h : Ext wr w) => (HP.out.ext h).convert (P := Try.prog) (src := 22) (dst := 9) Try.underlying22 Try.underlying5 Try.underlying9
        have HH1 := hide H1
        have HH2 := hide H2
        clear H1 H2 HO
        go_wp2_with (go_at_call 15; refine (count_any _ _ (by omega)).mono ?_; rintro e w' ⟨rfl, rfl⟩)
        refine wp_region_ext 23 2 [(1, fun v => v = .int .i64 (cnt n), fun _ _ => True), (3, fun v => v = .int .i64 (cnt n), fun _ _ => True), (8, ShSl (pageI l k).length, SlX 0 none (pageI l k)), (9, fun v => v = .string (str (pageI l k)), fun _ _ => True),
          (12, ShSl (pageI l k).length, SlX 0 none (pageI l k)), (13, fun v => v = .string (str (pageI l k)), fun _ _ => True)] mixed (by kernel_rfl)
          ⟨fun _ _ _ _ _ => trivial, fun _ _ _ _ _ => trivial, fun _ _ _ h hx => h.grown (hx.grownBy _), fun _ _ _ _ _ => trivial, fun _ _ _ h hx => h.grown (hx.grownBy _), fun _ _ _ _ _ => trivial, trivial⟩ ?_
        repeat ((refine seq_exact ?_ (by rfl) (by rfl) (fun w1 hU => ?_) ?_); (rotate_left 1); (focus (go_simp; with_reducible rfl)); (simp only [Act.put, List.setIfInBounds_toArray, List.set_cons_zero, List.set_cons_succ]))
        refine seq_opaque _ _ (by rfl) rfl ⟨_, rfl⟩ (by simp) (fun w1 hU _ K hK => ?_) ?_
        · go_simp
          refine (count_any _ _ hn).mono ?_
          rintro e w2 ⟨rfl, rfl⟩
          exact hK _ _ (Ext.refl _) rfl trivial
        rintro _ rfl
        simp only [Act.put, List.setIfInBounds_toArray, List.set_cons_zero, List.set_cons_succ]
        repeat ((refine seq_exact ?_ (by rfl) (by rfl) (fun w1 hU => ?_) ?_); (rotate_left 1); (focus (go_simp; with_reducible rfl)); (simp only [Act.put, List.setIfInBounds_toArray, List.set_cons_zero, List.set_cons_succ]))
        refine seq_opaque _ _ (by rfl) rfl ⟨_, rfl⟩ (by simp) (fun w1 hU _ K hK => ?_) ?_
        · go_simp
          refine (rcount_any _ _ hn).mono ?_
          rintro e w2 ⟨rfl, rfl⟩
          exact hK _ _ (Ext.refl _) rfl trivial
        rintro _ rfl
        simp only [Act.put, List.setIfInBounds_toArray, List.set_cons_zero, List.set_cons_succ]
        repeat ((refine seq_exact ?_ (by rfl) (by rfl) (fun w1 hU => ?_) ?_); (rotate_left 1); (focus (go_simp; with_reducible rfl)); (simp only [Act.put, List.setIfInBounds_toArray, List.set_cons_zero, List.set_cons_succ]))
        refine seq_opaque _ _ (by rfl) rfl ⟨_, none, 0, rfl⟩ (by simp) (fun w1 hU _ K hK => ?_) ?_
        · go_simp
          refine (page_any _ _ _ _ _ (HP.out.ext hU.un) (by omega)).mono ?_
          rintro e w2 ⟨A', cap', rfl, h3, h4⟩
          exact hK _ _ h4 ⟨A', cap', rfl⟩ (h3.slX (Nat.zero_le _) (fun k e => by cases e))
        rintro _ ⟨A1, c1, rfl⟩
        simp only [Act.put, List.setIfInBounds_toArray, List.set_cons_zero, List.set_cons_succ]
        refine seq_opaque _ _ (by rfl) rfl ⟨_, rfl⟩ (by simp) (fun w1 hU hp K hK => ?_) ?_
        · have hs := (SlX.sl (hp _ (.head _) (by kernel_rfl))).convert (P := Try.prog) Try.underlying22 Try.underlying5 Try.underlying9
          clear hp
          go_simp
          exact hK _ _ (Ext.refl _) rfl trivial
        rintro _ rfl
        simp only [Act.put, List.setIfInBounds_toArray, List.set_cons_zero, List.set_cons_succ]
        repeat ((refine seq_exact ?_ (by rfl) (by rfl) (fun w1 hU => ?_) ?_); (rotate_left 1); (focus (go_simp; with_reducible rfl)); (simp only [Act.put, List.setIfInBounds_toArray, List.set_cons_zero, List.set_cons_succ]))
        refine seq_opaque _ _ (by rfl) rfl ⟨_, none, 0, rfl⟩ (by simp) (fun w1 hU _ K hK => ?_) ?_
        · go_simp
          refine (rpage_any _ _ _ _ _ (HP.out.ext hU.un) (by omega)).mono ?_
          rintro e w2 ⟨A', cap', rfl, h3, h4⟩
          exact hK _ _ h4 ⟨A', cap', rfl⟩ (h3.slX (Nat.zero_le _) (fun k e => by cases e))
        rintro _ ⟨A2, c2, rfl⟩
        simp only [Act.put, List.setIfInBounds_toArray, List.set_cons_zero, List.set_cons_succ]
        refine seq_opaque _ _ (by rfl) rfl ⟨_, rfl⟩ (by simp) (fun w1 hU hp K hK => ?_) ?_
        · have hs := (SlX.sl (hp _ (.head _) (by kernel_rfl))).convert (P := Try.prog) Try.underlying22 Try.underlying5 Try.underlying9
          clear hp
          go_simp
          exact hK _ _ (Ext.refl _) rfl trivial
        rintro _ rfl
        simp only [Act.put, List.setIfInBounds_toArray, List.set_cons_zero, List.set_cons_succ]
        repeat ((refine seq_exact ?_ (by rfl) (by rfl) (fun w1 hU => ?_) ?_); (rotate_left 1); (focus (have hc1 := HH1.out w1 hU.un; have hc2 := HH2.out w1 hU.un; go_simp; with_reducible rfl)); (simp only [Act.put, List.setIfInBounds_toArray, List.set_cons_zero, List.set_cons_succ]))
        intro w7 hw7 _
        simp only [List.drop_succ_cons, List.drop_zero]
        have HX7 := hide (HX.out.trans hw7.un)
        clear hw7
        go_wp2
        go_ret
        exact ⟨rfl, HX7.out⟩
end Go.Proofs.Ytfcmngiekdhfpaa
