/-
  Equal of the reference, on patches.
-/
import Derived.Test.YtfcmngiekdhfpaaImgC
namespace Go.Proofs.Ytfcmngiekdhfpaa
open Go.RowKit
set_option linter.unusedVariables false

theorem ret_bool {a b : Bool} (h : a = b) : Ending.returned (.bool a) = .returned (.bool b) := by rw [h]
theorem eq_of_takes {α : Type} {l m : List α} (h : l.length = m.length) (ht : l.take l.length = m.take l.length) : l = m := by
  rw [List.take_length, h, List.take_length] at ht; exact ht
theorem take_succ_eq {l m : List Chg} {j : Nat} (hl : j < l.length) (hm : j < m.length) (ht : l.take j = m.take j) (h : l[j] = m[j]) : l.take (j + 1) = m.take (j + 1) := by
  rw [List.take_succ_eq_append_getElem hl, List.take_succ_eq_append_getElem hm, ht, h]
theorem ne_of_at {l m : List Chg} {j : Nat} (hl : j < l.length) (hm : j < m.length) (h : l[j] ≠ m[j]) : decide (l = m) = false := by
  rw [decide_eq_false_iff_not]
  intro e
  subst e
  exact h rfl

set_option maxRecDepth 100000 in
set_option maxHeartbeats 1000000 in
theorem requal_any (l1 l2 : Int) (A B : Option Addr) (ca cb : Nat) (cs ds : List Chg) (w : World) (ha : Chs w A ca cs) (hb : Chs w B cb ds) (hl1 : cs.length ≤ 65536) (hl2 : ds.length ≤ 65536) :
    Calls Try.prog 21 #[.agg #[.int .i64 l1, .slice A cs.length ca], .agg #[.int .i64 l2, .slice B ds.length cb]] w fun e w' => e = .returned (.bool (l1 == l2 && decide (cs = ds))) ∧ Ext w w' := by
  have HA := hide ha
  have HB := hide hb
  clear ha hb
  by_cases h1 : l1 = l2
  · subst h1
    by_cases h2 : cs.length = ds.length
    · have h2b : ((cs.length : Int) == (ds.length : Int)) = true := by simp [h2]
      have h2c : ((cs.length : Int) != (ds.length : Int)) = false := by simp [h2]
      have H2 := hide h2
      clear h2
      go_enter Try.func21, Try.ntmps21
      go_wp2
      go_loopw [5] (fun i wr => ∃ j : Nat, j ≤ cs.length ∧ i = .int .i64 j ∧ Blk wr w.heap.size 35 #[.int .i64 l1, .slice A cs.length ca] ∧ Blk wr (w.heap.size + 1) 35 #[.int .i64 l1, .slice B ds.length cb] ∧ Ext w wr ∧ Hid (cs.take j = ds.take j)) (fun i _ => cs.length - (intOf i).toNat)
      case atStart =>
        refine ⟨0, Nat.zero_le _, rfl, (Blk.new w _ _).alloc _, ?_, (Ext.alloc w _).alloc' _, hide (by simp)⟩
        have := Blk.new (w.alloc (.cells #[.int .i64 l1, .slice A cs.length ca] 35)) 35 #[.int .i64 l1, .slice B ds.length cb]
        simpa using this
      case round =>
        obtain ⟨j, hj, rfl, hp, hq, hx, HT⟩ := hrel
        have hpc := hp.cell
        have hqc := hq.cell
        have hz0 := hp.lt
        have hz1 := hq.lt
        have HP := hide hp
        have HQ := hide hq
        have HX := hide hx
        clear hp hq hx h2b h2c
        by_cases hlt : j < cs.length
        · have hlt2 : j < ds.length := by have := H2.out; omega
          obtain ⟨b1, o1, A1, c1, rfl, hb1, hc1, hd1, hs1⟩ := (HA.out.ext HX.out).at_ j hlt
          obtain ⟨b2, o2, A2, c2, rfl, hb2, hc2, hd2, hs2⟩ := (HB.out.ext HX.out).at_ j hlt2
          have HS1 := hide fun (w : World) (h : Ext wr w) => (hs1.ext h).convert (P := Try.prog) (src := 22) (dst := 9) Try.underlying22 Try.underlying5 Try.underlying9
          have HS2 := hide fun (w : World) (h : Ext wr w) => (hs2.ext h).convert (P := Try.prog) (src := 22) (dst := 9) Try.underlying22 Try.underlying5 Try.underlying9
          clear hs1 hs2
          by_cases hpg : cs[j].1 = ds[j].1
          · have hpb : (cs[j].1 == ds[j].1) = true := by simp [hpg]
            have hpb' : (cs[j].1 != ds[j].1) = false := by simp [hpg]
            obtain ⟨pe, hpe⟩ : ∃ pe, (cs[j].2 == ds[j].2) = pe := ⟨_, rfl⟩
            have HPG := hide hpg
            have HPE := hide hpe
            clear hpg
            go_wp2
            refine wp_region_ext 30 2 [] mixed (by kernel_rfl) trivial ?_
            repeat ((refine seq_exact ?_ (by rfl) (by rfl) (fun w1 hU => ?_) ?_); (rotate_left 1); (focus (have hk := hU.un.cell; have hs1 := HS1.out w1 hU.un; have hs2 := HS2.out w1 hU.un; clear hU; go_simp <;> with_reducible rfl)); (simp only [Act.put, List.setIfInBounds_toArray, List.set_cons_zero, List.set_cons_succ]))
            intro w7 hw7 _
            simp only [List.drop_succ_cons, List.drop_nil]
            have HX7 := hide (HX.out.trans hw7.un)
            have HP7 := hide (HP.out.ext hw7.un)
            have HQ7 := hide (HQ.out.ext hw7.un)
            clear hw7 hpe
            cases pe
            · go_wp2
              go_ret
              exact ⟨ret_bool (by rw [ne_of_at hlt hlt2 (fun e => by have := HPE.out; rw [e] at this; simp at this), Bool.and_false]), HX7.out⟩
            · go_wp2
              go_roundw
              case rel => exact ⟨j + 1, by omega, by go_num, HP7.out, HQ7.out, HX7.out, hide (take_succ_eq hlt hlt2 HT.out (Prod.ext HPG.out (by simpa using HPE.out)))⟩
              case measure => simp [intOf]; omega
          · have hpb : (cs[j].1 == ds[j].1) = false := by simp [hpg]
            have hpb' : (cs[j].1 != ds[j].1) = true := by simp [hpg]
            have HPG := hide hpg
            clear hpg
            go_wp2
            refine wp_region_ext 30 2 [] mixed (by kernel_rfl) trivial ?_
            repeat ((refine seq_exact ?_ (by rfl) (by rfl) (fun w1 hU => ?_) ?_); (rotate_left 1); (focus (have hk := hU.un.cell; clear hU; go_simp <;> with_reducible rfl)); (simp only [Act.put, List.setIfInBounds_toArray, List.set_cons_zero, List.set_cons_succ]))
            repeat ((refine seq_skip (by rfl) ?_); (simp only [Act.put, List.setIfInBounds_toArray, List.set_cons_zero, List.set_cons_succ]))
            repeat ((refine seq_exact ?_ (by rfl) (by rfl) (fun w1 hU => ?_) ?_); (rotate_left 1); (focus (go_simp <;> with_reducible rfl)); (simp only [Act.put, List.setIfInBounds_toArray, List.set_cons_zero, List.set_cons_succ]))
            intro w7 hw7 _
            simp only [List.drop_succ_cons, List.drop_nil]
            have HX7 := hide (HX.out.trans hw7.un)
            clear hw7
            go_wp2
            go_ret
            exact ⟨ret_bool (by rw [ne_of_at hlt hlt2 (fun e => HPG.out (by rw [e])), Bool.and_false]), HX7.out⟩
        · have hjj : j = cs.length := by omega
          subst hjj
          go_wp2
          go_ret
          exact ⟨ret_bool (by simpa using (eq_of_takes H2.out HT.out)), HX.out⟩
    · have h2b : ((cs.length : Int) == (ds.length : Int)) = false := by simp; omega
      have h2c : ((cs.length : Int) != (ds.length : Int)) = true := by simp; omega
      have hne : decide (cs = ds) = false := by rw [decide_eq_false_iff_not]; intro e; exact h2 (by rw [e])
      have HN := hide hne
      clear hne h2
      go_enter Try.func21, Try.ntmps21
      go_wp2
      go_ret
      exact ⟨ret_bool (by rw [HN.out, Bool.and_false]), (Ext.alloc w _).alloc' _⟩
  · have h1b : (l1 == l2) = false := by simp [h1]
    have h1c : (l1 != l2) = true := by simp [h1]
    clear h1
    go_enter Try.func21, Try.ntmps21
    go_wp2
    go_ret
    exact ⟨ret_bool (by rw [h1b, Bool.false_and]), (Ext.alloc w _).alloc' _⟩
end Go.Proofs.Ytfcmngiekdhfpaa
