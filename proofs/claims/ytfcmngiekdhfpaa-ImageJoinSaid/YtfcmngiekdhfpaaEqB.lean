/-
  Equal of the program, on patches.
-/
import Derived.Test.YtfcmngiekdhfpaaRefB
namespace Go.Proofs.Ytfcmngiekdhfpaa
open Go.RowKit
set_option linter.unusedVariables false

set_option maxRecDepth 100000 in
theorem eqc_any (p q : Int) (A B : Option Addr) (ca cb : Nat) (l m : List UInt8) (w : World) (ha : Sl w A ca l) (hb : Sl w B cb m) :
    Calls Try.prog 60 #[.agg #[.int .i64 p, .slice A l.length ca], .agg #[.int .i64 q, .slice B m.length cb]] w fun e w' => e = .returned (.bool (p == q && l == m)) ∧ Ext w w' := by
  have HA := hide (ha.ext ((Ext.alloc w (.cells #[.int .i64 p, .slice A l.length ca] 43)).alloc' (.cells #[.int .i64 q, .slice B m.length cb] 43)))
  have HB := hide (hb.ext ((Ext.alloc w (.cells #[.int .i64 p, .slice A l.length ca] 43)).alloc' (.cells #[.int .i64 q, .slice B m.length cb] 43)))
  clear ha hb
  by_cases h : p = q
  · have hb : (p == q) = true := by simpa using h
    subst h
    go_enter Try.func60, Try.ntmps60
    go_wp2_with (go_at_call 48; refine (equal_any _ _ _ _ _ _ _ HA.out HB.out).mono ?_; rintro e w' ⟨rfl, rfl⟩)
    go_ret
    exact ⟨ret_bool (by rw [hb, Bool.true_and]), (Ext.alloc w _).alloc' _⟩
  · have hb : (p == q) = false := by simpa using h
    clear h
    go_enter Try.func60, Try.ntmps60
    go_wp2_with fail
    go_ret
    exact ⟨ret_bool (by rw [hb, Bool.false_and]), (Ext.alloc w _).alloc' _⟩
theorem take_succ_ne {l m : List Chg} {j : Nat} (hl : j < l.length) (hm : j < m.length) (h : (l[j].1 == m[j].1 && l[j].2 == m[j].2) = false) : decide (l = m) = false := by
  refine ne_of_at hl hm fun e => ?_
  rw [e] at h
  simp at h
theorem take_succ_eq2 {l m : List Chg} {j : Nat} (hl : j < l.length) (hm : j < m.length) (ht : l.take j = m.take j) (h : (l[j].1 == m[j].1 && l[j].2 == m[j].2) = true) : l.take (j + 1) = m.take (j + 1) := by
  refine take_succ_eq hl hm ht ?_
  simp only [Bool.and_eq_true, beq_iff_eq] at h
  exact Prod.ext h.1 h.2

set_option maxRecDepth 100000 in
set_option maxHeartbeats 1000000 in
theorem eqfunc_any (A B : Option Addr) (ca cb : Nat) (cs ds : List Chg) (w : World) (ha : Chs w A ca cs) (hb : Chs w B cb ds) (hl1 : cs.length ≤ 65536) (hl2 : ds.length ≤ 65536) :
    Calls Try.prog 59 #[.slice A cs.length ca, .slice B ds.length cb, .func (.func 60) #[] #[]] w fun e w' => e = .returned (.bool (decide (cs = ds))) ∧ Ext w w' := by
  have HA := hide ha
  have HB := hide hb
  clear ha hb
  by_cases h2 : cs.length = ds.length
  · have h2b : ((cs.length : Int) == (ds.length : Int)) = true := by simp [h2]
    have h2c : ((cs.length : Int) != (ds.length : Int)) = false := by simp [h2]
    have H2 := hide h2
    clear h2
    go_enter Try.func59, Try.ntmps59
    go_wp2_with fail
    go_loopw [17] (fun i wr => ∃ j : Nat, j ≤ cs.length ∧ i = .int .i64 j ∧ Ext w wr ∧ Hid (cs.take j = ds.take j)) (fun i _ => cs.length - (intOf i).toNat)
    case atStart => exact ⟨0, Nat.zero_le _, rfl, Ext.refl w, hide (by simp)⟩
    case round =>
      obtain ⟨j, hj, rfl, hx, HT⟩ := hrel
      have HX := hide hx
      clear hx h2b h2c
      by_cases hlt : j < cs.length
      · have hlt2 : j < ds.length := by have := H2.out; omega
        obtain ⟨b1, o1, A1, c1, rfl, hb1, hc1, hd1, hs1⟩ := (HA.out.ext HX.out).at_ j hlt
        obtain ⟨b2, o2, A2, c2, rfl, hb2, hc2, hd2, hs2⟩ := (HB.out.ext HX.out).at_ j hlt2
        have hx2 : Ext wr ((wr.alloc (.cells #[.int .i64 cs[j].1, .slice A1 cs[j].2.length c1] 43)).alloc (.cells #[.int .i64 ds[j].1, .slice A2 ds[j].2.length c2] 43)) := (Ext.alloc wr _).alloc' _
        have HS1 := hide (hs1.ext hx2)
        have HS2 := hide (hs2.ext hx2)
        have HX2 := hide (HX.out.trans hx2)
        clear hs1 hs2 hx2
        obtain ⟨pe, hpe⟩ : ∃ pe, (cs[j].1 == ds[j].1 && cs[j].2 == ds[j].2) = pe := ⟨_, rfl⟩
        have HPE := hide hpe
        clear hpe
        cases pe
        · go_wp2_with (go_at_call 60; refine (eqc_any _ _ _ _ _ _ _ _ _ HS1.out HS2.out).mono ?_; rw [HPE.out]; rintro e w1 ⟨rfl, hE⟩; have HE := hide hE; clear hE)
          go_ret
          exact ⟨ret_bool (take_succ_ne hlt hlt2 HPE.out).symm, HX2.out.trans HE.out⟩
        · go_wp2_with (go_at_call 60; refine (eqc_any _ _ _ _ _ _ _ _ _ HS1.out HS2.out).mono ?_; rw [HPE.out]; rintro e w1 ⟨rfl, hE⟩; have HE := hide hE; clear hE)
          go_roundw
          case rel => exact ⟨j + 1, by omega, by go_num, HX2.out.trans HE.out, hide (take_succ_eq2 hlt hlt2 HT.out HPE.out)⟩
          case measure => simp [intOf]; omega
      · have hjj : j = cs.length := by omega
        subst hjj
        go_wp2_with fail
        go_ret
        exact ⟨ret_bool (by simpa using (eq_of_takes H2.out HT.out)), HX.out⟩
  · have h2b : ((cs.length : Int) == (ds.length : Int)) = false := by simp; omega
    have h2c : ((cs.length : Int) != (ds.length : Int)) = true := by simp; omega
    have hne : decide (cs = ds) = false := by rw [decide_eq_false_iff_not]; intro e; exact h2 (by rw [e])
    have HN := hide hne
    clear hne h2
    go_enter Try.func59, Try.ntmps59
    go_wp2_with fail
    go_ret
    exact ⟨ret_bool HN.out.symm, Ext.refl w⟩

set_option maxRecDepth 100000 in
theorem pequal_any (l1 l2 : Int) (A B : Option Addr) (ca cb : Nat) (cs ds : List Chg) (w : World) (ha : Chs w A ca cs) (hb : Chs w B cb ds) (hl1 : cs.length ≤ 65536) (hl2 : ds.length ≤ 65536) :
    Calls Try.prog 43 #[.agg #[.int .i64 l1, .slice A cs.length ca], .agg #[.int .i64 l2, .slice B ds.length cb]] w fun e w' => e = .returned (.bool (l1 == l2 && decide (cs = ds))) ∧ Ext w w' := by
  have hx : Ext w ((w.alloc (.cells #[.int .i64 l1, .slice A cs.length ca] 29)).alloc (.cells #[.int .i64 l2, .slice B ds.length cb] 29)) := (Ext.alloc w _).alloc' _
  have HA := hide (ha.ext hx)
  have HB := hide (hb.ext hx)
  have HX := hide hx
  clear ha hb hx
  by_cases h : l1 = l2
  · have hb : (l1 == l2) = true := by simpa using h
    subst h
    go_enter Try.func43, Try.ntmps43
    go_wp2_with (go_at_call 59; refine (eqfunc_any _ _ _ _ _ _ _ HA.out HB.out hl1 hl2).mono ?_; rintro e w' ⟨rfl, hE⟩; have HE := hide hE; clear hE)
    go_ret
    exact ⟨ret_bool (by rw [hb, Bool.true_and]), HX.out.trans HE.out⟩
  · have hb : (l1 == l2) = false := by simpa using h
    clear h
    go_enter Try.func43, Try.ntmps43
    go_wp2_with fail
    go_ret
    exact ⟨ret_bool (by rw [hb, Bool.false_and]), HX.out⟩
end Go.Proofs.Ytfcmngiekdhfpaa
