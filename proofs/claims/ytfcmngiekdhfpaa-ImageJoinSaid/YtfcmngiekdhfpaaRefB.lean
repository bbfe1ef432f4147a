/-
  Few of the reference; Apply of the reference.
-/
import Derived.Test.YtfcmngiekdhfpaaRefA
import Derived.Test.YtfcmngiekdhfpaaPlainC
namespace Go.Proofs.Ytfcmngiekdhfpaa
open Go.RowKit
set_option linter.unusedVariables false

theorem OwnCh.base_le {w : World} {base base' : Nat} {e : TypeId} {v : Value} {cs : List Chg} (h : OwnCh w base e v cs) (hb : base' ≤ base) : OwnCh w base' e v cs := by
  obtain ⟨xs, ⟨h1, h2⟩, h3⟩ := h
  refine ⟨xs, ⟨h1, h2.imp id fun ⟨g, cap, cur, a, b, c⟩ => ⟨g, cap, cur, a, by omega, c⟩⟩, fun i hi => ?_⟩
  obtain ⟨u, x, a, b, c, A, cap, d, f, g⟩ := h3 i hi
  exact ⟨u, x, a, b, c, A, cap, d, f, g.imp id fun g a ha => ⟨by have := (g a ha).1; omega, (g a ha).2⟩⟩
def fewD (cs : List Chg) : Bool := cs.all fun c => decide (c.2.length ≤ 300)
def fewP (len : Int) (cs : List Chg) : Bool := fewD cs && (decide (len ≤ 2000) && decide (cs.length ≤ 20))
theorem fewD_bad {cs : List Chg} {j : Nat} (h : j < cs.length) (hb : 300 < cs[j].2.length) : fewD cs = false := by
  unfold fewD
  rw [List.all_eq_false]
  exact ⟨cs[j], List.getElem_mem h, by simp; omega⟩
theorem fewD_step {cs : List Chg} {j : Nat} (h : j < cs.length) (ht : fewD (cs.take j) = true) (hb : cs[j].2.length ≤ 300) : fewD (cs.take (j + 1)) = true := by
  unfold fewD at ht ⊢
  rw [List.take_succ_eq_append_getElem h, List.all_append, ht]
  simp [hb]
theorem fewP_parts {len : Int} {cs : List Chg} (h : fewP len cs = true) : (∀ c ∈ cs, c.2.length ≤ 300) ∧ len ≤ 2000 ∧ cs.length ≤ 20 := by
  unfold fewP fewD at h
  simp only [Bool.and_eq_true, List.all_eq_true, decide_eq_true_eq] at h
  exact ⟨h.1, h.2.1, h.2.2⟩

set_option maxRecDepth 100000 in
set_option maxHeartbeats 1000000 in
theorem few_any (len : Int) (A : Option Addr) (cap : Nat) (cs : List Chg) (w : World) (hc : Chs w A cap cs) :
    Calls Try.prog 37 #[.agg #[.int .i64 len, .slice A cs.length cap]] w fun e w' => e = .returned (.bool (fewP len cs)) ∧ Ext w w' := by
  have HC := hide hc
  have hmx := hc.max
  have hle := hc.le
  unfold maxLen at hmx
  clear hc
  go_enter Try.func37, Try.ntmps37
  go_wp2
  go_loopw [3] (fun i wr => ∃ j : Nat, j ≤ cs.length ∧ i = .int .i64 j ∧ Blk wr w.heap.size 35 #[.int .i64 len, .slice A cs.length cap] ∧ Ext w wr ∧ Hid (fewD (cs.take j) = true)) (fun i _ => cs.length - (intOf i).toNat)
  case atStart => exact ⟨0, Nat.zero_le _, rfl, Blk.new w _ _, Ext.alloc w _, hide (by simp [fewD])⟩
  case round =>
    obtain ⟨j, hj, rfl, hp, hx, HT⟩ := hrel
    have hpc := hp.cell
    have HP := hide hp
    have HX := hide hx
    clear hp
    by_cases hlt : j < cs.length
    · obtain ⟨b1, o1, A1, c1, rfl, hb1, hc1, hd1, hs1⟩ := (HC.out.ext hx).at_ j hlt
      clear hs1 hx
      by_cases hq : 300 < cs[j].2.length
      · have hq' : (300 : Int) < cs[j].2.length := by omega
        have HQ := hide (fewD_bad hlt hq)
        go_wp2_with fail
        go_ret
        exact ⟨ret_bool (by unfold fewP; rw [HQ.out]; rfl), HX.out⟩
      · have hq' : ¬ (300 : Int) < cs[j].2.length := by omega
        have HQ := hide (fewD_step hlt HT.out (by omega))
        go_wp2_with fail
        go_roundw
        case rel => exact ⟨j + 1, by omega, by go_num, HP.out, HX.out, HQ.out |> hide⟩
        case measure => simp [intOf]; omega
    · have hjj : j = cs.length := by omega
      subst hjj
      have HT2 := hide (show fewD cs = true by have := HT.out; rwa [List.take_length] at this)
      clear hx
      by_cases h1 : len ≤ 2000
      · by_cases h2 : cs.length ≤ 20
        · have h2' : (cs.length : Int) ≤ 20 := by omega
          have HF := hide (show fewP len cs = true by unfold fewP; rw [HT2.out]; simp [h1, h2])
          go_wp2_with fail
          go_ret
          exact ⟨ret_bool HF.out.symm, HX.out⟩
        · have h2' : ¬ (cs.length : Int) ≤ 20 := by omega
          have HF := hide (show fewP len cs = false by unfold fewP; rw [HT2.out]; simp [h1, h2])
          go_wp2_with fail
          go_ret
          exact ⟨ret_bool HF.out.symm, HX.out⟩
      · have HF := hide (show fewP len cs = false by unfold fewP; rw [HT2.out]; simp [h1])
        go_wp2_with fail
        go_ret
        exact ⟨ret_bool HF.out.symm, HX.out⟩

theorem fd_small {cs : List Chg} {k : Int} {m : Nat} (h : ∀ c ∈ cs, c.2.length ≤ m) : (fd cs k).length ≤ m := by
  induction cs with
  | nil => simp [fd]
  | cons c l ih =>
    simp only [fd]
    split
    · exact h c (List.mem_cons_self ..)
    · exact ih fun d hd => h d (List.mem_cons_of_mem _ hd)
theorem catTo_small {a : List UInt8} {cs : List Chg} {m : Nat} (h : ∀ c ∈ cs, c.2.length ≤ m) (hm : 128 ≤ m) : ∀ k, (catTo a cs k).length ≤ k * m
  | 0 => by simp [catTo]
  | k + 1 => by
    have := catTo_small (a := a) h hm k
    simp only [catTo, List.length_append]
    rw [Nat.add_mul]
    split
    · have := fd_small (k := (k : Int)) h; omega
    · have := pageL_length a k; omega
set_option maxRecDepth 100000 in
set_option maxHeartbeats 1000000 in
theorem rapply_good (len : Nat) (A : Option Addr) (ca : Nat) (a : List UInt8) (C : Option Addr) (cap : Nat) (cs : List Chg) (w : World) (ha : Sl w A ca a) (hla : a.length ≤ 65536) (hc : Chs w C cap cs) (hl : cs.length ≤ 65536) (hd : ∀ c ∈ cs, c.2.length ≤ 65536) (hv : validP len cs a.length = true) :
    Calls Try.prog 41 #[.slice A a.length ca, .agg #[.int .i64 len, .slice C cs.length cap]] w fun e w' => ∃ B c', e = .returned (.tuple #[.slice B (applied a len cs).length c', .int .i64 0]) ∧ Own w' w.heap.size 5 (.slice B (applied a len cs).length c') (applied a len cs) ∧ Ext w w' := by
  obtain ⟨h1, h2, h3, h4, h5⟩ := validP_parts hv
  have HV := hide hv
  have HA := hide ha
  have HC := hide hc
  have HD := hide hd
  have HALL := hide (catTo_all hv)
  have HS := hide (fun k => catTo_small (a := a) (m := 65536) hd (by omega) k)
  have HCN := hide (cntN_cast len)
  have hcl := cntN_le len
  clear ha hc hd hv h1 h4 h5
  go_enter Try.func41, Try.ntmps41
  go_wp2_with (first
    | (go_at_call 42; refine (rvalid3_any _ _ _ _ _ _ (HC.out.ext (Ext.alloc w _)) hl HD.out (by omega)).mono ?_; rw [HV.out]; rintro e w1 ⟨rfl, hE1⟩; have HBP := hide ((Blk.new w 35 #[.int .i64 len, .slice C cs.length cap]).ext hE1); have HE1 := hide ((Ext.alloc w _).trans hE1); clear hE1)
    | fail)
  go_loopw [6, 7] (fun v i wr => ∃ (j : Nat) (B : Option Addr) (c' : Nat) (l : List UInt8), j ≤ cntN len ∧ i = .int .i64 j ∧ v = .slice B l.length c' ∧ Own wr (w.heap.size + 1) 5 (.slice B l.length c') l ∧
      Blk wr w.heap.size 35 #[.int .i64 len, .slice C cs.length cap] ∧ Ext w wr ∧ Hid (l = catTo a cs j)) (fun _ i _ => cntN len - (intOf i).toNat)
  case atStart => exact ⟨0, none, 0, [], Nat.zero_le _, rfl, rfl, Own.nil_ w1 _ 5, HBP.out, HE1.out, hide rfl⟩
  case round =>
    obtain ⟨j, B, c', l, hj, rfl, rfl, hown, hbp, hx, HL⟩ := hrel
    have hbc := hbp.cell
    have hzb := hbp.lt
    have HO := hide hown
    have HX := hide hx
    have HB := hide hbp
    have HCR := hide (HC.out.ext hx)
    have hll : l.length ≤ j * 65536 := by rw [HL.out]; exact HS.out j
    clear hown hx hbp HE1
    have HCC := hide (show cnt len = (cntN len : Int) from HCN.out)
    by_cases hjl : j < cntN len
    · have hjc : (j : Int) < cnt len := by rw [HCN.out]; omega
      obtain ⟨f, hf⟩ : ∃ f, fi cs j = f := ⟨_, rfl⟩
      have hfb := fi_fb cs j
      have hfd := fi_fd cs j
      have hge := fi_ge cs j
      rw [hf] at hfb hfd hge
      have HF := hide hf
      obtain ⟨g1, g2⟩ := hge
      by_cases h0 : 0 ≤ f
      · obtain ⟨i, rfl⟩ := Int.eq_ofNat_of_zero_le h0
        obtain ⟨c, hc1, hc2⟩ := hfd h0
        have hil : i < cs.length := by omega
        have hce : cs[i] = c := by
          rw [Int.toNat_natCast, List.getElem?_eq_getElem hil] at hc1
          exact Option.some.inj hc1
        have HN := hide (show l ++ cs[i].2 = catTo a cs (j + 1) by
          simp only [catTo]
          rw [← HL.out, hce, hc2, if_pos]
          cases hb : fb cs (j : Int) with
          | true => rfl
          | false => rw [hb] at hfb; exact absurd (show (i : Int) < 0 by rw [hfb]) (by omega))
        obtain ⟨b1, o1, A1, c1, rfl, hb1, he1, he2, hs1⟩ := HCR.out.at_ i hil
        have hsz := HD.out cs[i] (List.getElem_mem hil)
        have HS1 := hide hs1
        clear hf hfb hfd hc1 hc2 hce hs1 h0
        go_wp2_with (first
          | (go_at_call 17; refine (rcount_any _ _ (by omega)).mono ?_; rintro e w' ⟨rfl, rfl⟩)
          | (go_at_call 58; refine (rfind_any _ _ _ _ _ HCR.out hl).mono ?_; rw [HF.out]; rintro e w' ⟨rfl, rfl⟩)
          | (at_builtin; refine wpList_appendB bt rfl _ _ rfl (w.heap.size + 1) (.slice B l.length c') l rfl HO.out A1 c1 cs[i].2 rfl HS1.out (by omega) (by omega) ?_; intro A3 c3 w3 ho3 hg3 _; have HO3 := hide ho3; have HG3 := hide hg3; clear ho3 hg3))
        go_roundw
        case rel =>
          have hrow := fun k hk => (World.ownsRow.lt HO.out k hk).1
          have hx3 := HX.out.grown HG3.out (fun k hk => by have := hrow k hk; omega)
          have hb3 := HB.out.grown HG3.out (fun e => by have := hrow _ e.symm; omega)
          refine ⟨j + 1, A3, c3, l ++ cs[i].2, by omega, by go_num, by rw [List.length_append], ?_, hb3, hx3, hide HN.out⟩
          rw [List.length_append]
          exact HO3.out
        case measure => simp [intOf]; omega
      · have HN := hide (show l ++ pageL a j = catTo a cs (j + 1) by
          simp only [catTo]
          rw [← HL.out, if_neg]
          intro hb
          rw [hb] at hfb
          have : f < 0 := by omega
          rw [hfb] at this
          cases this)
        have h0' : f < 0 := by omega
        have HA2 := hide (HA.out.ext HX.out)
        have hpl : (pageL a j).length ≤ 128 := by rw [pageL_length]; omega
        clear hf hfb hfd h0
        go_wp2_with (first
          | (go_at_call 17; refine (rcount_any _ _ (by omega)).mono ?_; rintro e w' ⟨rfl, rfl⟩)
          | (go_at_call 58; refine (rfind_any _ _ _ _ _ HCR.out hl).mono ?_; rw [HF.out]; rintro e w' ⟨rfl, rfl⟩)
          | (go_at_call 18; refine (rpage_any _ _ _ _ _ HA2.out (by omega)).mono ?_; rw [pageI_nat]; rintro e w2 ⟨A2, c2, rfl, hq, hq2⟩; have HQ := hide hq.sl.2; have HO2 := hide (HO.out.ext hq2); have HX2 := hide (HX.out.trans hq2); have HB2 := hide (HB.out.ext hq2); have hz2 := hq2.size; clear hq hq2)
          | (at_builtin; refine wpList_appendB bt rfl _ _ rfl (w.heap.size + 1) (.slice B l.length c') l rfl HO2.out A2 c2 (pageL a j) rfl HQ.out (by omega) (by omega) ?_; intro A3 c3 w3 ho3 hg3 _; have HO3 := hide ho3; have HG3 := hide hg3; clear ho3 hg3))
        go_roundw
        case rel =>
          have hrow := fun k hk => (World.ownsRow.lt HO2.out k hk).1
          have hx3 := HX2.out.grown HG3.out (fun k hk => by have := hrow k hk; omega)
          have hb3 := HB2.out.grown HG3.out (fun e => by have := hrow _ e.symm; omega)
          refine ⟨j + 1, A3, c3, l ++ pageL a j, by omega, by go_num, by rw [List.length_append], ?_, hb3, hx3, hide HN.out⟩
          rw [List.length_append]
          exact HO3.out
        case measure => simp [intOf]; omega
    · have hjc : ¬ (j : Int) < cnt len := by rw [HCN.out]; omega
      have hlb : l = applied a len cs := by rw [HL.out, ← HALL.out]; congr 1; omega
      subst hlb
      go_wp2_with (go_at_call 17; refine (rcount_any _ _ (by omega)).mono ?_; rintro e w' ⟨rfl, rfl⟩)
      go_ret2
      exact ⟨_, _, rfl, HO.out.base_le (by omega), HX.out⟩
theorem rapply_bad (len : Int) (A : Option Addr) (ca : Nat) (a : List UInt8) (C : Option Addr) (cap : Nat) (cs : List Chg) (w : World) (ha : Sl w A ca a) (hc : Chs w C cap cs) (hl : cs.length ≤ 65536) (hd : ∀ c ∈ cs, c.2.length ≤ 65536) (hv : validP len cs a.length = false) :
    Calls Try.prog 41 #[.slice A a.length ca, .agg #[.int .i64 len, .slice C cs.length cap]] w fun e w' => e = .returned (.tuple #[.slice none 0 0, .int .i64 1]) ∧ Ext w w' := by
  have HV := hide hv
  have HC := hide hc
  have HD := hide hd
  have hma := ha.max
  have hla := ha.le
  unfold maxLen at hma
  clear ha hc hd hv
  go_enter Try.func41, Try.ntmps41
  go_wp2_with (first
    | (go_at_call 42; refine (rvalid3_any _ _ _ _ _ _ (HC.out.ext (Ext.alloc w _)) hl HD.out (by omega)).mono ?_; rw [HV.out]; rintro e w1 ⟨rfl, hE1⟩; have HE1 := hide ((Ext.alloc w _).trans hE1); clear hE1)
    | fail)
  go_ret2
  exact ⟨rfl, HE1.out⟩
end Go.Proofs.Ytfcmngiekdhfpaa
