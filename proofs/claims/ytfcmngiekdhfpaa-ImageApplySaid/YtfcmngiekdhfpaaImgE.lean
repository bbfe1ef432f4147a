/-
  Valid of the program, and what it asks of a patch.
-/
import Derived.Test.YtfcmngiekdhfpaaLawC
namespace Go.Proofs.Ytfcmngiekdhfpaa
open Go.RowKit
set_option linter.unusedVariables false

def fd (cs : List Chg) (k : Int) : List UInt8 := match cs with
  | [] => []
  | c :: l => if c.1 = k then c.2 else fd l k
def fb (cs : List Chg) (k : Int) : Bool := match cs with
  | [] => false
  | c :: l => if c.1 = k then true else fb l k
def ordOk (len last : Int) (cs : List Chg) : Bool := match cs with
  | [] => true
  | c :: l => if c.1 ≤ last ∨ cnt len ≤ c.1 ∨ (c.2.length : Int) ≠ szI len c.1 then false else ordOk len c.1 l
def covTo (len n : Int) (cs : List Chg) : Nat → Bool
  | 0 => true
  | k + 1 => covTo len n cs k && (fb cs k || szI n k == szI len k)
def lenOk (len n : Int) : Bool := !(decide (n < 0) || decide (len < 0) || decide (24000 < len))
def validP (len : Int) (cs : List Chg) (n : Int) : Bool := lenOk len n && (ordOk len (-1) cs && covTo len n cs (cnt len).toNat)

/-- Facts on the changes of a slice, by their number. -/
theorem drop_at (cs : List Chg) (j : Nat) (h : j < cs.length) : cs.drop j = cs[j] :: cs.drop (j + 1) := List.drop_eq_getElem_cons h

set_option maxRecDepth 100000 in
set_option maxHeartbeats 1000000 in
theorem find_old (len k : Int) (A : Option Addr) (cap : Nat) (cs : List Chg) (w0 w : World) (hc : Chs w0 A cap cs) (he : Ext w0 w) (hl : cs.length ≤ 65536) :
    Calls Try.prog 49 #[.agg #[.int .i64 len, .slice A cs.length cap], .int .i64 k] w fun e w' => ∃ D c, e = .returned (.tuple #[.slice D (fd cs k).length c, .bool (fb cs k)]) ∧ Sl w0 D c (fd cs k) ∧ Ext w w' := by
  have HC := hide hc
  have HE := hide he
  clear hc he
  go_enter Try.func49, Try.ntmps49
  go_wp2
  go_loopw [11] (fun i wr => ∃ j : Nat, j ≤ cs.length ∧ i = .int .i64 j ∧ Ext w wr ∧ w.heap.size < wr.heap.size ∧ Hid (fd cs k = fd (cs.drop j) k ∧ fb cs k = fb (cs.drop j) k)) (fun i _ => cs.length - (intOf i).toNat)
  case atStart => exact ⟨0, Nat.zero_le _, rfl, Ext.alloc w _, by simp, hide ⟨rfl, rfl⟩⟩
  case round =>
    obtain ⟨j, hj, rfl, hx, hz, HT⟩ := hrel
    have HX := hide hx
    by_cases hlt : j < cs.length
    · obtain ⟨b1, o1, A1, c1, rfl, hb1, hc1', hd1', hs1⟩ := HC.out.at_ j hlt
      have hc1 := ((HE.out.trans hx).cell b1 _ hb1).trans hc1'
      have hd1 := ((HE.out.trans hx).cell b1 _ hb1).trans hd1'
      have hb2 : b1 < wr.heap.size := Nat.lt_of_lt_of_le hb1 (HE.out.trans hx).size
      clear hc1' hd1'
      have HS := hide hs1
      have hdr := drop_at cs j hlt
      have HDR := hide hdr
      clear hs1 hx hdr
      by_cases hpg : cs[j].1 = k
      · have hpb : (cs[j].1 == k) = true := by simp [hpg]
        have HPG := hide hpg
        clear hpg
        go_wp2
        go_ret2
        have h1 : fd cs k = cs[j].2 := by rw [HT.out.1, HDR.out]; simp only [fd]; rw [if_pos HPG.out]
        have h2 : fb cs k = true := by rw [HT.out.2, HDR.out]; simp only [fb]; rw [if_pos HPG.out]
        rw [h1, h2]
        exact ⟨A1, c1, rfl, HS.out, HX.out.alloc' _⟩
      · have hpb : (cs[j].1 == k) = false := by simp [hpg]
        have HPG := hide hpg
        clear hpg
        go_wp2
        go_roundw
        case rel =>
          refine ⟨j + 1, by omega, by go_num, HX.out.alloc' _, by simp; omega, hide ⟨?_, ?_⟩⟩
          · rw [HT.out.1, HDR.out]; simp only [fd]; rw [if_neg HPG.out]
          · rw [HT.out.2, HDR.out]; simp only [fb]; rw [if_neg HPG.out]
        case measure => simp [intOf]; omega
    · have hjj : j = cs.length := by omega
      subst hjj
      go_wp2
      go_ret2
      have h1 : fd cs k = [] := by rw [HT.out.1, List.drop_length]; rfl
      have h2 : fb cs k = false := by rw [HT.out.2, List.drop_length]; rfl
      rw [h1, h2]
      exact ⟨none, 0, rfl, Sl.none_ _, HX.out⟩
theorem find_any (len k : Int) (A : Option Addr) (cap : Nat) (cs : List Chg) (w : World) (hc : Chs w A cap cs) (hl : cs.length ≤ 65536) :
    Calls Try.prog 49 #[.agg #[.int .i64 len, .slice A cs.length cap], .int .i64 k] w fun e w' => ∃ D c, e = .returned (.tuple #[.slice D (fd cs k).length c, .bool (fb cs k)]) ∧ Sl w' D c (fd cs k) ∧ Ext w w' := by
  refine (find_old len k A cap cs w w hc (Ext.refl w) hl).mono ?_
  rintro e w' ⟨D, c, h1, h2, h3⟩
  exact ⟨D, c, h1, h2.ext h3, h3⟩

/-- Find of the reference: the number of the change, or -1. -/
def fi (cs : List Chg) (k : Int) : Int := match cs with
  | [] => -1
  | c :: l => if c.1 = k then 0 else (if fi l k < 0 then -1 else fi l k + 1)
theorem fi_ge (cs : List Chg) (k : Int) : -1 ≤ fi cs k ∧ fi cs k < cs.length := by
  induction cs with
  | nil => simp [fi]
  | cons c l ih =>
    simp only [fi, List.length_cons]
    split
    · omega
    · split <;> omega
theorem fi_fb (cs : List Chg) (k : Int) : (fi cs k < 0) = (fb cs k = false) := by
  induction cs with
  | nil => simp [fi, fb]
  | cons c l ih =>
    simp only [fi, fb]
    split
    · simp
    · rw [← ih]; split <;> (simp; try omega)
theorem fi_fd (cs : List Chg) (k : Int) (h : 0 ≤ fi cs k) : ∃ c, cs[(fi cs k).toNat]? = some c ∧ c.2 = fd cs k := by
  induction cs with
  | nil => simp [fi] at h
  | cons c l ih =>
    by_cases hk : c.1 = k
    · have e : fi (c :: l) k = 0 := by simp only [fi]; rw [if_pos hk]
      rw [e]
      exact ⟨c, rfl, by simp only [fd]; rw [if_pos hk]⟩
    · have e : fi (c :: l) k = if fi l k < 0 then -1 else fi l k + 1 := by simp only [fi]; rw [if_neg hk]
      have e2 : fd (c :: l) k = fd l k := by simp only [fd]; rw [if_neg hk]
      rw [e] at h ⊢
      rw [e2]
      by_cases hn : fi l k < 0
      · rw [if_pos hn] at h; omega
      · rw [if_neg hn]
        obtain ⟨c', h1, h2⟩ := ih (by omega)
        refine ⟨c', ?_, h2⟩
        rw [show (fi l k + 1).toNat = (fi l k).toNat + 1 from by omega, List.getElem?_cons_succ]
        exact h1
/-- Find, by what is left from number j on. -/
theorem fi_drop_hit (cs : List Chg) (k : Int) (j : Nat) (h : j < cs.length) (hn : fb (cs.take j) k = false) (hk : cs[j].1 = k) : fi cs k = j := by
  induction cs generalizing j with
  | nil => simp at h
  | cons c l ih =>
    cases j with
    | zero => simp only [fi]; rw [if_pos (by simpa using hk)]; rfl
    | succ j =>
      simp only [List.take_succ_cons, fb] at hn
      split at hn
      · cases hn
      · rename_i hc
        have := ih j (by simpa using h) hn (by simpa using hk)
        simp only [fi]
        rw [if_neg hc, this, if_neg (by omega)]
        omega
theorem fb_take (cs : List Chg) (k : Int) (j : Nat) (h : j < cs.length) : fb (cs.take (j + 1)) k = (fb (cs.take j) k || decide (cs[j].1 = k)) := by
  induction cs generalizing j with
  | nil => simp at h
  | cons c l ih =>
    cases j with
    | zero => simp only [List.take_succ_cons, List.take_zero, fb]; by_cases hc : c.1 = k <;> simp [hc]
    | succ j =>
      simp only [List.take_succ_cons, fb]
      by_cases hc : c.1 = k
      · simp [hc]
      · rw [if_neg hc, if_neg hc]
        simpa using ih j (by simpa using h)
theorem fi_none (cs : List Chg) (k : Int) (h : fb cs k = false) : fi cs k = -1 := by
  have h1 := fi_fb cs k
  have h2 := (fi_ge cs k).1
  rw [h] at h1
  simp at h1
  omega

set_option maxRecDepth 100000 in
set_option maxHeartbeats 1000000 in
theorem rfind_any (k : Int) (A : Option Addr) (cap : Nat) (cs : List Chg) (w : World) (hc : Chs w A cap cs) (hl : cs.length ≤ 65536) :
    Calls Try.prog 58 #[.slice A cs.length cap, .int .i64 k] w fun e w' => e = .returned (.int .i64 (fi cs k)) ∧ w = w' := by
  have HC := hide hc
  clear hc
  go_enter Try.func58, Try.ntmps58
  go_wp2
  go_loop [5] (fun i => ∃ j : Nat, j ≤ cs.length ∧ i = .int .i64 j ∧ Hid (fb (cs.take j) k = false)) (fun i => cs.length - (intOf i).toNat)
  case atStart => exact ⟨0, Nat.zero_le _, rfl, hide (by simp [fb])⟩
  case round =>
    obtain ⟨j, hj, rfl, HT⟩ := hrel
    by_cases hlt : j < cs.length
    · obtain ⟨b1, o1, A1, c1, rfl, hb1, hc1, _, _⟩ := HC.out.at_ j hlt
      by_cases hpg : cs[j].1 = k
      · have hpb : (cs[j].1 == k) = true := by simp [hpg]
        have HPG := hide hpg
        clear hpg
        go_wp2
        go_ret
        exact ⟨ret_int (fi_drop_hit cs k j hlt HT.out HPG.out).symm, rfl⟩
      · have hpb : (cs[j].1 == k) = false := by simp [hpg]
        have HPG := hide hpg
        clear hpg
        go_wp2
        go_round
        case rel => exact ⟨j + 1, by omega, by go_num, hide (by rw [fb_take cs k j hlt, HT.out]; simp [HPG.out])⟩
        case measure => simp [intOf]; omega
    · have hjj : j = cs.length := by omega
      subst hjj
      go_wp2
      go_ret
      exact ⟨ret_int (fi_none cs k (by have := HT.out; rw [List.take_length] at this; exact this)).symm, rfl⟩
end Go.Proofs.Ytfcmngiekdhfpaa
