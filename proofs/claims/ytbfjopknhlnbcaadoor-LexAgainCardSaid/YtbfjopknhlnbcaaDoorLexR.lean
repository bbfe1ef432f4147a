/-
  The reference's Same.
-/
import Derived.Test.YtbfjopknhlnbcaaDoorLexQ
namespace Go.Proofs.YtbfjopknhlnbcaaDoor
open Go.RowKit
set_option linter.unusedVariables false

set_option maxRecDepth 100000 in
set_option maxHeartbeats 4000000 in
theorem same_any (A B : Option Addr) (ca cb : Nat) (l m : List Tok) (b : Bool) (w : World) (ha : Tks w A ca l) (hb : Tks w B cb m) (hl : l.length ≤ 100000) (hm : m.length ≤ 100000) : Calls Tryd.prog 12 #[.slice A l.length ca, .slice B m.length cb, .bool b] w fun e w' => e = .returned (.bool (sameL b l m)) ∧ Ext w w' := by
  have HA := hide ha
  have HB := hide hb
  clear ha hb
  by_cases hlen : l.length = m.length
  · have hlb : ((l.length : Int) == (m.length : Int)) = true := by simp [hlen]
    have hlb2 : ((l.length : Int) != (m.length : Int)) = false := by simp [hlen]
    have HLEN := hide hlen
    clear hlen
    have HBB := hide (show b = true ∨ b = false by cases b <;> simp)
    rcases HBB.out with rfl | rfl
    · clear HBB
      go_enter Tryd.func12, Tryd.ntmps12
      go_wp2_with fail
      clear hlb hlb2
      go_loopw [7] (fun vi wr => ∃ j : Nat, vi = .int .i64 (j : Int) ∧ j ≤ l.length ∧ Ext w wr ∧ Hid (sameL true l m = sameL true (l.drop j) (m.drop j))) (fun vi _ => l.length - (intOf vi).toNat)
      case atStart => exact ⟨0, rfl, Nat.zero_le _, Ext.refl _, hide rfl⟩
      case round =>
        obtain ⟨j, rfl, hj, hx, HJ⟩ := hrel
        have HX := hide hx
        clear hx
        by_cases hlt : j < l.length
        · have hltm : j < m.length := by have := HLEN.out; omega
          have hlt' : (j : Int) < l.length := by omega
          have hltm' : (j : Int) < m.length := by omega
          obtain ⟨g1, o1, rfl, hg1, p0, p1, p2, p3⟩ := (HA.out.ext HX.out).at_ j hlt
          obtain ⟨g2, o2, rfl, hg2, q0, q1, q2, q3⟩ := (HB.out.ext HX.out).at_ j hltm
          have HS := hide (HJ.out.trans (sameL_step _ hlt hltm))
          clear HJ
          generalize l[j] = x at *
          generalize m[j] = y at *
          have hc37 : Tryd.prog.cellsOf 37 = 4 := by kernel_rfl
          obtain ⟨k1, t1, v1, f1⟩ := x
          obtain ⟨k2, t2, v2, f2⟩ := y
          simp only at p0 p1 p2 p3 q0 q1 q2 q3
          cases hk : (k1 == k2) with
          | false =>
            have hkn : (k1 != k2) = true := by simp [bne, hk]
            have HR := hide (show sameL true l m = false by rw [HS.out]; simp [sameT, hk])
            clear HS
            go_wp2_with fail
            go_quiet (fail)
            go_wp2_with fail
            exact bodyPost_ret (v := .bool false) (by simp [results, Tryd.results12, go_sem]) rfl ⟨ret_bool HR.out.symm, below_drewN HX.out _⟩
          | true =>
            have hkn : (k1 != k2) = false := by simp [bne, hk]
            cases ht : (t1 == t2) with
            | false =>
              have htn : (t1 != t2) = true := by simp [bne, ht]
              have HR := hide (show sameL true l m = false by rw [HS.out]; simp [sameT, hk, ht])
              clear HS
              go_wp2_with fail
              go_quiet (fail)
              go_wp2_with fail
              exact bodyPost_ret (v := .bool false) (by simp [results, Tryd.results12, go_sem]) rfl ⟨ret_bool HR.out.symm, below_drewN HX.out _⟩
            | true =>
              have htn : (t1 != t2) = false := by simp [bne, ht]
              cases hv : (v1 == v2) with
              | false =>
                have hvn : (v1 != v2) = true := by simp [bne, hv]
                have HR := hide (show sameL true l m = false by rw [HS.out]; simp [sameT, hk, ht, hv])
                clear HS
                go_wp2_with fail
                go_quiet (fail)
                go_wp2_with fail
                exact bodyPost_ret (v := .bool false) (by simp [results, Tryd.results12, go_sem]) rfl ⟨ret_bool HR.out.symm, below_drewN HX.out _⟩
              | true =>
                have hvn : (v1 != v2) = false := by simp [bne, hv]
                cases hf : (f1 == f2) with
                | false =>
                  have hfn : (f1 != f2) = true := by simp [bne, hf]
                  have HR := hide (show sameL true l m = false by rw [HS.out]; simp [sameT, hk, ht, hv, hf])
                  clear HS
                  go_wp2_with fail
                  go_quiet (fail)
                  go_wp2_with fail
                  exact bodyPost_ret (v := .bool false) (by simp [results, Tryd.results12, go_sem]) rfl ⟨ret_bool HR.out.symm, below_drewN HX.out _⟩
                | true =>
                  have hfn : (f1 != f2) = false := by simp [bne, hf]
                  have HN := hide (show sameL true l m = sameL true (l.drop (j + 1)) (m.drop (j + 1)) by rw [HS.out]; simp [sameT, hk, ht, hv, hf])
                  clear HS
                  go_wp2_with fail
                  go_quiet (fail)
                  go_wp2_with fail
                  go_round
                  case rel => exact ⟨j + 1, by go_num, by omega, below_drewN HX.out _, HN⟩
                  case measure => simp [intOf]; omega
        · have hje : j = l.length := by omega
          have hlt' : ¬ (j : Int) < l.length := by omega
          have HR := hide (show sameL true l m = true by rw [HJ.out, List.drop_of_length_le (by omega), List.drop_of_length_le (by have := HLEN.out; omega)]; rfl)
          clear HJ
          go_wp2_with fail
          exact bodyPost_ret (v := .bool true) (by simp [results, Tryd.results12, go_sem]) rfl ⟨ret_bool HR.out.symm, HX.out⟩
    · clear HBB
      go_enter Tryd.func12, Tryd.ntmps12
      go_wp2_with fail
      clear hlb hlb2
      go_loopw [7] (fun vi wr => ∃ j : Nat, vi = .int .i64 (j : Int) ∧ j ≤ l.length ∧ Ext w wr ∧ Hid (sameL false l m = sameL false (l.drop j) (m.drop j))) (fun vi _ => l.length - (intOf vi).toNat)
      case atStart => exact ⟨0, rfl, Nat.zero_le _, Ext.refl _, hide rfl⟩
      case round =>
        obtain ⟨j, rfl, hj, hx, HJ⟩ := hrel
        have HX := hide hx
        clear hx
        by_cases hlt : j < l.length
        · have hltm : j < m.length := by have := HLEN.out; omega
          have hlt' : (j : Int) < l.length := by omega
          have hltm' : (j : Int) < m.length := by omega
          obtain ⟨g1, o1, rfl, hg1, p0, p1, p2, p3⟩ := (HA.out.ext HX.out).at_ j hlt
          obtain ⟨g2, o2, rfl, hg2, q0, q1, q2, q3⟩ := (HB.out.ext HX.out).at_ j hltm
          have HS := hide (HJ.out.trans (sameL_step _ hlt hltm))
          clear HJ
          generalize l[j] = x at *
          generalize m[j] = y at *
          have hc37 : Tryd.prog.cellsOf 37 = 4 := by kernel_rfl
          obtain ⟨k1, t1, v1, f1⟩ := x
          obtain ⟨k2, t2, v2, f2⟩ := y
          simp only at p0 p1 p2 p3 q0 q1 q2 q3
          cases hk : (k1 == k2) with
          | false =>
            have hkn : (k1 != k2) = true := by simp [bne, hk]
            have HR := hide (show sameL false l m = false by rw [HS.out]; simp [sameT, hk])
            clear HS
            go_wp2_with fail
            go_quiet (fail)
            go_wp2_with fail
            exact bodyPost_ret (v := .bool false) (by simp [results, Tryd.results12, go_sem]) rfl ⟨ret_bool HR.out.symm, below_drewN HX.out _⟩
          | true =>
            have hkn : (k1 != k2) = false := by simp [bne, hk]
            cases ht : (t1 == t2) with
            | false =>
              have htn : (t1 != t2) = true := by simp [bne, ht]
              have HR := hide (show sameL false l m = false by rw [HS.out]; simp [sameT, hk, ht])
              clear HS
              go_wp2_with fail
              go_quiet (fail)
              go_wp2_with fail
              exact bodyPost_ret (v := .bool false) (by simp [results, Tryd.results12, go_sem]) rfl ⟨ret_bool HR.out.symm, below_drewN HX.out _⟩
            | true =>
              have htn : (t1 != t2) = false := by simp [bne, ht]
              cases hv : (v1 == v2) with
              | false =>
                have hvn : (v1 != v2) = true := by simp [bne, hv]
                have HR := hide (show sameL false l m = false by rw [HS.out]; simp [sameT, hk, ht, hv])
                clear HS
                go_wp2_with fail
                go_quiet (fail)
                go_wp2_with fail
                exact bodyPost_ret (v := .bool false) (by simp [results, Tryd.results12, go_sem]) rfl ⟨ret_bool HR.out.symm, below_drewN HX.out _⟩
              | true =>
                have hvn : (v1 != v2) = false := by simp [bne, hv]
                have HN := hide (show sameL false l m = sameL false (l.drop (j + 1)) (m.drop (j + 1)) by rw [HS.out]; simp [sameT, hk, ht, hv])
                clear HS
                go_wp2_with fail
                go_quiet (fail)
                go_wp2_with fail
                go_round
                case rel => exact ⟨j + 1, by go_num, by omega, below_drewN HX.out _, HN⟩
                case measure => simp [intOf]; omega
        · have hje : j = l.length := by omega
          have hlt' : ¬ (j : Int) < l.length := by omega
          have HR := hide (show sameL false l m = true by rw [HJ.out, List.drop_of_length_le (by omega), List.drop_of_length_le (by have := HLEN.out; omega)]; rfl)
          clear HJ
          go_wp2_with fail
          exact bodyPost_ret (v := .bool true) (by simp [results, Tryd.results12, go_sem]) rfl ⟨ret_bool HR.out.symm, HX.out⟩
  · have hlb : ((l.length : Int) == (m.length : Int)) = false := by simp; omega
    have hlb2 : ((l.length : Int) != (m.length : Int)) = true := by simp; omega
    have HR := hide (sameL_len b l m hlen)
    clear hlen
    go_enter Tryd.func12, Tryd.ntmps12
    go_wp2_with fail
    exact bodyPost_ret (v := .bool false) (by simp [results, Tryd.results12, go_sem]) rfl ⟨ret_bool HR.out.symm, Ext.refl _⟩
end Go.Proofs.YtbfjopknhlnbcaaDoor
