/-
  LexStrings.
-/
import Derived.Test.YtbfjopknhlnbcaaDoorLexZd
namespace Go.Proofs.YtbfjopknhlnbcaaDoor
open Go.RowKit
set_option linter.unusedVariables false

theorem okC_iff (c : UInt8) : okC c = (decide (32 ≤ (c.toNat : Int)) && decide ((c.toNat : Int) ≤ 126) || (c.toNat : Int) == 10 || (c.toNat : Int) == 9 || (c.toNat : Int) == 0) := by
  have h10 := u8_eqI c 10 (by omega)
  have h9 := u8_eqI c 9 (by omega)
  have h0 := u8_eqI c 0 (by omega)
  have e10 : (((10 : Nat) : Int)) = 10 := rfl
  have e9 : (((9 : Nat) : Int)) = 9 := rfl
  have e0 : (((0 : Nat) : Int)) = 0 := rfl
  rw [e10] at h10
  rw [e9] at h9
  rw [e0] at h0
  rw [h10, h9, h0]
  unfold okC
  congr 3
  rw [Bool.eq_iff_iff]
  simp only [decide_eq_true_eq, Bool.and_eq_true]
  omega
set_option maxRecDepth 100000 in
set_option maxHeartbeats 4000000 in
theorem lexstrings_any (l : List UInt8) (w : World) (hz : EZ w) : Calls Tryd.prog 7 #[.string (str l)] w fun e w' => e = .returned (.bool true) ∧ Ext w w' := by
  have hsz : (str l).size = l.length := str_size l
  have HZ := hide hz
  clear hz
  by_cases hbig : 128 < l.length
  · have hbig' : (128 : Int) < l.length := by omega
    go_enter Tryd.func7, Tryd.ntmps7
    go_wp2_with (first
      | (go_at_call 9; refine (awake47_any _ HZ.out).mono ?_; rintro e w1 ⟨rfl, hE1⟩; have HE1 := hide hE1; clear hE1))
    go_ret
    exact ⟨rfl, HE1.out⟩
  · have hbig' : ¬ (128 : Int) < l.length := by omega
    have HQ := hide (fun w => quote_any l (by omega) w)
    have HT := hide (fun (h : l.all okC = true) => tokens_ok (quoteL l) [⟨4, l, 0, 0⟩] 1 rfl (toksR_quote l h (by omega)))
    generalize quoteL l = q at *
    go_enter Tryd.func7, Tryd.ntmps7
    go_wp2_with (first
      | (go_at_call 9; refine (awake47_any _ HZ.out).mono ?_; rintro e w1 ⟨rfl, hE1⟩; have HE1 := hide hE1; clear hE1))
    go_loopw [3] (fun vi wr => ∃ j : Nat, vi = .int .i64 (j : Int) ∧ j ≤ l.length ∧ Hid ((l.take j).all okC = true) ∧ Hid (Ext w wr)) (fun vi _ => l.length - (intOf vi).toNat)
    case atStart => exact ⟨0, rfl, Nat.zero_le _, hide (by simp), HE1⟩
    case round =>
      obtain ⟨j, rfl, hj, HA, HX⟩ := hrel
      by_cases hlt : j < l.length
      · have hjs : j < (str l).size := by rw [str_size]; exact hlt
        have hg := str_get l j hjs
        have hlt' : (j : Int) < l.length := by omega
        have HS := hide (all_take_succ okC hlt)
        generalize l[j]'hlt = c at *
        have HC := hide (okC_iff c)
        have hc256 : (c.toNat : Int) < 256 := by have := c.toNat_lt; omega
        have HJ := hide (fun (h : okC c = true) => show (l.take (j + 1)).all okC = true by rw [HS.out, HA.out, h]; rfl)
        clear HS HA
        by_cases h32 : 32 ≤ (c.toNat : Int) ∧ (c.toNat : Int) ≤ 126
        · obtain ⟨a1, a2⟩ := h32
          have HJ2 := hide (HJ.out (by rw [HC.out, decide_eq_true a1, decide_eq_true a2]; rfl))
          clear HJ HC
          go_wp2_with fail
          go_roundw
          case rel => exact ⟨j + 1, by go_num, by omega, HJ2, HX⟩
          case measure => simp [intOf]; omega
        · cases h10 : ((c.toNat : Int) == 10) with
          | true =>
            have HJ2 := hide (HJ.out (by rw [HC.out, h10]; simp))
            have h10n : ((c.toNat : Int) != 10) = false := by rw [bne, h10]; rfl
            have hn : (c.toNat : Int) < 32 := by rw [beq_iff_eq] at h10; omega
            clear HJ HC h32
            go_wp2_with fail
            go_roundw
            case rel => exact ⟨j + 1, by go_num, by omega, HJ2, HX⟩
            case measure => simp [intOf]; omega
          | false =>
            have h10n : ((c.toNat : Int) != 10) = true := by rw [bne, h10]; rfl
            cases h9 : ((c.toNat : Int) == 9) with
            | true =>
              have HJ2 := hide (HJ.out (by rw [HC.out, h9]; simp))
              have h9n : ((c.toNat : Int) != 9) = false := by rw [bne, h9]; rfl
              have hn : (c.toNat : Int) < 32 := by rw [beq_iff_eq] at h9; omega
              clear HJ HC h32
              go_wp2_with fail
              go_roundw
              case rel => exact ⟨j + 1, by go_num, by omega, HJ2, HX⟩
              case measure => simp [intOf]; omega
            | false =>
              have h9n : ((c.toNat : Int) != 9) = true := by rw [bne, h9]; rfl
              cases h0 : ((c.toNat : Int) == 0) with
              | true =>
                have HJ2 := hide (HJ.out (by rw [HC.out, h0]; simp))
                have h0n : ((c.toNat : Int) != 0) = false := by rw [bne, h0]; rfl
                have hn : (c.toNat : Int) < 32 := by rw [beq_iff_eq] at h0; omega
                clear HJ HC h32
                go_wp2_with fail
                go_roundw
                case rel => exact ⟨j + 1, by go_num, by omega, HJ2, HX⟩
                case measure => simp [intOf]; omega
              | false =>
                have h0n : ((c.toNat : Int) != 0) = true := by rw [bne, h0]; rfl
                clear HJ HC
                by_cases hn : (c.toNat : Int) < 32
                · clear h32
                  go_wp2_with fail
                  go_ret
                  exact ⟨rfl, HX.out⟩
                · have hn2 : 126 < (c.toNat : Int) := by omega
                  clear h32
                  go_wp2_with fail
                  go_ret
                  exact ⟨rfl, HX.out⟩
      · have hlt' : ¬ (j : Int) < l.length := by omega
        have HTT := hide (HT.out (by have := HA.out; rwa [List.take_of_length_le (by omega)] at this))
        clear HA HT
        have hc34 : Tryd.prog.cellsOf 34 = 4 := by kernel_rfl
        go_wp2_with (first
          | (go_at_call 15; refine (HQ.out _).mono ?_; rintro e w2 ⟨rfl, hE2⟩; have HE2 := hide (HX.out.trans hE2); clear hE2)
          | (go_at_call 10; refine (HTT.out _ (HZ.out.ext HE2.out)).mono ?_; rintro e w3 ⟨⟨A3, c3, rfl, ht3⟩, hE3⟩; have HE3 := hide (HE2.out.trans hE3); clear hE3
             obtain ⟨b, off, rfl, hb, p0, p1, p2, p3⟩ := ht3.at_ 0 (Nat.zero_lt_one)
             simp only [Nat.zero_mul, Nat.add_zero, List.getElem_cons_zero] at p0 p1 p2 p3
             clear ht3))
        go_ret
        exact ⟨rfl, HE3.out⟩
end Go.Proofs.YtbfjopknhlnbcaaDoor
