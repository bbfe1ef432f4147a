/-
  The program's mark and number.
-/
import Derived.Test.YtbfjopknhlnbcaaDoorLexF
namespace Go.Proofs.YtbfjopknhlnbcaaDoor
open Go.RowKit
set_option linter.unusedVariables false

theorem mark_two {l : List UInt8} {i : Nat} {t : List UInt8} (hi : i < 6) (ht : two.getD i [] = t) (h : pfx i l = true) (hc : two.contains (l.take 2) = true) : markT l = .ok ((5, t, 0), 2) := by
  unfold markT
  rw [if_pos hc, pfx_take hi h, ht]
set_option maxRecDepth 100000 in
set_option maxHeartbeats 2000000 in
theorem mark_any (c : UInt8) (m : List UInt8) (hl : m.length ≤ 100000) (w : World) : Calls Tryd.prog 39 #[.string (str (c :: m))] w fun e w' => e = .returned (tokV (markT (c :: m))) ∧ Ext w w' := by
  have hsz : (str (c :: m)).size = m.length + 1 := by rw [str_size]; rfl
  have h0 : 0 < (str (c :: m)).size := by rw [hsz]; omega
  have hg : (str (c :: m))[0] = c := rfl
  have hex : (str (c :: m)).extract 0 1 = str [c] := by rw [str_extract]; rfl
  have HW := hide (two_ways (c :: m))
  have HPF := hide (fun w (p : List UInt8) => prefix_any (c :: m) p w)
  have HIX := hide (fun w => index_any ones c w)
  go_enter Tryd.func39, Tryd.ntmps39
  go_wp2_with fail
  go_loop [8] (fun vi => (vi = .int .i64 0 ∧ Hid (two.contains ((c :: m).take 2) = (pfx 0 (c :: m) || pfx 1 (c :: m) || pfx 2 (c :: m) || pfx 3 (c :: m) || pfx 4 (c :: m) || pfx 5 (c :: m)))) ∨ (vi = .int .i64 1 ∧ Hid (two.contains ((c :: m).take 2) = (pfx 1 (c :: m) || pfx 2 (c :: m) || pfx 3 (c :: m) || pfx 4 (c :: m) || pfx 5 (c :: m)))) ∨ (vi = .int .i64 2 ∧ Hid (two.contains ((c :: m).take 2) = (pfx 2 (c :: m) || pfx 3 (c :: m) || pfx 4 (c :: m) || pfx 5 (c :: m)))) ∨ (vi = .int .i64 3 ∧ Hid (two.contains ((c :: m).take 2) = (pfx 3 (c :: m) || pfx 4 (c :: m) || pfx 5 (c :: m)))) ∨ (vi = .int .i64 4 ∧ Hid (two.contains ((c :: m).take 2) = (pfx 4 (c :: m) || pfx 5 (c :: m)))) ∨ (vi = .int .i64 5 ∧ Hid (two.contains ((c :: m).take 2) = (pfx 5 (c :: m)))) ∨ (vi = .int .i64 6 ∧ Hid (two.contains ((c :: m).take 2) = (false)))) (fun vi => 7 - (intOf vi).toNat)
  case atStart => exact .inl ⟨rfl, HW⟩
  case round =>
    rcases hrel with ⟨rfl, HT⟩ | ⟨rfl, HT⟩ | ⟨rfl, HT⟩ | ⟨rfl, HT⟩ | ⟨rfl, HT⟩ | ⟨rfl, HT⟩ | ⟨rfl, HT⟩

    · have hidx : ∀ w : World, (Instr.index 67 (.agg #[.string ⟨#[61, 61]⟩, .string ⟨#[33, 61]⟩, .string ⟨#[60, 61]⟩, .string ⟨#[62, 61]⟩, .string ⟨#[38, 38]⟩, .string ⟨#[124, 124]⟩]) (.int .i64 0)).run Tryd.prog w = .ok (.string ⟨#[61, 61]⟩) w := fun w => by (show _ = _; kernel_rfl)
      have HP := hide (fun w => (show Calls Tryd.prog 33 #[.string (str (c :: m)), .string ⟨#[61, 61]⟩] w fun e w' => e = .returned (.bool (pfx 0 (c :: m))) ∧ w = w' from HPF.out w [61, 61]))
      cases hp : pfx 0 (c :: m) with
      | true =>
        have HR := hide (mark_two (i := 0) (t := [61, 61]) (by omega) rfl hp (by rw [HT.out, hp]; simp))
        rw [hp] at HP
        clear hp HT
        go_wp2_with (go_at_call 33; refine (HP.out _).mono ?_; rintro e w' ⟨rfl, rfl⟩)
        exact bodyPost_ret (v := tokV (.ok ((5, [61, 61], 0), 2))) (by simp [results, Tryd.results39, go_sem, tokV]; rfl) rfl ⟨by rw [HR.out], Ext.alloc w _⟩
      | false =>
        have HN := hide (show two.contains ((c :: m).take 2) = (pfx 1 (c :: m) || pfx 2 (c :: m) || pfx 3 (c :: m) || pfx 4 (c :: m) || pfx 5 (c :: m)) by rw [HT.out, hp]; simp)
        rw [hp] at HP
        clear hp HT
        go_wp2_with (go_at_call 33; refine (HP.out _).mono ?_; rintro e w' ⟨rfl, rfl⟩)
        go_round
        case rel => exact .inr (.inl ⟨rfl, HN⟩)
        case measure => simp [intOf]
    · have hidx : ∀ w : World, (Instr.index 67 (.agg #[.string ⟨#[61, 61]⟩, .string ⟨#[33, 61]⟩, .string ⟨#[60, 61]⟩, .string ⟨#[62, 61]⟩, .string ⟨#[38, 38]⟩, .string ⟨#[124, 124]⟩]) (.int .i64 1)).run Tryd.prog w = .ok (.string ⟨#[33, 61]⟩) w := fun w => by (show _ = _; kernel_rfl)
      have HP := hide (fun w => (show Calls Tryd.prog 33 #[.string (str (c :: m)), .string ⟨#[33, 61]⟩] w fun e w' => e = .returned (.bool (pfx 1 (c :: m))) ∧ w = w' from HPF.out w [33, 61]))
      cases hp : pfx 1 (c :: m) with
      | true =>
        have HR := hide (mark_two (i := 1) (t := [33, 61]) (by omega) rfl hp (by rw [HT.out, hp]; simp))
        rw [hp] at HP
        clear hp HT
        go_wp2_with (go_at_call 33; refine (HP.out _).mono ?_; rintro e w' ⟨rfl, rfl⟩)
        exact bodyPost_ret (v := tokV (.ok ((5, [33, 61], 0), 2))) (by simp [results, Tryd.results39, go_sem, tokV]; rfl) rfl ⟨by rw [HR.out], Ext.alloc w _⟩
      | false =>
        have HN := hide (show two.contains ((c :: m).take 2) = (pfx 2 (c :: m) || pfx 3 (c :: m) || pfx 4 (c :: m) || pfx 5 (c :: m)) by rw [HT.out, hp]; simp)
        rw [hp] at HP
        clear hp HT
        go_wp2_with (go_at_call 33; refine (HP.out _).mono ?_; rintro e w' ⟨rfl, rfl⟩)
        go_round
        case rel => exact .inr (.inr (.inl ⟨rfl, HN⟩))
        case measure => simp [intOf]
    · have hidx : ∀ w : World, (Instr.index 67 (.agg #[.string ⟨#[61, 61]⟩, .string ⟨#[33, 61]⟩, .string ⟨#[60, 61]⟩, .string ⟨#[62, 61]⟩, .string ⟨#[38, 38]⟩, .string ⟨#[124, 124]⟩]) (.int .i64 2)).run Tryd.prog w = .ok (.string ⟨#[60, 61]⟩) w := fun w => by (show _ = _; kernel_rfl)
      have HP := hide (fun w => (show Calls Tryd.prog 33 #[.string (str (c :: m)), .string ⟨#[60, 61]⟩] w fun e w' => e = .returned (.bool (pfx 2 (c :: m))) ∧ w = w' from HPF.out w [60, 61]))
      cases hp : pfx 2 (c :: m) with
      | true =>
        have HR := hide (mark_two (i := 2) (t := [60, 61]) (by omega) rfl hp (by rw [HT.out, hp]; simp))
        rw [hp] at HP
        clear hp HT
        go_wp2_with (go_at_call 33; refine (HP.out _).mono ?_; rintro e w' ⟨rfl, rfl⟩)
        exact bodyPost_ret (v := tokV (.ok ((5, [60, 61], 0), 2))) (by simp [results, Tryd.results39, go_sem, tokV]; rfl) rfl ⟨by rw [HR.out], Ext.alloc w _⟩
      | false =>
        have HN := hide (show two.contains ((c :: m).take 2) = (pfx 3 (c :: m) || pfx 4 (c :: m) || pfx 5 (c :: m)) by rw [HT.out, hp]; simp)
        rw [hp] at HP
        clear hp HT
        go_wp2_with (go_at_call 33; refine (HP.out _).mono ?_; rintro e w' ⟨rfl, rfl⟩)
        go_round
        case rel => exact .inr (.inr (.inr (.inl ⟨rfl, HN⟩)))
        case measure => simp [intOf]
    · have hidx : ∀ w : World, (Instr.index 67 (.agg #[.string ⟨#[61, 61]⟩, .string ⟨#[33, 61]⟩, .string ⟨#[60, 61]⟩, .string ⟨#[62, 61]⟩, .string ⟨#[38, 38]⟩, .string ⟨#[124, 124]⟩]) (.int .i64 3)).run Tryd.prog w = .ok (.string ⟨#[62, 61]⟩) w := fun w => by (show _ = _; kernel_rfl)
      have HP := hide (fun w => (show Calls Tryd.prog 33 #[.string (str (c :: m)), .string ⟨#[62, 61]⟩] w fun e w' => e = .returned (.bool (pfx 3 (c :: m))) ∧ w = w' from HPF.out w [62, 61]))
      cases hp : pfx 3 (c :: m) with
      | true =>
        have HR := hide (mark_two (i := 3) (t := [62, 61]) (by omega) rfl hp (by rw [HT.out, hp]; simp))
        rw [hp] at HP
        clear hp HT
        go_wp2_with (go_at_call 33; refine (HP.out _).mono ?_; rintro e w' ⟨rfl, rfl⟩)
        exact bodyPost_ret (v := tokV (.ok ((5, [62, 61], 0), 2))) (by simp [results, Tryd.results39, go_sem, tokV]; rfl) rfl ⟨by rw [HR.out], Ext.alloc w _⟩
      | false =>
        have HN := hide (show two.contains ((c :: m).take 2) = (pfx 4 (c :: m) || pfx 5 (c :: m)) by rw [HT.out, hp]; simp)
        rw [hp] at HP
        clear hp HT
        go_wp2_with (go_at_call 33; refine (HP.out _).mono ?_; rintro e w' ⟨rfl, rfl⟩)
        go_round
        case rel => exact .inr (.inr (.inr (.inr (.inl ⟨rfl, HN⟩))))
        case measure => simp [intOf]
    · have hidx : ∀ w : World, (Instr.index 67 (.agg #[.string ⟨#[61, 61]⟩, .string ⟨#[33, 61]⟩, .string ⟨#[60, 61]⟩, .string ⟨#[62, 61]⟩, .string ⟨#[38, 38]⟩, .string ⟨#[124, 124]⟩]) (.int .i64 4)).run Tryd.prog w = .ok (.string ⟨#[38, 38]⟩) w := fun w => by (show _ = _; kernel_rfl)
      have HP := hide (fun w => (show Calls Tryd.prog 33 #[.string (str (c :: m)), .string ⟨#[38, 38]⟩] w fun e w' => e = .returned (.bool (pfx 4 (c :: m))) ∧ w = w' from HPF.out w [38, 38]))
      cases hp : pfx 4 (c :: m) with
      | true =>
        have HR := hide (mark_two (i := 4) (t := [38, 38]) (by omega) rfl hp (by rw [HT.out, hp]; simp))
        rw [hp] at HP
        clear hp HT
        go_wp2_with (go_at_call 33; refine (HP.out _).mono ?_; rintro e w' ⟨rfl, rfl⟩)
        exact bodyPost_ret (v := tokV (.ok ((5, [38, 38], 0), 2))) (by simp [results, Tryd.results39, go_sem, tokV]; rfl) rfl ⟨by rw [HR.out], Ext.alloc w _⟩
      | false =>
        have HN := hide (show two.contains ((c :: m).take 2) = (pfx 5 (c :: m)) by rw [HT.out, hp]; simp)
        rw [hp] at HP
        clear hp HT
        go_wp2_with (go_at_call 33; refine (HP.out _).mono ?_; rintro e w' ⟨rfl, rfl⟩)
        go_round
        case rel => exact .inr (.inr (.inr (.inr (.inr (.inl ⟨rfl, HN⟩)))))
        case measure => simp [intOf]
    · have hidx : ∀ w : World, (Instr.index 67 (.agg #[.string ⟨#[61, 61]⟩, .string ⟨#[33, 61]⟩, .string ⟨#[60, 61]⟩, .string ⟨#[62, 61]⟩, .string ⟨#[38, 38]⟩, .string ⟨#[124, 124]⟩]) (.int .i64 5)).run Tryd.prog w = .ok (.string ⟨#[124, 124]⟩) w := fun w => by (show _ = _; kernel_rfl)
      have HP := hide (fun w => (show Calls Tryd.prog 33 #[.string (str (c :: m)), .string ⟨#[124, 124]⟩] w fun e w' => e = .returned (.bool (pfx 5 (c :: m))) ∧ w = w' from HPF.out w [124, 124]))
      cases hp : pfx 5 (c :: m) with
      | true =>
        have HR := hide (mark_two (i := 5) (t := [124, 124]) (by omega) rfl hp (by rw [HT.out, hp]))
        rw [hp] at HP
        clear hp HT
        go_wp2_with (go_at_call 33; refine (HP.out _).mono ?_; rintro e w' ⟨rfl, rfl⟩)
        exact bodyPost_ret (v := tokV (.ok ((5, [124, 124], 0), 2))) (by simp [results, Tryd.results39, go_sem, tokV]; rfl) rfl ⟨by rw [HR.out], Ext.alloc w _⟩
      | false =>
        have HN := hide (show two.contains ((c :: m).take 2) = (false) by rw [HT.out, hp])
        rw [hp] at HP
        clear hp HT
        go_wp2_with (go_at_call 33; refine (HP.out _).mono ?_; rintro e w' ⟨rfl, rfl⟩)
        go_round
        case rel => exact .inr (.inr (.inr (.inr (.inr (.inr (⟨rfl, HN⟩))))))
        case measure => simp [intOf]
    · have HI := hide (fun w => (show Calls Tryd.prog 32 #[.string ⟨#[40, 41, 123, 125, 91, 93, 44, 59, 61, 43, 45, 42, 47, 37, 60, 62, 33]⟩, .int .u8 (c.toNat : Int)] w fun e w' => e = .returned (.int .i64 (Lib.indexByte ones c)) ∧ w = w' from HIX.out w))
      by_cases h1 : 0 ≤ Lib.indexByte ones c
      · have HR := hide (show markT (c :: m) = .ok ((5, [c], 0), 1) by
          unfold markT
          rw [HT.out, if_neg (by simp), if_pos]
          · rfl
          · show (some c).any (fun c => ones.contains c) = true
            simpa using (ones_idx c).1 h1)
        generalize Lib.indexByte ones c = ix at *
        clear HT
        go_wp2_with (go_at_call 32; refine (HI.out _).mono ?_; rintro e w' ⟨rfl, rfl⟩)
        exact bodyPost_ret (v := tokV (.ok ((5, [c], 0), 1))) (by simp [results, Tryd.results39, go_sem, tokV]) rfl ⟨by rw [HR.out], Ext.alloc w _⟩
      · have HR := hide (show markT (c :: m) = .error 3 by
          unfold markT
          rw [HT.out, if_neg (by simp), if_neg]
          show ¬ (some c).any (fun c => ones.contains c) = true
          intro h
          exact h1 ((ones_idx c).2 (by simpa using h)))
        generalize Lib.indexByte ones c = ix at *
        clear HT
        go_wp2_with (go_at_call 32; refine (HI.out _).mono ?_; rintro e w' ⟨rfl, rfl⟩)
        exact bodyPost_ret (v := tokV (.error 3)) (by simp [results, Tryd.results39, go_sem, tokV]) rfl ⟨by rw [HR.out], Ext.alloc w _⟩

/-! ### number -/
/-- The two errors' variables hold an error. -/
def EZ (w : World) : Prop := (∃ ev, w.cell? ⟨1, 0, none⟩ = some ev ∧ (ev = .nilIface ∨ ∃ te pe, ev = .iface te pe)) ∧ (∃ ev, w.cell? ⟨2, 0, none⟩ = some ev ∧ (ev = .nilIface ∨ ∃ te pe, ev = .iface te pe))
theorem EZ.ext {w w' : World} (h : EZ w) (he : Ext w w') : EZ w' := by
  obtain ⟨⟨a, a1, a2⟩, b, b1, b2⟩ := h
  exact ⟨⟨a, (he.cell _ _ (World.block_lt_of_cell? _ _ a1)).trans a1, a2⟩, b, (he.cell _ _ (World.block_lt_of_cell? _ _ b1)).trans b1, b2⟩
theorem spanN_all (p : UInt8 → Bool) : ∀ l : List UInt8, ∀ c ∈ l.take (spanN p l), p c = true
  | [], c, h => by simp at h
  | x :: l, c, h => by
    simp only [spanN] at h
    split at h
    · rename_i hx
      rw [List.take_succ_cons] at h
      rcases List.mem_cons.1 h with rfl | h
      · exact hx
      · exact spanN_all p l c h
    · simp at h
def decF (acc : Nat) (l : List UInt8) : Nat := l.foldl (fun v c => v * 10 + (c.toNat - 48)) acc
theorem decF_ge : ∀ (l : List UInt8) (acc : Nat), acc ≤ decF acc l
  | [], acc => Nat.le_refl _
  | c :: l, acc => by
    have := decF_ge l (acc * 10 + (c.toNat - 48))
    show acc ≤ decF (acc * 10 + (c.toNat - 48)) l
    omega
theorem pu10_digits : ∀ (l : List UInt8) (acc : Nat), (∀ c ∈ l, digB c = true) → Lib.parseUint10 acc l = .ok (decF acc l) ∨ (Lib.parseUint10 acc l = .range ∧ 18446744073709551616 ≤ decF acc l)
  | [], acc, _ => .inl rfl
  | c :: l, acc, h => by
    have hc : 48 ≤ c.toNat ∧ c.toNat ≤ 57 := by have := h c (List.mem_cons_self ..); unfold digB at this; simpa using this
    have hg := decF_ge l (acc * 10 + (c.toNat - 48))
    have he : decF acc (c :: l) = decF (acc * 10 + (c.toNat - 48)) l := rfl
    simp only [Lib.parseUint10]
    rw [if_pos hc, he]
    split
    · exact .inr ⟨rfl, by omega⟩
    · split
      · exact .inr ⟨rfl, by omega⟩
      · exact pu10_digits l _ fun d hd => h d (List.mem_cons_of_mem _ hd)
theorem atoi_digits {l : List UInt8} (hne : l ≠ []) (h : ∀ c ∈ l, digB c = true) : (Lib.atoiAll l = .ok (decV l : Int)) ∨ (Lib.atoiAll l = .range ∧ Lib.atoiSat l = 9223372036854775807 ∧ 9223372036854775808 ≤ decV l) := by
  match l with
  | [] => exact absurd rfl hne
  | c :: r =>
    have hc : 48 ≤ c.toNat ∧ c.toNat ≤ 57 := by have := h c (List.mem_cons_self ..); unfold digB at this; simpa using this
    have h45 : ¬ c.toNat = 45 := by omega
    have h43 : ¬ (c.toNat = 43 ∨ c.toNat = 45) := by omega
    have hd : decV (c :: r) = decF 0 (c :: r) := rfl
    have hsat : Lib.atoiSat (c :: r) = 9223372036854775807 := by
      unfold Lib.atoiSat
      rw [if_neg (by simp; omega)]
    have hm : Lib.parseMag (c :: r) = Lib.parseUint10 0 (c :: r) := by unfold Lib.parseMag; rw [if_neg (by simp)]
    rcases pu10_digits (c :: r) 0 h with h1 | ⟨h1, h2⟩
    · by_cases hb : 9223372036854775808 ≤ decF 0 (c :: r)
      · refine .inr ⟨?_, hsat, by rw [hd]; exact hb⟩
        simp only [Lib.atoiAll]
        rw [if_neg h43, hm, h1]
        simp only
        rw [if_pos ⟨h45, hb⟩]
      · refine .inl ?_
        simp only [Lib.atoiAll]
        rw [if_neg h43, hm, h1]
        simp only
        rw [if_neg (by omega), if_neg (by omega), if_neg h45, hd]
    · refine .inr ⟨?_, hsat, by rw [hd]; omega⟩
      simp only [Lib.atoiAll]
      rw [if_neg h43, hm, h1]
/-- strconv.Atoi of digits: the number, or the greatest int. -/
theorem atoi_any (l : List UInt8) (hne : l ≠ []) (hl : l.length ≤ 100000) (h : ∀ c ∈ l, digB c = true) (w : World) (hz : EZ w) :
    ∃ v : Int, (v = decV l ∨ (v = 9223372036854775807 ∧ 9223372036854775808 ≤ decV l)) ∧ Calls Tryd.prog 49 #[.string (str l)] w fun e w' => (∃ er, e = .returned (.tuple #[.int .i64 v, er])) ∧ Ext w w' := by
  rcases atoi_digits hne h with h1 | ⟨h1, h2, h3⟩
  · refine ⟨decV l, .inl rfl, ?_⟩
    refine (Tryd.strconv_Atoi_ok (str l) (by rw [str_size]; omega) (decV l) (by rw [str_data]; exact h1) w).mono ?_
    rintro e w' ⟨rfl, h⟩
    refine ⟨⟨_, rfl⟩, ?_⟩
    rcases h with rfl | ⟨t, rfl⟩
    · exact Ext.refl _
    · exact Lib.bytesWorld_below _ _ _
  · refine ⟨9223372036854775807, .inr ⟨rfl, h3⟩, ?_⟩
    obtain ⟨ev, q1, q2⟩ := hz.2
    refine (Tryd.strconv_Atoi_range (str l) (by rw [str_size]; omega) (by rw [str_data]; exact h1) ev w q1 q2).mono ?_
    rintro e w' ⟨N, rfl, _, _, hb⟩
    rw [str_data, h2]
    exact ⟨⟨_, rfl⟩, hb⟩

end Go.Proofs.YtbfjopknhlnbcaaDoor
