/-
  The program's number and token.
-/
import Derived.Test.YtbfjopknhlnbcaaDoorLexG
namespace Go.Proofs.YtbfjopknhlnbcaaDoor
open Go.RowKit
set_option linter.unusedVariables false

theorem num_spec (c : UInt8) (m : List UInt8) {n : Nat} {x : List UInt8} (hn : spanN digB (c :: m) = n) (hx : (c :: m).take n = x) : numT (c :: m) = if ((c :: m).drop n).head?.any prtB then .error 3 else if 10 < n ∨ (1 < n ∧ c = 48) ∨ 2147483647 < decV x then .error 2 else .ok ((3, [], decV x), n) := by
  subst hn
  subst hx
  unfold numT
  simp
theorem num_end (c : UInt8) (m : List UInt8) {n : Nat} (hle : n ≤ m.length + 1) (hlt : ¬ n < m.length + 1) : ((c :: m).drop n).head?.any prtB = false := by
  rw [List.drop_of_length_le (by simp; omega)]; rfl
theorem num_in (c : UInt8) (m : List UInt8) {n : Nat} (hlt : n < (c :: m).length) : ((c :: m).drop n).head?.any prtB = prtB (c :: m)[n] := by
  rw [head_drop _ _ hlt]; rfl
set_option maxRecDepth 100000 in
set_option maxHeartbeats 4000000 in
theorem number_any (c : UInt8) (m : List UInt8) (hc : digB c = true) (hl : (c :: m).length ≤ 100000) (w : World) (hz : EZ w) : Calls Tryd.prog 36 #[.string (str (c :: m))] w fun e w' => e = .returned (tokV (numT (c :: m))) ∧ Ext w w' := by
  have hsz : (str (c :: m)).size = m.length + 1 := by rw [str_size]; rfl
  have h0 : 0 < (str (c :: m)).size := by rw [hsz]; omega
  have hg0 : (str (c :: m))[0] = c := rfl
  have hl1 : m.length ≤ 99999 := by simpa using hl
  have hle : spanN digB (c :: m) ≤ m.length + 1 := spanN_le digB (c :: m)
  have hn1 : 1 ≤ spanN digB (c :: m) := by simp [spanN, hc]
  have hall := spanN_all digB (c :: m)
  have hex := str_extract (c :: m) 0 (spanN digB (c :: m))
  simp only [List.drop_zero] at hex
  have HSP := hide (fun w => span_any digB 35 digit_any (.inr rfl) (c :: m) hl w)
  have HTX := fun x h => hide (num_spec c m (n := spanN digB (c :: m)) (x := x) rfl h)
  have HX0 := hide (Ext.alloc w (.cells #[.int .i64 0, .string ⟨#[]⟩, .int .i64 0, .int .i64 0] 34))
  have HB0 := hide (Blk.new w 34 #[.int .i64 0, .string ⟨#[]⟩, .int .i64 0, .int .i64 0])
  have hxne : (c :: m).take (spanN digB (c :: m)) ≠ [] := by intro h; have := congrArg List.length h; simp at this; omega
  have hxl : ((c :: m).take (spanN digB (c :: m))).length ≤ 100000 := by have := List.length_take_le' (spanN digB (c :: m)) (c :: m); omega
  obtain ⟨v, hv, HA⟩ := atoi_any ((c :: m).take (spanN digB (c :: m))) hxne hxl hall _ (hz.ext HX0.out)
  have HA := hide HA
  have HT := HTX _ rfl
  clear HTX
  generalize hn : spanN digB (c :: m) = n at *
  generalize hx : (c :: m).take n = x at *
  clear hn hxne hall hxl hx
  have hvr : v ≤ 2147483647 → v = decV x := by omega
  have hvg : 2147483647 < v → 2147483647 < decV x := by omega
  have hv1 : v ≤ 2147483647 → ¬ 2147483647 < decV x := by omega
  clear hv
  by_cases hlt : n < m.length + 1
  · have hns : n < (str (c :: m)).size := by rw [hsz]; exact hlt
    have hg : (str (c :: m))[n] = (c :: m)[n]'hlt := rfl
    have hH := num_in c m (n := n) hlt
    have HPT := hide (part_any ((c :: m)[n]'hlt))
    have hlt' : (n : Int) < m.length + 1 := by omega
    generalize (c :: m)[n]'hlt = d at *
    cases hp : prtB d with
    | true =>
      rw [hp] at HPT hH
      have HR := hide (show numT (c :: m) = .error 3 by rw [HT.out, hH, if_pos rfl])
      clear hH hp
      clear HT hc hvr hvg hv1
      go_enter Tryd.func36, Tryd.ntmps36
      go_wp2_with (first
        | (go_at_call 48; refine (HSP.out _).mono ?_; rintro e w' ⟨rfl, rfl⟩)
        | (go_at_call 49; refine HA.out.mono ?_; rintro e w1 ⟨⟨er, rfl⟩, hE⟩; have HB := hide (HB0.out.ext hE); have HX := hide (HX0.out.trans hE); clear hE; have hbc := HB.out.cell; have hbf := HB.out.frozen)
        | (go_at_call 26; refine (HPT.out _).mono ?_; rintro e w' ⟨rfl, rfl⟩))
      have hset := (HB.out.put4 (.int .i64 0) (.string ⟨#[]⟩) (.int .i64 0) (.int .i64 0)).cell
      exact bodyPost_ret (v := tokV (.error 3)) (by simp [results, Tryd.results36, go_sem, tokV, hset]) rfl ⟨by rw [HR.out], HX.out.put4 (Nat.le_refl _) _ _ _ _⟩
    | false =>
      rw [hp] at HPT hH
      clear hp
      by_cases hA : 10 < n
      · have hA' : (10 : Int) < n := by omega
        have HR := hide (show numT (c :: m) = .error 2 by rw [HT.out, hH, if_neg (by simp), if_pos (.inl hA)])
        clear hH
        clear HT hc hvr hvg hv1
        go_enter Tryd.func36, Tryd.ntmps36
        go_wp2_with (first
          | (go_at_call 48; refine (HSP.out _).mono ?_; rintro e w' ⟨rfl, rfl⟩)
          | (go_at_call 49; refine HA.out.mono ?_; rintro e w1 ⟨⟨er, rfl⟩, hE⟩; have HB := hide (HB0.out.ext hE); have HX := hide (HX0.out.trans hE); clear hE; have hbc := HB.out.cell; have hbf := HB.out.frozen)
          | (go_at_call 26; refine (HPT.out _).mono ?_; rintro e w' ⟨rfl, rfl⟩))
        have hset := (HB.out.put4 (.int .i64 0) (.string ⟨#[]⟩) (.int .i64 0) (.int .i64 0)).cell
        exact bodyPost_ret (v := tokV (.error 2)) (by simp [results, Tryd.results36, go_sem, tokV, hset]) rfl ⟨by rw [HR.out], HX.out.put4 (Nat.le_refl _) _ _ _ _⟩
      · have hA' : ¬ (10 : Int) < n := by omega
        by_cases hB : 1 < n
        · have hB' : (1 : Int) < n := by omega
          by_cases hC : c = 48
          · have hC' : ((c.toNat : Int) == 48) = true := by rw [hC]; rfl
            have HR := hide (show numT (c :: m) = .error 2 by rw [HT.out, hH, if_neg (by simp), if_pos (.inr (.inl ⟨hB, hC⟩))])
            clear hH hC
            clear HT hc hvr hvg hv1
            go_enter Tryd.func36, Tryd.ntmps36
            go_wp2_with (first
              | (go_at_call 48; refine (HSP.out _).mono ?_; rintro e w' ⟨rfl, rfl⟩)
              | (go_at_call 49; refine HA.out.mono ?_; rintro e w1 ⟨⟨er, rfl⟩, hE⟩; have HB := hide (HB0.out.ext hE); have HX := hide (HX0.out.trans hE); clear hE; have hbc := HB.out.cell; have hbf := HB.out.frozen)
              | (go_at_call 26; refine (HPT.out _).mono ?_; rintro e w' ⟨rfl, rfl⟩))
            have hset := (HB.out.put4 (.int .i64 0) (.string ⟨#[]⟩) (.int .i64 0) (.int .i64 0)).cell
            exact bodyPost_ret (v := tokV (.error 2)) (by simp [results, Tryd.results36, go_sem, tokV, hset]) rfl ⟨by rw [HR.out], HX.out.put4 (Nat.le_refl _) _ _ _ _⟩
          · have hC' : ((c.toNat : Int) == 48) = false := (u8_eqI c 48 (by omega)).trans (beq_eq_false_iff_ne.2 hC)
            by_cases hV : 2147483647 < v
            · have HR := hide (show numT (c :: m) = .error 2 by rw [HT.out, hH, if_neg (by simp), if_pos (.inr (.inr (hvg hV)))])
              clear hH
              clear hC
              clear HT hc hvr hvg hv1
              go_enter Tryd.func36, Tryd.ntmps36
              go_wp2_with (first
                | (go_at_call 48; refine (HSP.out _).mono ?_; rintro e w' ⟨rfl, rfl⟩)
                | (go_at_call 49; refine HA.out.mono ?_; rintro e w1 ⟨⟨er, rfl⟩, hE⟩; have HB := hide (HB0.out.ext hE); have HX := hide (HX0.out.trans hE); clear hE; have hbc := HB.out.cell; have hbf := HB.out.frozen)
                | (go_at_call 26; refine (HPT.out _).mono ?_; rintro e w' ⟨rfl, rfl⟩))
              have hset := (HB.out.put4 (.int .i64 0) (.string ⟨#[]⟩) (.int .i64 0) (.int .i64 0)).cell
              exact bodyPost_ret (v := tokV (.error 2)) (by simp [results, Tryd.results36, go_sem, tokV, hset]) rfl ⟨by rw [HR.out], HX.out.put4 (Nat.le_refl _) _ _ _ _⟩
            · have HR := hide (show numT (c :: m) = .ok ((3, [], v), n) by rw [HT.out, hH, if_neg (by simp), if_neg (by rintro (h | h | h); exact hA h; exact (fun h : 1 < n ∧ c = 48 => hC h.2) h; exact hv1 (by omega) h), hvr (by omega)])
              clear hH
              clear hC
              clear HT hc hvr hvg hv1
              go_enter Tryd.func36, Tryd.ntmps36
              go_wp2_with (first
                | (go_at_call 48; refine (HSP.out _).mono ?_; rintro e w' ⟨rfl, rfl⟩)
                | (go_at_call 49; refine HA.out.mono ?_; rintro e w1 ⟨⟨er, rfl⟩, hE⟩; have HB := hide (HB0.out.ext hE); have HX := hide (HX0.out.trans hE); clear hE; have hbc := HB.out.cell; have hbf := HB.out.frozen)
                | (go_at_call 26; refine (HPT.out _).mono ?_; rintro e w' ⟨rfl, rfl⟩))
              have hset := (HB.out.put4 (.int .i64 3) (.string ⟨#[]⟩) (.int .i64 v) (.int .i64 0)).cell
              exact bodyPost_ret (v := tokV (.ok ((3, [], v), n))) (by simp [results, Tryd.results36, go_sem, tokV, hset]; rfl) rfl ⟨by rw [HR.out], HX.out.put4 (Nat.le_refl _) _ _ _ _⟩
        · have hB' : ¬ (1 : Int) < n := by omega
          by_cases hV : 2147483647 < v
          · have HR := hide (show numT (c :: m) = .error 2 by rw [HT.out, hH, if_neg (by simp), if_pos (.inr (.inr (hvg hV)))])
            clear hH
            clear HT hc hvr hvg hv1
            go_enter Tryd.func36, Tryd.ntmps36
            go_wp2_with (first
              | (go_at_call 48; refine (HSP.out _).mono ?_; rintro e w' ⟨rfl, rfl⟩)
              | (go_at_call 49; refine HA.out.mono ?_; rintro e w1 ⟨⟨er, rfl⟩, hE⟩; have HB := hide (HB0.out.ext hE); have HX := hide (HX0.out.trans hE); clear hE; have hbc := HB.out.cell; have hbf := HB.out.frozen)
              | (go_at_call 26; refine (HPT.out _).mono ?_; rintro e w' ⟨rfl, rfl⟩))
            have hset := (HB.out.put4 (.int .i64 0) (.string ⟨#[]⟩) (.int .i64 0) (.int .i64 0)).cell
            exact bodyPost_ret (v := tokV (.error 2)) (by simp [results, Tryd.results36, go_sem, tokV, hset]) rfl ⟨by rw [HR.out], HX.out.put4 (Nat.le_refl _) _ _ _ _⟩
          · have HR := hide (show numT (c :: m) = .ok ((3, [], v), n) by rw [HT.out, hH, if_neg (by simp), if_neg (by rintro (h | h | h); exact hA h; exact (fun h : 1 < n ∧ c = 48 => hB h.1) h; exact hv1 (by omega) h), hvr (by omega)])
            clear hH
            clear HT hc hvr hvg hv1
            go_enter Tryd.func36, Tryd.ntmps36
            go_wp2_with (first
              | (go_at_call 48; refine (HSP.out _).mono ?_; rintro e w' ⟨rfl, rfl⟩)
              | (go_at_call 49; refine HA.out.mono ?_; rintro e w1 ⟨⟨er, rfl⟩, hE⟩; have HB := hide (HB0.out.ext hE); have HX := hide (HX0.out.trans hE); clear hE; have hbc := HB.out.cell; have hbf := HB.out.frozen)
              | (go_at_call 26; refine (HPT.out _).mono ?_; rintro e w' ⟨rfl, rfl⟩))
            have hset := (HB.out.put4 (.int .i64 3) (.string ⟨#[]⟩) (.int .i64 v) (.int .i64 0)).cell
            exact bodyPost_ret (v := tokV (.ok ((3, [], v), n))) (by simp [results, Tryd.results36, go_sem, tokV, hset]; rfl) rfl ⟨by rw [HR.out], HX.out.put4 (Nat.le_refl _) _ _ _ _⟩
  · have hlt' : ¬ (n : Int) < m.length + 1 := by omega
    have hH := num_end c m hle hlt
    have HPT := hide (part_any 0)
    by_cases hA : 10 < n
    · have hA' : (10 : Int) < n := by omega
      have HR := hide (show numT (c :: m) = .error 2 by rw [HT.out, hH, if_neg (by simp), if_pos (.inl hA)])
      clear hH
      clear HT hc hvr hvg hv1
      go_enter Tryd.func36, Tryd.ntmps36
      go_wp2_with (first
        | (go_at_call 48; refine (HSP.out _).mono ?_; rintro e w' ⟨rfl, rfl⟩)
        | (go_at_call 49; refine HA.out.mono ?_; rintro e w1 ⟨⟨er, rfl⟩, hE⟩; have HB := hide (HB0.out.ext hE); have HX := hide (HX0.out.trans hE); clear hE; have hbc := HB.out.cell; have hbf := HB.out.frozen)
        | (go_at_call 26; refine (HPT.out _).mono ?_; rintro e w' ⟨rfl, rfl⟩))
      have hset := (HB.out.put4 (.int .i64 0) (.string ⟨#[]⟩) (.int .i64 0) (.int .i64 0)).cell
      exact bodyPost_ret (v := tokV (.error 2)) (by simp [results, Tryd.results36, go_sem, tokV, hset]) rfl ⟨by rw [HR.out], HX.out.put4 (Nat.le_refl _) _ _ _ _⟩
    · have hA' : ¬ (10 : Int) < n := by omega
      by_cases hB : 1 < n
      · have hB' : (1 : Int) < n := by omega
        by_cases hC : c = 48
        · have hC' : ((c.toNat : Int) == 48) = true := by rw [hC]; rfl
          have HR := hide (show numT (c :: m) = .error 2 by rw [HT.out, hH, if_neg (by simp), if_pos (.inr (.inl ⟨hB, hC⟩))])
          clear hH hC
          clear HT hc hvr hvg hv1
          go_enter Tryd.func36, Tryd.ntmps36
          go_wp2_with (first
            | (go_at_call 48; refine (HSP.out _).mono ?_; rintro e w' ⟨rfl, rfl⟩)
            | (go_at_call 49; refine HA.out.mono ?_; rintro e w1 ⟨⟨er, rfl⟩, hE⟩; have HB := hide (HB0.out.ext hE); have HX := hide (HX0.out.trans hE); clear hE; have hbc := HB.out.cell; have hbf := HB.out.frozen)
            | (go_at_call 26; refine (HPT.out _).mono ?_; rintro e w' ⟨rfl, rfl⟩))
          have hset := (HB.out.put4 (.int .i64 0) (.string ⟨#[]⟩) (.int .i64 0) (.int .i64 0)).cell
          exact bodyPost_ret (v := tokV (.error 2)) (by simp [results, Tryd.results36, go_sem, tokV, hset]) rfl ⟨by rw [HR.out], HX.out.put4 (Nat.le_refl _) _ _ _ _⟩
        · have hC' : ((c.toNat : Int) == 48) = false := (u8_eqI c 48 (by omega)).trans (beq_eq_false_iff_ne.2 hC)
          by_cases hV : 2147483647 < v
          · have HR := hide (show numT (c :: m) = .error 2 by rw [HT.out, hH, if_neg (by simp), if_pos (.inr (.inr (hvg hV)))])
            clear hH
            clear hC
            clear HT hc hvr hvg hv1
            go_enter Tryd.func36, Tryd.ntmps36
            go_wp2_with (first
              | (go_at_call 48; refine (HSP.out _).mono ?_; rintro e w' ⟨rfl, rfl⟩)
              | (go_at_call 49; refine HA.out.mono ?_; rintro e w1 ⟨⟨er, rfl⟩, hE⟩; have HB := hide (HB0.out.ext hE); have HX := hide (HX0.out.trans hE); clear hE; have hbc := HB.out.cell; have hbf := HB.out.frozen)
              | (go_at_call 26; refine (HPT.out _).mono ?_; rintro e w' ⟨rfl, rfl⟩))
            have hset := (HB.out.put4 (.int .i64 0) (.string ⟨#[]⟩) (.int .i64 0) (.int .i64 0)).cell
            exact bodyPost_ret (v := tokV (.error 2)) (by simp [results, Tryd.results36, go_sem, tokV, hset]) rfl ⟨by rw [HR.out], HX.out.put4 (Nat.le_refl _) _ _ _ _⟩
          · have HR := hide (show numT (c :: m) = .ok ((3, [], v), n) by rw [HT.out, hH, if_neg (by simp), if_neg (by rintro (h | h | h); exact hA h; exact (fun h : 1 < n ∧ c = 48 => hC h.2) h; exact hv1 (by omega) h), hvr (by omega)])
            clear hH
            clear hC
            clear HT hc hvr hvg hv1
            go_enter Tryd.func36, Tryd.ntmps36
            go_wp2_with (first
              | (go_at_call 48; refine (HSP.out _).mono ?_; rintro e w' ⟨rfl, rfl⟩)
              | (go_at_call 49; refine HA.out.mono ?_; rintro e w1 ⟨⟨er, rfl⟩, hE⟩; have HB := hide (HB0.out.ext hE); have HX := hide (HX0.out.trans hE); clear hE; have hbc := HB.out.cell; have hbf := HB.out.frozen)
              | (go_at_call 26; refine (HPT.out _).mono ?_; rintro e w' ⟨rfl, rfl⟩))
            have hset := (HB.out.put4 (.int .i64 3) (.string ⟨#[]⟩) (.int .i64 v) (.int .i64 0)).cell
            exact bodyPost_ret (v := tokV (.ok ((3, [], v), n))) (by simp [results, Tryd.results36, go_sem, tokV, hset]; rfl) rfl ⟨by rw [HR.out], HX.out.put4 (Nat.le_refl _) _ _ _ _⟩
      · have hB' : ¬ (1 : Int) < n := by omega
        by_cases hV : 2147483647 < v
        · have HR := hide (show numT (c :: m) = .error 2 by rw [HT.out, hH, if_neg (by simp), if_pos (.inr (.inr (hvg hV)))])
          clear hH
          clear HT hc hvr hvg hv1
          go_enter Tryd.func36, Tryd.ntmps36
          go_wp2_with (first
            | (go_at_call 48; refine (HSP.out _).mono ?_; rintro e w' ⟨rfl, rfl⟩)
            | (go_at_call 49; refine HA.out.mono ?_; rintro e w1 ⟨⟨er, rfl⟩, hE⟩; have HB := hide (HB0.out.ext hE); have HX := hide (HX0.out.trans hE); clear hE; have hbc := HB.out.cell; have hbf := HB.out.frozen)
            | (go_at_call 26; refine (HPT.out _).mono ?_; rintro e w' ⟨rfl, rfl⟩))
          have hset := (HB.out.put4 (.int .i64 0) (.string ⟨#[]⟩) (.int .i64 0) (.int .i64 0)).cell
          exact bodyPost_ret (v := tokV (.error 2)) (by simp [results, Tryd.results36, go_sem, tokV, hset]) rfl ⟨by rw [HR.out], HX.out.put4 (Nat.le_refl _) _ _ _ _⟩
        · have HR := hide (show numT (c :: m) = .ok ((3, [], v), n) by rw [HT.out, hH, if_neg (by simp), if_neg (by rintro (h | h | h); exact hA h; exact (fun h : 1 < n ∧ c = 48 => hB h.1) h; exact hv1 (by omega) h), hvr (by omega)])
          clear hH
          clear HT hc hvr hvg hv1
          go_enter Tryd.func36, Tryd.ntmps36
          go_wp2_with (first
            | (go_at_call 48; refine (HSP.out _).mono ?_; rintro e w' ⟨rfl, rfl⟩)
            | (go_at_call 49; refine HA.out.mono ?_; rintro e w1 ⟨⟨er, rfl⟩, hE⟩; have HB := hide (HB0.out.ext hE); have HX := hide (HX0.out.trans hE); clear hE; have hbc := HB.out.cell; have hbf := HB.out.frozen)
            | (go_at_call 26; refine (HPT.out _).mono ?_; rintro e w' ⟨rfl, rfl⟩))
          have hset := (HB.out.put4 (.int .i64 3) (.string ⟨#[]⟩) (.int .i64 v) (.int .i64 0)).cell
          exact bodyPost_ret (v := tokV (.ok ((3, [], v), n))) (by simp [results, Tryd.results36, go_sem, tokV, hset]; rfl) rfl ⟨by rw [HR.out], HX.out.put4 (Nat.le_refl _) _ _ _ _⟩
/-- The shape of a token's outcome. -/
theorem tokV_shape (r : TokR) : ∃ k s v n e, tokV r = .tuple #[.agg #[.int .i64 k, .string s, .int .i64 v, .int .i64 0], .int .i64 n, .int .i64 e] := by
  cases r with
  | ok x => exact ⟨_, _, _, _, _, rfl⟩
  | error e => exact ⟨_, _, _, _, _, rfl⟩
theorem tok_spec (c : UInt8) (m : List UInt8) : tokT (c :: m) = if letB c then wordT (c :: m) else if digB c then numT (c :: m) else if c = 39 then charT (c :: m) else if c = 34 then textT (c :: m) else markT (c :: m) := rfl
set_option maxRecDepth 100000 in
set_option maxHeartbeats 4000000 in
theorem token_any (c : UInt8) (m : List UInt8) (hl : (c :: m).length ≤ 100000) (w : World) (hz : EZ w) : Calls Tryd.prog 20 #[.string (str (c :: m))] w fun e w' => e = .returned (tokV (tokT (c :: m))) ∧ Ext w w' := by
  have hsz : (str (c :: m)).size = m.length + 1 := by rw [str_size]; rfl
  have h0 : 0 < (str (c :: m)).size := by rw [hsz]; omega
  have hg0 : (str (c :: m))[0] = c := rfl
  have hl1 : m.length ≤ 99999 := by simpa using hl
  have HL := hide (letter_any c)
  have HD := hide (digit_any c)
  have HX0 := hide (Ext.alloc w (.cells #[.int .i64 0, .string ⟨#[]⟩, .int .i64 0, .int .i64 0] 34))
  have HB0 := hide (Blk.new w 34 #[.int .i64 0, .string ⟨#[]⟩, .int .i64 0, .int .i64 0])
  have HT := hide (tok_spec c m)
  cases hL : letB c with
  | true =>
    rw [hL] at HL
    have HR := hide (show tokT (c :: m) = wordT (c :: m) by rw [HT.out, hL, if_pos rfl])
    obtain ⟨k, s, v, n, e, hr⟩ := tokV_shape (wordT (c :: m))
    have HF := hide (word_any (c :: m) hl (w.alloc (.cells #[.int .i64 0, .string ⟨#[]⟩, .int .i64 0, .int .i64 0] 34)))
    rw [hr] at HF
    have HV := hide hr
    clear hL HT hr hz
    go_enter Tryd.func20, Tryd.ntmps20
    go_wp2_with (first
      | (go_at_call 27; refine (HL.out _).mono ?_; rintro e' w' ⟨rfl, rfl⟩)
      | (go_at_call 35; refine (HD.out _).mono ?_; rintro e' w' ⟨rfl, rfl⟩)
      | (go_at_call 34; refine HF.out.mono ?_; rintro e' w1 ⟨rfl, hE⟩; have HB := hide (HB0.out.ext hE); have HX := hide (HX0.out.trans hE); clear hE; have hbc := HB.out.cell; have hbf := HB.out.frozen))
    have hset := (HB.out.put4 (.int .i64 k) (.string s) (.int .i64 v) (.int .i64 0)).cell
    exact bodyPost_ret (v := .tuple #[.agg #[.int .i64 k, .string s, .int .i64 v, .int .i64 0], .int .i64 n, .int .i64 e]) (by simp [results, Tryd.results20, go_sem, hset]) rfl ⟨by rw [HR.out, HV.out], HX.out.put4 (Nat.le_refl _) _ _ _ _⟩
  | false =>
    rw [hL] at HL
    cases hD : digB c with
    | true =>
      rw [hD] at HD
      have HR := hide (show tokT (c :: m) = numT (c :: m) by rw [HT.out, hL, if_neg (by simp), hD, if_pos rfl])
      obtain ⟨k, s, v, n, e, hr⟩ := tokV_shape (numT (c :: m))
      have HF := hide (number_any c m hD hl (w.alloc (.cells #[.int .i64 0, .string ⟨#[]⟩, .int .i64 0, .int .i64 0] 34)) (hz.ext HX0.out))
      rw [hr] at HF
      have HV := hide hr
      clear hL hD HT hr hz
      go_enter Tryd.func20, Tryd.ntmps20
      go_wp2_with (first
        | (go_at_call 27; refine (HL.out _).mono ?_; rintro e' w' ⟨rfl, rfl⟩)
        | (go_at_call 35; refine (HD.out _).mono ?_; rintro e' w' ⟨rfl, rfl⟩)
        | (go_at_call 36; refine HF.out.mono ?_; rintro e' w1 ⟨rfl, hE⟩; have HB := hide (HB0.out.ext hE); have HX := hide (HX0.out.trans hE); clear hE; have hbc := HB.out.cell; have hbf := HB.out.frozen))
      have hset := (HB.out.put4 (.int .i64 k) (.string s) (.int .i64 v) (.int .i64 0)).cell
      exact bodyPost_ret (v := .tuple #[.agg #[.int .i64 k, .string s, .int .i64 v, .int .i64 0], .int .i64 n, .int .i64 e]) (by simp [results, Tryd.results20, go_sem, hset]) rfl ⟨by rw [HR.out, HV.out], HX.out.put4 (Nat.le_refl _) _ _ _ _⟩
    | false =>
      rw [hD] at HD
      by_cases h39 : c = 39
      · have HR := hide (show tokT (c :: m) = charT (c :: m) by rw [HT.out, hL, if_neg (by simp), hD, if_neg (by simp), if_pos h39])
        obtain ⟨k, s, v, n, e, hr⟩ := tokV_shape (charT (c :: m))
        have HF := hide (char_any c m (by omega) (w.alloc (.cells #[.int .i64 0, .string ⟨#[]⟩, .int .i64 0, .int .i64 0] 34)))
        rw [hr] at HF
        have HV := hide hr
        have hb39 : ((c.toNat : Int) == 39) = true := by rw [h39]; rfl
        clear hL hD HT hr hz h39
        go_enter Tryd.func20, Tryd.ntmps20
        go_wp2_with (first
          | (go_at_call 27; refine (HL.out _).mono ?_; rintro e' w' ⟨rfl, rfl⟩)
          | (go_at_call 35; refine (HD.out _).mono ?_; rintro e' w' ⟨rfl, rfl⟩)
          | (go_at_call 37; refine HF.out.mono ?_; rintro e' w1 ⟨rfl, hE⟩; have HB := hide (HB0.out.ext hE); have HX := hide (HX0.out.trans hE); clear hE; have hbc := HB.out.cell; have hbf := HB.out.frozen))
        have hset := (HB.out.put4 (.int .i64 k) (.string s) (.int .i64 v) (.int .i64 0)).cell
        exact bodyPost_ret (v := .tuple #[.agg #[.int .i64 k, .string s, .int .i64 v, .int .i64 0], .int .i64 n, .int .i64 e]) (by simp [results, Tryd.results20, go_sem, hset]) rfl ⟨by rw [HR.out, HV.out], HX.out.put4 (Nat.le_refl _) _ _ _ _⟩
      · have hb39 : ((c.toNat : Int) == 39) = false := (u8_eqI c 39 (by omega)).trans (beq_eq_false_iff_ne.2 h39)
        by_cases h34 : c = 34
        · have HR := hide (show tokT (c :: m) = textT (c :: m) by rw [HT.out, hL, if_neg (by simp), hD, if_neg (by simp), if_neg h39, if_pos h34])
          obtain ⟨k, s, v, n, e, hr⟩ := tokV_shape (textT (c :: m))
          have HF := hide (text_any c m (by omega) (w.alloc (.cells #[.int .i64 0, .string ⟨#[]⟩, .int .i64 0, .int .i64 0] 34)))
          rw [hr] at HF
          have HV := hide hr
          have hb34 : ((c.toNat : Int) == 34) = true := by rw [h34]; rfl
          clear hL hD HT hr hz h39 h34
          go_enter Tryd.func20, Tryd.ntmps20
          go_wp2_with (first
            | (go_at_call 27; refine (HL.out _).mono ?_; rintro e' w' ⟨rfl, rfl⟩)
            | (go_at_call 35; refine (HD.out _).mono ?_; rintro e' w' ⟨rfl, rfl⟩)
            | (go_at_call 38; refine HF.out.mono ?_; rintro e' w1 ⟨rfl, hE⟩; have HB := hide (HB0.out.ext hE); have HX := hide (HX0.out.trans hE); clear hE; have hbc := HB.out.cell; have hbf := HB.out.frozen))
          have hset := (HB.out.put4 (.int .i64 k) (.string s) (.int .i64 v) (.int .i64 0)).cell
          exact bodyPost_ret (v := .tuple #[.agg #[.int .i64 k, .string s, .int .i64 v, .int .i64 0], .int .i64 n, .int .i64 e]) (by simp [results, Tryd.results20, go_sem, hset]) rfl ⟨by rw [HR.out, HV.out], HX.out.put4 (Nat.le_refl _) _ _ _ _⟩
        · have HR := hide (show tokT (c :: m) = markT (c :: m) by rw [HT.out, hL, if_neg (by simp), hD, if_neg (by simp), if_neg h39, if_neg h34])
          obtain ⟨k, s, v, n, e, hr⟩ := tokV_shape (markT (c :: m))
          have HF := hide (mark_any c m (by omega) (w.alloc (.cells #[.int .i64 0, .string ⟨#[]⟩, .int .i64 0, .int .i64 0] 34)))
          rw [hr] at HF
          have HV := hide hr
          have hb34 : ((c.toNat : Int) == 34) = false := (u8_eqI c 34 (by omega)).trans (beq_eq_false_iff_ne.2 h34)
          clear hL hD HT hr hz h39 h34
          go_enter Tryd.func20, Tryd.ntmps20
          go_wp2_with (first
            | (go_at_call 27; refine (HL.out _).mono ?_; rintro e' w' ⟨rfl, rfl⟩)
            | (go_at_call 35; refine (HD.out _).mono ?_; rintro e' w' ⟨rfl, rfl⟩)
            | (go_at_call 39; refine HF.out.mono ?_; rintro e' w1 ⟨rfl, hE⟩; have HB := hide (HB0.out.ext hE); have HX := hide (HX0.out.trans hE); clear hE; have hbc := HB.out.cell; have hbf := HB.out.frozen))
          have hset := (HB.out.put4 (.int .i64 k) (.string s) (.int .i64 v) (.int .i64 0)).cell
          exact bodyPost_ret (v := .tuple #[.agg #[.int .i64 k, .string s, .int .i64 v, .int .i64 0], .int .i64 n, .int .i64 e]) (by simp [results, Tryd.results20, go_sem, hset]) rfl ⟨by rw [HR.out, HV.out], HX.out.put4 (Nat.le_refl _) _ _ _ _⟩

end Go.Proofs.YtbfjopknhlnbcaaDoor
