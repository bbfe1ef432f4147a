/-
  The reference's token, joined; its Tokens: the walk.
-/
import Derived.Test.YtbfjopknhlnbcaaDoorLexN
namespace Go.Proofs.YtbfjopknhlnbcaaDoor
open Go.RowKit
set_option linter.unusedVariables false

theorem rtoken_any (c : UInt8) (m : List UInt8) (hl : (c :: m).length ≤ 100000) (w : World) : Calls Tryd.prog 22 #[.string (str (c :: m))] w fun e w' => e = .returned (tokV (tokT (c :: m))) ∧ Ext w w' := by
  rw [tok_spec]
  cases hL : letB c with
  | true => exact rtok_word c m hL hl w
  | false =>
    cases hD : digB c with
    | true => exact rtok_num c m hL hD hl w
    | false =>
      rw [if_neg (by simp), if_neg (by simp)]
      by_cases h39 : c = 39
      · rw [if_pos h39]
        exact rtok_char c m hL hD (by rw [h39]; rfl) hl w
      · have hb39 : ((c.toNat : Int) == 39) = false := (u8_eqI c 39 (by omega)).trans (beq_eq_false_iff_ne.2 h39)
        rw [if_neg h39]
        by_cases h34 : c = 34
        · rw [if_pos h34]
          exact rtok_text c m hL hD hb39 (by rw [h34]; rfl) hl w
        · rw [if_neg h34]
          exact rtok_mark c m hL hD hb39 ((u8_eqI c 34 (by omega)).trans (beq_eq_false_iff_ne.2 h34)) hl w
set_option maxRecDepth 100000 in
set_option maxHeartbeats 4000000 in
theorem rtokens_any (l : List UInt8) (hl : l.length ≤ 100000) (w : World) : Calls Tryd.prog 11 #[.string (str l)] w fun e w' => TokensP 37 w.heap.size (toksR l) e w' ∧ Ext w w' := by
  have hsz : (str l).size = l.length := str_size l
  have HRb := hide (toksR_big l)
  have HRo := hide (toksR_ok l)
  have HRe := hide (toksR_err l)
  by_cases hbig : 4000 < l.length
  · have hbig' : (4000 : Int) < l.length := by omega
    go_enter Tryd.func11, Tryd.ntmps11
    go_wp2_with fail
    exact bodyPost_ret (v := .tuple #[.slice none 0 0, .int .i64 4000, .int .i64 6]) (by simp [results, Tryd.results11, go_sem]) rfl ⟨by rw [HRb.out hbig]; exact ⟨none, 0, rfl, OwnT.nil_ _ _ _⟩, Ext.refl _⟩
  · have hbig' : ¬ (4000 : Int) < l.length := by omega
    have HSK := hide (fun w => skip_any l hl 0 (Nat.zero_le _) w)
    obtain ⟨q0, hq0⟩ : ∃ q, q = 0 + skipC false (l.drop 0) := ⟨_, rfl⟩
    rw [← hq0] at HSK
    have HQ0 := hide hq0
    have hq0l : q0 ≤ l.length := by have := skipC_le false (l.drop 0); rw [hq0]; rw [List.length_drop] at this; omega
    clear hq0
    go_enter Tryd.func11, Tryd.ntmps11
    go_wp2_with (go_at_call 21; refine (HSK.out _).mono ?_; rintro e' w' ⟨rfl, rfl⟩)
    go_loopw [5, 6] (fun vb vq wr => ∃ (B : Option Addr) (cap : Nat) (ts : List Tok) (p f q : Nat), vb = .slice B ts.length cap ∧ OwnT wr w.heap.size 37 (.slice B ts.length cap) ts ∧ vq = .int .i64 (q : Int) ∧ q ≤ l.length ∧ p ≤ q ∧ ts.length ≤ p ∧ l.length + 1 ≤ f + p ∧
      Hid (q = p + skipC false (l.drop p)) ∧ Hid (toks l = joinE ts (toksF f (l.drop p) p)) ∧ Ext w wr) (fun _ vq _ => l.length + 1 - (intOf vq).toNat)
    case atStart => exact ⟨none, 0, [], 0, l.length + 1, q0, rfl, OwnT.nil_ _ _ _, rfl, hq0l, Nat.zero_le _, Nat.le_refl _, by omega, HQ0, hide (toks_start l), Ext.refl _⟩
    case round =>
      obtain ⟨B, cap, ts, p, f, q, rfl, hown, rfl, hql, hpq, htp, hfp, HQ, HJ, hx⟩ := hrel
      clear HSK HQ0 hq0l
      obtain ⟨f, rfl⟩ : ∃ g, f = g + 1 := ⟨f - 1, by omega⟩
      have HO := hide hown
      have HX := hide hx
      clear hown hx
      have hqs : q ≤ (str l).size := by rw [hsz]; exact hql
      by_cases hlt : q < l.length
      · have hlt' : (q : Int) < l.length := by omega
        have hexq : (str l).extract q l.length = str (l.drop q) := by
          have := str_extract l q l.length
          rw [List.take_of_length_le (Nat.le_refl _)] at this
          exact this
        obtain ⟨c, r, hcr⟩ : ∃ c r, l.drop q = c :: r := by
          cases h : l.drop q with
          | nil => have := congrArg List.length h; rw [List.length_drop] at this; simp at this; omega
          | cons c r => exact ⟨c, r, rfl⟩
        have hlr : (c :: r).length = l.length - q := by rw [← hcr, List.length_drop]
        rw [hcr] at hexq
        have HTK := hide (fun w => rtoken_any c r (by omega) w)
        cases ht : tokT (c :: r) with
        | error e =>
          have HT := hide (toks_err HJ.out HQ.out hcr ht)
          have he : e = 3 ∨ e = 2 ∨ e = 6 := tokT_err ht
          rw [ht] at HTK
          have htv : tokV (.error e) = .tuple #[.agg #[.int .i64 0, .string ⟨#[]⟩, .int .i64 0, .int .i64 0], .int .i64 0, .int .i64 e] := rfl
          rw [htv] at HTK
          have hne : ¬ e = 0 := by omega
          have hne2 : (e == 0) = false := by simp [hne]
          clear HJ ht hcr htv he
          go_wp2_with (go_at_call 22; refine (HTK.out _).mono ?_; rintro e' w1 ⟨rfl, hE⟩; have HE := hide (HX.out.trans hE); clear hE)
          exact bodyPost_ret (v := .tuple #[.slice none 0 0, .int .i64 q, .int .i64 e]) (by simp [results, Tryd.results11, go_sem]) rfl ⟨by rw [HRe.out _ _ hbig HT.out]; exact ⟨none, 0, rfl, OwnT.nil_ _ _ _⟩, HE.out.alloc' _⟩
        | ok y =>
          obtain ⟨⟨k, t, v⟩, n⟩ := y
          have HT := hide (toks_step HJ.out HQ.out hcr ht)
          obtain ⟨hn1, hn2⟩ := tokT_len ht
          rw [ht] at HTK
          have htv : tokV (.ok ((k, t, v), n)) = .tuple #[.agg #[.int .i64 k, .string (str t), .int .i64 v, .int .i64 0], .int .i64 (n : Int), .int .i64 0] := rfl
          rw [htv] at HTK
          have hqn : q + n ≤ l.length := by omega
          have HSK := hide (fun w => skip_any l hl (q + n) hqn w)
          obtain ⟨q1, hq1⟩ : ∃ q', q' = (q + n) + skipC false (l.drop (q + n)) := ⟨_, rfl⟩
          rw [← hq1] at HSK
          have hq1l : q1 ≤ l.length := by have := skipC_le false (l.drop (q + n)); rw [hq1]; rw [List.length_drop] at this; omega
          have hq1g : q + n ≤ q1 := by omega
          have HQ1 := hide hq1
          have hqc : ((q + n : Nat) : Int) = (q : Int) + (n : Int) := by omega
          rw [hqc] at HSK
          clear HJ ht hcr htv hq1 hqc
          go_wp2_with (first
            | (go_at_call 22; refine (HTK.out _).mono ?_; rintro e' w1 ⟨rfl, hE⟩; have HE1 := hide (HX.out.trans ((hE.alloc' (.cells #[.int .i64 k, .string (str t), .int .i64 v, .int .i64 (q : Int)] 37)).alloc' (.cells #[.int .i64 k, .string (str t), .int .i64 v, .int .i64 (q : Int)] 37))); have HO1 := hide (HO.out.ext ((hE.alloc' (.cells #[.int .i64 k, .string (str t), .int .i64 v, .int .i64 (q : Int)] 37)).alloc' (.cells #[.int .i64 k, .string (str t), .int .i64 v, .int .i64 (q : Int)] 37))); have HG1 := hide (tok_new w1 37 ⟨k, t, v, (q : Int)⟩); clear hE)
            | (go_at_call 21; refine (HSK.out _).mono ?_; rintro e' w' ⟨rfl, rfl⟩)
            | (at_builtin; refine wpList_appendT rtt rfl _ _ rfl w.heap.size (.slice B ts.length cap) ts rfl HO1.out (w1.heap.size + 1) ⟨k, t, v, (q : Int)⟩ rfl HG1.out (by omega) HE1.out.size ?_; intro A3 c3 w3 ho3 hg3 _; have HO3 := hide ho3; have HG3 := hide hg3; clear ho3 hg3))
          go_roundw
          case rel =>
            have hrow := fun k hk => (World.ownsRow.lt HO1.out k hk).1
            have hx3 := HE1.out.grown HG3.out (fun k hk => by have := hrow k hk; omega)
            refine ⟨A3, c3, ts ++ [⟨k, t, v, (q : Int)⟩], q + n, f, q1, by rw [List.length_append]; rfl, ?_, by go_num, hq1l, hq1g, by rw [List.length_append]; simp; omega, by omega, HQ1, HT, hx3⟩
            rw [List.length_append]
            exact HO3.out
          case measure => simp [intOf]; omega
      · have HT := hide (toks_end HJ.out (by have := HQ.out; omega))
        have hlt' : ¬ (q : Int) < l.length := by omega
        clear HJ
        go_wp2_with fail
        exact bodyPost_ret (v := .tuple #[.slice B ts.length cap, .int .i64 0, .int .i64 0]) (by simp [results, Tryd.results11, go_sem]) rfl ⟨by rw [HRo.out _ hbig HT.out]; exact ⟨B, cap, rfl, HO.out⟩, HX.out⟩
end Go.Proofs.YtbfjopknhlnbcaaDoor
