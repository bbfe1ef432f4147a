/-
  The program's Tokens: the walk.
-/
import Derived.Test.YtbfjopknhlnbcaaDoorLexI
namespace Go.Proofs.YtbfjopknhlnbcaaDoor
open Go.RowKit
set_option linter.unusedVariables false

/-- What Tokens returns: its slice is a row of its own. -/
def TokensP (ty : TypeId) (base : Nat) (r : List Tok × Int × Int) (e : Ending) (w' : World) : Prop :=
  ∃ A cap, e = .returned (.tuple #[.slice A r.1.length cap, .int .i64 r.2.1, .int .i64 r.2.2]) ∧ OwnT w' base ty (.slice A r.1.length cap) r.1
theorem toksR_big (l : List UInt8) (h : 4000 < l.length) : toksR l = ([], 4000, 6) := by unfold toksR; rw [if_pos h]
theorem toksR_ok (l : List UInt8) (ts : List Tok) (h : ¬ 4000 < l.length) (ht : toks l = .ok ts) : toksR l = (ts, 0, 0) := by unfold toksR; rw [if_neg h, ht]
theorem toksR_err (l : List UInt8) (p : Nat) (e : Int) (h : ¬ 4000 < l.length) (ht : toks l = .error (p, e)) : toksR l = ([], (p : Int), e) := by unfold toksR; rw [if_neg h, ht]
theorem tok_new (w : World) (e : TypeId) (x : Tok) : ((w.alloc (.cells #[.int .i64 x.k, .string (str x.t), .int .i64 x.v, .int .i64 x.f] e)).alloc (.cells #[.int .i64 x.k, .string (str x.t), .int .i64 x.v, .int .i64 x.f] e)).heap[w.heap.size + 1]? = some (.cells #[.int .i64 x.k, .string (str x.t), .int .i64 x.v, .int .i64 x.f] e (0, 0)) := by
  have := heap_alloc_new (w.alloc (.cells #[.int .i64 x.k, .string (str x.t), .int .i64 x.v, .int .i64 x.f] e)) (.cells #[.int .i64 x.k, .string (str x.t), .int .i64 x.v, .int .i64 x.f] e)
  rwa [World.size_alloc] at this
set_option maxRecDepth 100000 in
set_option maxHeartbeats 4000000 in
theorem tokens_any (l : List UInt8) (hl : l.length ≤ 100000) (w : World) (hz : EZ w) : Calls Tryd.prog 10 #[.string (str l)] w fun e w' => TokensP 34 w.heap.size (toksR l) e w' ∧ Ext w w' := by
  have hsz : (str l).size = l.length := str_size l
  have HZ := hide hz
  clear hz
  have HRb := hide (toksR_big l)
  have HRo := hide (toksR_ok l)
  have HRe := hide (toksR_err l)
  by_cases hbig : 4000 < l.length
  · have hbig' : (4000 : Int) < l.length := by omega
    go_enter Tryd.func10, Tryd.ntmps10
    go_wp2_with fail
    exact bodyPost_ret (v := .tuple #[.slice none 0 0, .int .i64 4000, .int .i64 6]) (by simp [results, Tryd.results10, go_sem]) rfl ⟨by rw [HRb.out hbig]; exact ⟨none, 0, rfl, OwnT.nil_ _ _ _⟩, Ext.refl _⟩
  · have hbig' : ¬ (4000 : Int) < l.length := by omega
    go_enter Tryd.func10, Tryd.ntmps10
    go_wp2_with fail
    go_loopw [2, 3] (fun vb vp wr => ∃ (B : Option Addr) (cap : Nat) (ts : List Tok) (p f : Nat), vb = .slice B ts.length cap ∧ OwnT wr w.heap.size 34 (.slice B ts.length cap) ts ∧ vp = .int .i64 (p : Int) ∧ p ≤ l.length ∧ ts.length ≤ p ∧ l.length + 1 ≤ f + p ∧
      Hid (toks l = joinE ts (toksF f (l.drop p) p)) ∧ Ext w wr) (fun _ vp _ => l.length + 1 - (intOf vp).toNat)
    case atStart => exact ⟨none, 0, [], 0, l.length + 1, rfl, OwnT.nil_ _ _ _, rfl, Nat.zero_le _, Nat.le_refl _, by omega, hide (toks_start l), Ext.refl _⟩
    case round =>
      obtain ⟨B, cap, ts, p, f, rfl, hown, rfl, hp, htp, hfp, HJ, hx⟩ := hrel
      obtain ⟨f, rfl⟩ : ∃ g, f = g + 1 := ⟨f - 1, by omega⟩
      have HO := hide hown
      have HX := hide hx
      clear hown hx
      have hps : p ≤ (str l).size := by rw [hsz]; exact hp
      have hex : (str l).extract p l.length = str (l.drop p) := by
        have := str_extract l p l.length
        rw [List.take_of_length_le (Nat.le_refl _)] at this
        exact this
      have HBL := hide (fun w => blank_any (l.drop p) (by rw [List.length_drop]; omega) w)
      have hsk : p + skipC false (l.drop p) ≤ l.length := by have := skipC_le false (l.drop p); rw [List.length_drop] at this; omega
      obtain ⟨q, hq⟩ : ∃ q, q = p + skipC false (l.drop p) := ⟨_, rfl⟩
      have hqi : (p : Int) + (skipC false (l.drop p) : Int) = (q : Int) := by omega
      by_cases hend : l.length ≤ q
      · have HT := hide (toks_end HJ.out (by omega))
        have hqn : q = l.length := by omega
        have hend' : (l.length : Int) ≤ q := by omega
        generalize skipC false (l.drop p) = s at *
        clear hq HJ
        go_wp2_with (go_at_call 19; refine (HBL.out _).mono ?_; rintro e w' ⟨rfl, rfl⟩)
        exact bodyPost_ret (v := .tuple #[.slice B ts.length cap, .int .i64 0, .int .i64 0]) (by simp [results, Tryd.results10, go_sem]) rfl ⟨by rw [HRo.out _ hbig HT.out]; exact ⟨B, cap, rfl, HO.out⟩, HX.out⟩
      · have hend' : ¬ (l.length : Int) ≤ q := by omega
        have hqs : q ≤ (str l).size := by rw [hsz]; omega
        have hexq : (str l).extract q l.length = str (l.drop q) := by
          have := str_extract l q l.length
          rw [List.take_of_length_le (Nat.le_refl _)] at this
          exact this
        obtain ⟨c, r, hcr⟩ : ∃ c r, l.drop q = c :: r := by
          cases h : l.drop q with
          | nil => have := congrArg List.length h; rw [List.length_drop] at this; simp at this; omega
          | cons c r => exact ⟨c, r, rfl⟩
        have hlr : (c :: r).length = l.length - q := by rw [← hcr, List.length_drop]
        rw [hcr] at hexq
        have HTK := hide (fun w h => token_any c r (by omega) w h)
        cases ht : tokT (c :: r) with
        | error e =>
          have HT := hide (toks_err HJ.out hq hcr ht)
          have he : e = 3 ∨ e = 2 ∨ e = 6 := tokT_err ht
          rw [ht] at HTK
          have htv : tokV (.error e) = .tuple #[.agg #[.int .i64 0, .string ⟨#[]⟩, .int .i64 0, .int .i64 0], .int .i64 0, .int .i64 e] := rfl
          rw [htv] at HTK
          have hne : ¬ e = 0 := by omega
          have hne2 : (e == 0) = false := by simp [hne]
          generalize skipC false (l.drop p) = s at *
          clear hq HJ ht hcr htv he
          go_wp2_with (first
            | (go_at_call 19; refine (HBL.out _).mono ?_; rintro e w' ⟨rfl, rfl⟩)
            | (go_at_call 20; refine (HTK.out _ (HZ.out.ext HX.out)).mono ?_; rintro e' w1 ⟨rfl, hE⟩; have HE := hide (HX.out.trans hE); clear hE))
          exact bodyPost_ret (v := .tuple #[.slice none 0 0, .int .i64 q, .int .i64 e]) (by simp [results, Tryd.results10, go_sem]) rfl ⟨by rw [HRe.out _ _ hbig HT.out]; exact ⟨none, 0, rfl, OwnT.nil_ _ _ _⟩, HE.out.alloc' _⟩
        | ok y =>
          obtain ⟨⟨k, t, v⟩, n⟩ := y
          have HT := hide (toks_step HJ.out hq hcr ht)
          obtain ⟨hn1, hn2⟩ := tokT_len ht
          rw [ht] at HTK
          have htv : tokV (.ok ((k, t, v), n)) = .tuple #[.agg #[.int .i64 k, .string (str t), .int .i64 v, .int .i64 0], .int .i64 (n : Int), .int .i64 0] := rfl
          rw [htv] at HTK
          generalize skipC false (l.drop p) = s at *
          clear hq HJ ht hcr htv
          go_wp2_with (first
            | (go_at_call 19; refine (HBL.out _).mono ?_; rintro e w' ⟨rfl, rfl⟩)
            | (go_at_call 20; refine (HTK.out _ (HZ.out.ext HX.out)).mono ?_; rintro e' w1 ⟨rfl, hE⟩; have HE1 := hide (HX.out.trans ((hE.alloc' (.cells #[.int .i64 k, .string (str t), .int .i64 v, .int .i64 (q : Int)] 34)).alloc' (.cells #[.int .i64 k, .string (str t), .int .i64 v, .int .i64 (q : Int)] 34))); have HO1 := hide (HO.out.ext ((hE.alloc' (.cells #[.int .i64 k, .string (str t), .int .i64 v, .int .i64 (q : Int)] 34)).alloc' (.cells #[.int .i64 k, .string (str t), .int .i64 v, .int .i64 (q : Int)] 34))); have HG1 := hide (tok_new w1 34 ⟨k, t, v, (q : Int)⟩); clear hE)
            | (at_builtin; refine wpList_appendT tt rfl _ _ rfl w.heap.size (.slice B ts.length cap) ts rfl HO1.out (w1.heap.size + 1) ⟨k, t, v, (q : Int)⟩ rfl HG1.out (by omega) HE1.out.size ?_; intro A3 c3 w3 ho3 hg3 _; have HO3 := hide ho3; have HG3 := hide hg3; clear ho3 hg3))
          go_roundw
          case rel =>
            have hrow := fun k hk => (World.ownsRow.lt HO1.out k hk).1
            have hx3 := HE1.out.grown HG3.out (fun k hk => by have := hrow k hk; omega)
            refine ⟨A3, c3, ts ++ [⟨k, t, v, (q : Int)⟩], q + n, f, by rw [List.length_append]; rfl, ?_, by go_num, by omega, by rw [List.length_append]; simp; omega, by omega, HT, hx3⟩
            rw [List.length_append]
            exact HO3.out
          case measure => simp [intOf]; omega
end Go.Proofs.YtbfjopknhlnbcaaDoor
