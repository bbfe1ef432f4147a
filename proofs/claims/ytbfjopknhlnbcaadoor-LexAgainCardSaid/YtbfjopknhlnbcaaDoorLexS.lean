/-
  awake of layer 47; LexTokens.
-/
import Derived.Test.YtbfjopknhlnbcaaDoorLexR
namespace Go.Proofs.YtbfjopknhlnbcaaDoor
open Go.RowKit
set_option linter.unusedVariables false

theorem toksF_length : ∀ (f : Nat) (m : List UInt8) (a : Nat) (ts : List Tok), toksF f m a = .ok ts → ts.length ≤ m.length
  | 0, m, a, ts, h => by cases h; simp
  | f + 1, m, a, ts, h => by
    simp only [toksF] at h
    split at h
    · cases h; simp
    · rename_i c r hd
      split at h
      · cases h
      · rename_i k t v n ht
        have hn := tokT_len ht
        split at h
        · cases h
        · rename_i us hu
          cases h
          have := toksF_length f _ _ us hu
          have hl : (c :: r).length ≤ m.length := by rw [← hd, List.length_drop]; omega
          rw [List.length_drop] at this
          simp only [List.length_cons] at this hl hn ⊢
          omega
theorem toksR_length (l : List UInt8) : (toksR l).1.length ≤ 4000 := by
  unfold toksR
  split
  · simp
  · split
    · rename_i h _ ts ht
      have := toksF_length _ _ _ _ ht
      show ts.length ≤ 4000
      omega
    · simp
/-- "x1=='a' // y" and " 12a". -/
def wakA : List UInt8 := [120, 49, 61, 61, 39, 97, 39, 32, 47, 47, 32, 121]
def wakB : List UInt8 := [32, 49, 50, 97]
theorem wakA_toks : toksR wakA = ([⟨1, [120, 49], 0, 0⟩, ⟨5, [61, 61], 0, 2⟩, ⟨3, [], 97, 4⟩], 0, 0) := by decide +kernel
theorem wakB_toks : toksR wakB = ([], 1, 3) := by decide +kernel
set_option maxRecDepth 100000 in
set_option maxHeartbeats 4000000 in
theorem awake47_any (w : World) (hz : EZ w) : Calls Tryd.prog 9 #[] w fun e w' => e = .returned (.bool true) ∧ Ext w w' := by
  have HZ := hide hz
  have h1 := tokens_any wakA (by decide) w hz
  have h2 := fun w' h => tokens_any wakB (by decide) w' h
  rw [wakA_toks] at h1
  simp only [wakB_toks] at h2
  have H1 := hide (show Calls Tryd.prog 10 #[.string ⟨#[120, 49, 61, 61, 39, 97, 39, 32, 47, 47, 32, 121]⟩] w (fun e w' => TokensP 34 w.heap.size ([⟨1, [120, 49], 0, 0⟩, ⟨5, [61, 61], 0, 2⟩, ⟨3, [], 97, 4⟩], 0, 0) e w' ∧ Ext w w') from h1)
  have H2 := hide (fun w' h => (show Calls Tryd.prog 10 #[.string ⟨#[32, 49, 50, 97]⟩] w' (fun e w'' => TokensP 34 w'.heap.size ([], 1, 3) e w'' ∧ Ext w' w'') from h2 w' h))
  clear hz h1 h2
  have hc34 : Tryd.prog.cellsOf 34 = 4 := by kernel_rfl
  go_enter Tryd.func9, Tryd.ntmps9
  go_wp2_with (first
    | (go_at_call 10; refine H1.out.mono ?_; rintro e w1 ⟨⟨A1, c1, rfl, ho1⟩, hE1⟩; have HO1 := hide ho1; have HE1 := hide hE1; clear ho1 hE1 H1)
    | (go_at_call 10; refine (H2.out w1 (HZ.out.ext HE1.out)).mono ?_; rintro e w2 ⟨⟨A2, c2, rfl, ho2⟩, hE2⟩; have HO2 := hide ho2; have HE2 := hide hE2; clear ho2 hE2 H2
       obtain ⟨b, off, rfl, hb, p0, p1, p2, p3⟩ := (HO1.out.tks.2.ext HE2.out).at_ 0 (by decide)
       obtain ⟨b', off', hbb, hb', q0, q1, q2, q3⟩ := (HO1.out.tks.2.ext HE2.out).at_ 1 (by decide)
       obtain ⟨b'', off'', hbb2, hb'', r0, r1, r2, r3⟩ := (HO1.out.tks.2.ext HE2.out).at_ 2 (by decide)
       cases hbb; cases hbb2
       simp only [Nat.zero_mul, Nat.one_mul, Nat.reduceMul, Nat.add_assoc, Nat.reduceAdd, Nat.add_zero, List.getElem_cons_zero, List.getElem_cons_succ] at p0 p1 p2 p3 q0 q1 q2 q3 r0 r1 r2 r3))
  go_ret
  exact ⟨rfl, HE1.out.trans HE2.out⟩
set_option maxRecDepth 100000 in
set_option maxHeartbeats 4000000 in
theorem lextokens_any (l : List UInt8) (hmx : l.length ≤ maxLen) (w : World) (hz : EZ w) : Calls Tryd.prog 3 #[.string (str l)] w fun e w' => e = .returned (.bool true) ∧ Ext w w' := by
  have hsz : (str l).size = l.length := str_size l
  have HZ := hide hz
  clear hz
  by_cases hbig : 4100 < l.length
  · have hbig' : (4100 : Int) < l.length := by omega
    go_enter Tryd.func3, Tryd.ntmps3
    go_wp2_with (go_at_call 9; refine (awake47_any _ HZ.out).mono ?_; rintro e w1 ⟨rfl, hE1⟩; have HE1 := hide hE1; clear hE1)
    go_ret
    exact ⟨rfl, HE1.out⟩
  · have hbig' : ¬ (4100 : Int) < l.length := by omega
    have hl : l.length ≤ 100000 := by omega
    have HT := hide (fun w' h => tokens_any l hl w' h)
    have HRT := hide (fun w' => rtokens_any l hl w')
    have htl := toksR_length l
    generalize toksR l = r at *
    obtain ⟨ts, pl, er⟩ := r
    simp only at htl
    have htl2 : ts.length ≤ 100000 := by omega
    have hpp : (pl == pl) = true := by simp
    have hee : (er == er) = true := by simp
    go_enter Tryd.func3, Tryd.ntmps3
    go_wp2_with (first
      | (go_at_call 9; refine (awake47_any _ HZ.out).mono ?_; rintro e w1 ⟨rfl, hE1⟩; have HE1 := hide hE1; clear hE1)
      | (go_at_call 10; refine (HT.out w1 (HZ.out.ext HE1.out)).mono ?_; rintro e w2 ⟨⟨A1, c1, rfl, ho1⟩, hE2⟩; have HO1 := hide ho1; have HE2 := hide (HE1.out.trans hE2); clear ho1 hE2)
      | (go_at_call 11; refine (HRT.out w2).mono ?_; rintro e w3 ⟨⟨A2, c2, rfl, ho2⟩, hE3⟩; have HO2 := hide ho2; have HE3 := hide (HE2.out.trans hE3); have HK1 := hide (HO1.out.tks.2.ext hE3); clear ho2 hE3)
      | (go_at_call 13; refine (theirs_any A1 c1 ts w3 HK1.out htl2).mono ?_; rintro e w4 ⟨⟨A3, c3, rfl, ho3⟩, hE4⟩; have HO3 := hide ho3; have HE4 := hide (HE3.out.trans hE4); have HK2 := hide (HO2.out.tks.2.ext hE4); clear ho3 hE4)
      | (go_at_call 12; refine (same_any A3 A2 c3 c2 ts ts true w4 HO3.out.tks.2 HK2.out htl2 htl2).mono ?_; rw [sameL_refl]; rintro e w5 ⟨rfl, hE5⟩; have HE5 := hide (HE4.out.trans hE5); clear hE5))
    go_ret
    exact ⟨rfl, HE5.out⟩
end Go.Proofs.YtbfjopknhlnbcaaDoor
