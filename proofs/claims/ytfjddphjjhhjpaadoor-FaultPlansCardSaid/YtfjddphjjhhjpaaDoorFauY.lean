/-
  FaultPlans: the plain law of the reference's Parse.
-/
import Derived.Test.YtfjddphjjhhjpaaDoorFauX
namespace Go.Proofs.YtfjddphjjhhjpaaDoor
open Go.RowKit
set_option linter.unusedVariables false

/-- The last name of the first j that is this one (but for the first name). -/
def kU (x : List UInt8) : Nat → Int
  | 0 => 0
  | j + 1 => if 1 ≤ j ∧ namesL.getD j [] = x then (j : Int) else kU x j
def wd (ws : List (List UInt8)) (i : Nat) : List UInt8 := ws.getD i []
/-- The plan that the words make. -/
def refP (ws : List (List UInt8)) : Pl :=
  if inB (kU (wd ws 2) 10) 1 3 then ⟨numL (wd ws 0), numL (wd ws 1), numL (wd ws 3), kU (wd ws 2) 10, numL (wd ws 4), 0, 0⟩
  else if inB (kU (wd ws 2) 10) 4 7 then ⟨numL (wd ws 0), numL (wd ws 1), numL (wd ws 3), kU (wd ws 2) 10, 0, numL (wd ws 4), numL (wd ws 5)⟩
  else if kU (wd ws 2) 10 = 8 then ⟨numL (wd ws 0), numL (wd ws 1), 0, kU (wd ws 2) 10, numL (wd ws 3), 0, 0⟩
  else ⟨numL (wd ws 0), numL (wd ws 1), 0, kU (wd ws 2) 10, 0, 0, 0⟩
theorem kU_name {k : Int} (h : 1 ≤ k ∧ k ≤ 9) : kU (nameK k) 10 = k := by
  rcases kind_ways h with rfl | rfl | rfl | rfl | rfl | rfl | rfl | rfl | rfl <;> decide
theorem kU_le (x : List UInt8) : ∀ j, 0 ≤ kU x j ∧ kU x j ≤ j
  | 0 => by unfold kU; omega
  | j + 1 => by
    have := kU_le x j
    unfold kU
    split <;> omega
theorem numL_dec {v : Int} (h0 : 0 ≤ v) (h1 : v ≤ 1000000) : (numL (decI v) : Int) = v := by
  obtain ⟨n, rfl⟩ := Int.eq_ofNat_of_zero_le h0
  unfold decI
  rw [Int.toNat_natCast]
  obtain ⟨q1, q2, q3⟩ := dec_spec (n + 1) n (by omega)
  have q4 := dec_length 6 n (by omega)
  unfold numL
  rw [if_pos ⟨by omega, q1⟩, q3]
theorem refP_words {x : Pl} (h : validPl x = true) (hk : x.k ≠ 0) : refP (wordsP x) = x := by
  have hw := valid_ways h
  have gk := valid_kind h hk
  obtain ⟨c, n, e, k, s, p, m⟩ := x
  simp only at hk gk hw
  simp only [Pl.mk.injEq] at hw
  rcases hw with hw | ⟨hc, hn, hw⟩
  · exact absurd hw.2.2.2.1 hk
  have ek := kU_name gk
  have ec := numL_dec (v := c) (by omega) (by omega)
  have en := numL_dec (v := n) (by omega) (by omega)
  unfold refP wordsP usedL wd
  simp only [List.getD_cons_zero, List.getD_cons_succ, ek, ec, en]
  by_cases k1 : inB k 1 3 = true
  · rw [if_pos k1, if_pos k1]
    rw [inB_iff] at k1
    have e1 := numL_dec (v := e) (by omega) (by omega)
    have e2 := numL_dec (v := s) (by omega) (by omega)
    simp only [List.map_cons, List.map_nil, List.getD_cons_zero, List.getD_cons_succ, e1, e2, Pl.mk.injEq, true_and]
    omega
  · rw [if_neg k1, if_neg k1]
    rw [inB_iff] at k1
    by_cases k2 : inB k 4 7 = true
    · rw [if_pos k2, if_pos k2]
      rw [inB_iff] at k2
      have e1 := numL_dec (v := e) (by omega) (by omega)
      have e2 := numL_dec (v := p) (by omega) (by omega)
      have e3 := numL_dec (v := m) (by omega) (by omega)
      simp only [List.map_cons, List.map_nil, List.getD_cons_zero, List.getD_cons_succ, e1, e2, e3, Pl.mk.injEq, true_and, and_true]
      omega
    · rw [if_neg k2, if_neg k2]
      rw [inB_iff] at k2
      by_cases k3 : k = 8
      · rw [if_pos k3, if_pos k3]
        have e1 := numL_dec (v := s) (by omega) (by omega)
        simp only [List.map_cons, List.map_nil, List.getD_cons_zero, e1, Pl.mk.injEq, true_and]
        omega
      · rw [if_neg k3]
        simp only [Pl.mk.injEq, true_and]
        omega
/-- A notation other than none is that of the plan of its words, or of none. -/
theorem refP_all {x : Pl} {s : List UInt8} (h : validPl x = true) (hs : printL x = s) (hn : s ≠ [110, 111, 110, 101]) : refP (splitS s) = x := by
  have hk : x.k ≠ 0 := fun hk => hn (by rw [← hs]; unfold printL; rw [if_pos hk])
  rw [← hs, split_print (valid_kind h hk), refP_words h hk]
theorem wd_pad (ws : List (List UInt8)) (i : Nat) : wd (ws ++ [[]]) i = wd ws i := by
  unfold wd
  simp only [List.getD_eq_getElem?_getD, List.getElem?_append]
  split
  · rfl
  · rename_i h
    rw [List.getElem?_eq_none (l := ws) (by omega)]
    cases (i - ws.length) <;> simp
theorem refP_pad (ws : List (List UInt8)) : refP (ws ++ [[]]) = refP ws := by
  unfold refP
  simp only [wd_pad]
theorem parse_none : ParseP [110, 111, 110, 101] ⟨0, 0, 0, 0, 0, 0, 0⟩ 0 := .inl ⟨by decide, by decide, rfl⟩
theorem parse_bad {s : List UInt8} {x : Pl} (hx : refP (splitS s) = x) (hn : s ≠ [110, 111, 110, 101]) (h : ¬ (printE x = 0 ∧ printS x = s)) : ParseP s ⟨0, 0, 0, 0, 0, 0, 0⟩ 3 := by
  refine .inr ⟨rfl, rfl, fun y hy he => h ?_⟩
  have := refP_all hy he hn
  rw [hx] at this
  subst this
  unfold printE printS
  rw [hy]
  exact ⟨rfl, he⟩
theorem parse_good {s : List UInt8} {x : Pl} (h : printE x = 0 ∧ printS x = s) : ParseP s x 0 := by
  have hv : validPl x = true := by
    cases hv : validPl x with
    | true => rfl
    | false => have := h.1; unfold printE at this; rw [hv] at this; cases this
  refine .inl ⟨hv, ?_, rfl⟩
  have := h.2
  unfold printS at this
  rw [hv] at this
  exact this
end Go.Proofs.YtfjddphjjhhjpaaDoor
