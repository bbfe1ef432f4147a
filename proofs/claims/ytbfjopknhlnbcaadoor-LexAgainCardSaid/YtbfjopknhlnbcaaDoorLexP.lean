/-
  What the lexer computes, in plain words: bytes, spans, blanks, elements, tokens.
-/
import Derived.Test.YtbfjopknhlnbcaaDoorProg
namespace Go.Proofs.YtbfjopknhlnbcaaDoor
set_option linter.unusedVariables false

def letB (c : UInt8) : Bool := decide (97 ≤ (c ||| 32).toNat ∧ (c ||| 32).toNat ≤ 122)
def digB (c : UInt8) : Bool := decide (48 ≤ c.toNat ∧ c.toNat ≤ 57)
def prtB (c : UInt8) : Bool := letB c || digB c || c == 95
def wsB (c : UInt8) : Bool := c == 32 || c == 9 || c == 10 || c == 13
theorem letB_iff (c : UInt8) : letB c = (decide (97 ≤ c.toNat ∧ c.toNat ≤ 122) || decide (65 ≤ c.toNat ∧ c.toNat ≤ 90)) := by
  have : ∀ n : Fin 256, letB (UInt8.ofNat n.val) = (decide (97 ≤ (UInt8.ofNat n.val).toNat ∧ (UInt8.ofNat n.val).toNat ≤ 122) || decide (65 ≤ (UInt8.ofNat n.val).toNat ∧ (UInt8.ofNat n.val).toNat ≤ 90)) := by decide +kernel
  have h := this ⟨c.toNat, c.toNat_lt⟩
  rwa [UInt8.ofNat_toNat] at h
/-- The keywords: var func if else while return. -/
def kws : List (List UInt8) := [[118, 97, 114], [102, 117, 110, 99], [105, 102], [101, 108, 115, 101], [119, 104, 105, 108, 101], [114, 101, 116, 117, 114, 110]]
def kwB (l : List UInt8) : Bool := kws.contains l
/-- How many bytes at the beginning are permitted. -/
def spanN (p : UInt8 → Bool) : List UInt8 → Nat
  | [] => 0
  | c :: l => if p c then spanN p l + 1 else 0
theorem spanN_le (p : UInt8 → Bool) : ∀ l, spanN p l ≤ l.length
  | [] => Nat.le_refl _
  | c :: l => by
    simp only [spanN]
    split
    · have := spanN_le p l; simp; omega
    · simp
theorem spanN_drop (p : UInt8 → Bool) : ∀ (l : List UInt8) (j : Nat), j ≤ spanN p l → spanN p l = j + spanN p (l.drop j)
  | l, 0, _ => by simp
  | [], j + 1, h => by simp [spanN] at h
  | c :: l, j + 1, h => by
    simp only [spanN] at h ⊢
    split at h
    · rename_i hc
      rw [if_pos hc, List.drop_succ_cons, spanN_drop p l j (by omega)]
      omega
    · omega
theorem spanN_step (p : UInt8 → Bool) {l : List UInt8} {j : Nat} (h : j < l.length) : spanN p (l.drop j) = if p l[j] then spanN p (l.drop (j + 1)) + 1 else 0 := by
  rw [List.drop_eq_getElem_cons h]; rfl
/-- How many blanks lie at the beginning; 'true': inside a comment. -/
def skipC : Bool → List UInt8 → Nat
  | _, [] => 0
  | false, c :: l => if wsB c then skipC false l + 1 else if c = 47 ∧ l.head? = some 47 then skipC true l + 1 else 0
  | true, c :: l => if c = 10 then skipC false l + 1 else skipC true l + 1
theorem skipC_le : ∀ (b : Bool) (l : List UInt8), skipC b l ≤ l.length
  | b, [] => by cases b <;> simp [skipC]
  | false, c :: l => by
    simp only [skipC]
    split
    · have := skipC_le false l; simp; omega
    · split
      · have := skipC_le true l; simp; omega
      · simp
  | true, c :: l => by
    simp only [skipC]
    split
    · have := skipC_le false l; simp; omega
    · have := skipC_le true l; simp; omega
/-- Inside a comment: up to the line feed. -/
def lineN : List UInt8 → Nat := spanN (fun c => c != 10)
theorem skipC_line : ∀ l, skipC true l = lineN l + skipC false (l.drop (lineN l))
  | [] => rfl
  | c :: l => by
    simp only [skipC, lineN, spanN]
    by_cases hc : c = 10
    · subst hc
      have hb : ((10 : UInt8) != 10) = false := by decide
      have hw : wsB 10 = true := by decide
      rw [if_pos rfl, if_neg (by rw [hb]; simp)]
      simp [skipC, hw]
    · have hb : (c != 10) = true := by simp [hc]
      rw [if_neg hc, if_pos hb, skipC_line l, List.drop_succ_cons]
      simp only [lineN]
      omega
theorem skipC_comment {l : List UInt8} (h : ∃ r, l = 47 :: 47 :: r) : skipC false l = lineN l + skipC false (l.drop (lineN l)) := by
  obtain ⟨r, rfl⟩ := h
  rw [← skipC_line]
  have h1 : wsB 47 = false := by decide
  have h2 : ¬ (47 : UInt8) = 10 := by decide
  simp [skipC, h1, h2]
/-- What stands for a byte behind a backslash. -/
def escV (c : UInt8) : Option UInt8 := if c = 110 then some 10 else if c = 116 then some 9 else if c = 48 then some 0 else if c = 92 then some 92 else if c = 39 then some 39 else if c = 34 then some 34 else none
def elemL : List UInt8 → UInt8 × Nat
  | [] => (0, 0)
  | c :: r => if c.toNat < 32 ∨ 126 < c.toNat then (0, 0) else if c ≠ 92 then (c, 1) else match r with
    | [] => (0, 0)
    | d :: _ => match escV d with
      | some v => (v, 2)
      | none => (0, 0)
theorem elemL_le (l : List UInt8) : (elemL l).2 ≤ l.length ∧ (elemL l).2 ≤ 2 := by
  match l with
  | [] => exact ⟨Nat.le_refl _, by decide⟩
  | [c] =>
    simp only [elemL]
    split
    · exact ⟨by simp, by simp⟩
    · split
      · exact ⟨by simp, by simp⟩
      · exact ⟨by simp, by simp⟩
  | c :: d :: r =>
    simp only [elemL]
    split
    · exact ⟨by simp, by simp⟩
    · split
      · exact ⟨by simp, by simp⟩
      · split <;> exact ⟨by simp, by simp⟩
/-- What the string at the beginning (behind its mark) stands for, and its length with the closing mark. -/
def litF : Nat → List UInt8 → Option (List UInt8 × Nat)
  | 0, _ => none
  | f + 1, m => match m with
    | [] => none
    | c :: r => if c = 34 then some ([], 1) else if (elemL (c :: r)).2 = 0 then none else (litF f ((c :: r).drop (elemL (c :: r)).2)).map fun x => ((elemL (c :: r)).1 :: x.1, (elemL (c :: r)).2 + x.2)
theorem litF_more : ∀ (f g : Nat) (m : List UInt8), m.length ≤ f → f ≤ g → litF g m = litF f m
  | 0, g, m, h, _ => by
    have : m = [] := List.eq_nil_of_length_eq_zero (by omega)
    subst this
    cases g <;> rfl
  | f + 1, 0, m, h, hg => by omega
  | f + 1, g + 1, m, h, hg => by
    cases m with
    | nil => rfl
    | cons c r =>
      simp only [litF]
      split
      · rfl
      · split
        · rfl
        · rename_i h0
          rw [litF_more f g _ (by have := elemL_le (c :: r); simp only [List.length_drop, List.length_cons] at h ⊢; omega) (by omega)]
def litL (m : List UInt8) : Option (List UInt8 × Nat) := litF m.length m
theorem litL_nil : litL [] = none := rfl
theorem litL_end (r : List UInt8) : litL (34 :: r) = some ([], 1) := by simp [litL, litF]
theorem litL_bad {c : UInt8} {r : List UInt8} (h : c ≠ 34) (h0 : (elemL (c :: r)).2 = 0) : litL (c :: r) = none := by
  simp only [litL, List.length_cons, litF]
  rw [if_neg h, if_pos h0]
theorem litL_step {c : UInt8} {r : List UInt8} (h : c ≠ 34) (h0 : (elemL (c :: r)).2 ≠ 0) : litL (c :: r) = (litL ((c :: r).drop (elemL (c :: r)).2)).map fun x => ((elemL (c :: r)).1 :: x.1, (elemL (c :: r)).2 + x.2) := by
  have hl := elemL_le (c :: r)
  simp only [litL, List.length_cons, litF]
  rw [if_neg h, if_neg h0, litF_more _ r.length _ (Nat.le_refl _) (by simp only [List.length_drop, List.length_cons]; omega)]
/-- The value of decimal digits. -/
def decV (l : List UInt8) : Nat := l.foldl (fun v c => v * 10 + (c.toNat - 48)) 0
abbrev TokR := Except Int ((Int × List UInt8 × Int) × Nat)
def wordT (l : List UInt8) : TokR := if kwB (l.take (spanN prtB l)) then .ok ((2, l.take (spanN prtB l), 0), spanN prtB l) else if 14 < spanN prtB l then .error 6 else .ok ((1, l.take (spanN prtB l), 0), spanN prtB l)
def numT (l : List UInt8) : TokR :=
  if (l.drop (spanN digB l)).head?.any prtB then .error 3
  else if 10 < spanN digB l ∨ (1 < spanN digB l ∧ l.head? = some 48) ∨ 2147483647 < decV (l.take (spanN digB l)) then .error 2
  else .ok ((3, [], decV (l.take (spanN digB l))), spanN digB l)
def charT (l : List UInt8) : TokR :=
  if (elemL (l.drop 1)).2 = 0 ∨ (l.drop 1).head? = some 39 ∨ (l.drop ((elemL (l.drop 1)).2 + 1)).head? ≠ some 39 then .error 3 else .ok ((3, [], ((elemL (l.drop 1)).1.toNat : Int)), (elemL (l.drop 1)).2 + 2)
def textT (l : List UInt8) : TokR := match litL (l.drop 1) with
  | none => .error 3
  | some (t, n) => if 128 < t.length then .error 6 else .ok ((4, t, 0), n + 1)
def two : List (List UInt8) := [[61, 61], [33, 61], [60, 61], [62, 61], [38, 38], [124, 124]]
def ones : List UInt8 := [40, 41, 123, 125, 91, 93, 44, 59, 61, 43, 45, 42, 47, 37, 60, 62, 33]
def markT (l : List UInt8) : TokR := if two.contains (l.take 2) then .ok ((5, l.take 2, 0), 2) else if (l.head?.any fun c => ones.contains c) then .ok ((5, l.take 1, 0), 1) else .error 3
/-- The token at the beginning of a string that is not empty. -/
def tokT (l : List UInt8) : TokR := match l with
  | [] => .error 3
  | c :: r => if letB c then wordT (c :: r) else if digB c then numT (c :: r) else if c = 39 then charT (c :: r) else if c = 34 then textT (c :: r) else markT (c :: r)
structure Tok where
  k : Int
  t : List UInt8
  v : Int
  f : Int
deriving DecidableEq
/-- The tokens from a place on: the place and the number of the first error, or the tokens. -/
def toksF : Nat → List UInt8 → Nat → Except (Nat × Int) (List Tok)
  | 0, _, _ => .ok []
  | f + 1, m, at_ =>
    match m.drop (skipC false m) with
    | [] => .ok []
    | c :: r => match tokT (c :: r) with
      | .error e => .error (at_ + skipC false m, e)
      | .ok ((k, t, v), n) => match toksF f ((c :: r).drop n) (at_ + skipC false m + n) with
        | .error e => .error e
        | .ok ts => .ok (⟨k, t, v, (at_ + skipC false m : Nat)⟩ :: ts)
def toks (l : List UInt8) : Except (Nat × Int) (List Tok) := toksF (l.length + 1) l 0
/-- What Tokens returns. -/
def toksR (l : List UInt8) : List Tok × Int × Int := if 4000 < l.length then ([], 4000, 6) else match toks l with
  | .ok ts => (ts, 0, 0)
  | .error (p, e) => ([], p, e)
end Go.Proofs.YtbfjopknhlnbcaaDoor
