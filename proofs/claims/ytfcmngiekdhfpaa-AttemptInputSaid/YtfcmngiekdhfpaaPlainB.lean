/-
  The plain law of AttemptOne.
-/
import Derived.Test.YtfcmngiekdhfpaaAttK
namespace Go.Proofs.Ytfcmngiekdhfpaa
open Go.RowKit
set_option linter.unusedVariables false

def wantL (x : Pl) (steps : Int) (b c : List UInt8) : Int :=
  if validPl x = false then 0 else if x.k = 1 ∧ x.s < steps then 1 else if x.k = 2 ∧ x.s < steps then 2 else if x.k = 3 ∧ x.s < steps then 3
  else if (x.k = 6 ∧ 0 < b.length) ∨ (x.k = 7 ∧ 0 < c.length) then 5 else 0
theorem mb_ne {m : Int} (h1 : 1 ≤ m) (h2 : m ≤ 255) : mb m ≠ 0 := fun e => by
  have := congrArg UInt8.toNat e
  unfold mb at this
  rw [UInt8.toNat_ofNat'] at this
  simp at this
  omega
theorem changeL_ne {l : List UInt8} {p m : Int} (hl : 0 < l.length) (hp : 0 ≤ p) (h1 : 1 ≤ m) (h2 : m ≤ 255) : changeL l p m ≠ l := fun e => by
  unfold changeL at e
  rw [if_pos ⟨hl, hp⟩] at e
  have hk : p.toNat % l.length < l.length := Nat.mod_lt _ hl
  have := congrArg (fun z => z[p.toNat % l.length]?) e
  simp only [List.getElem?_set_self hk] at this
  rw [List.getElem?_eq_getElem hk, Option.getD_some] at this
  injection this with this
  have h3 : l[p.toNat % l.length] ^^^ (l[p.toNat % l.length] ^^^ mb m) = l[p.toNat % l.length] ^^^ l[p.toNat % l.length] := by rw [this]
  rw [← UInt8.xor_assoc, UInt8.xor_self, UInt8.zero_xor] at h3
  exact mb_ne h1 h2 h3
theorem changeL_nil {l : List UInt8} {p m : Int} (hl : ¬ 0 < l.length) : changeL l p m = l := by
  unfold changeL
  rw [if_neg (fun h => hl h.1)]
theorem valid_mask {x : Pl} (h : validPl x = true) (hk : x.k = 6 ∨ x.k = 7) : 0 ≤ x.p ∧ 1 ≤ x.m ∧ x.m ≤ 255 := by
  unfold validPl inB at h
  obtain ⟨c, n, e, k, s, p, m⟩ := x
  simp only at h hk ⊢
  rw [if_neg (by omega)] at h
  split at h
  · cases h
  · split at h
    · cases h
    · rw [if_neg (by simp; omega), if_pos (by simp; omega)] at h
      simp at h
      omega
theorem one_plain (x : Pl) (steps : Int) (b c : List UInt8) (hs : 0 ≤ steps) (hst : steps ≤ 4000) :
    causeL (outL x 0 ⟨0, steps, 0, b, c⟩) (outL x 1 ⟨0, steps, 0, b, c⟩) true = wantL x steps b c ∧
    (wantL x steps b c = 0 → (outL x 0 ⟨0, steps, 0, b, c⟩).img = b ∧ (outL x 1 ⟨0, steps, 0, b, c⟩).img = b ∧ (outL x 0 ⟨0, steps, 0, b, c⟩).eff = c) := by
  have hn : ¬ 4000 < steps := by omega
  have base : causeL ⟨0, steps, 0, b, c⟩ ⟨0, steps, 0, b, c⟩ true = 0 := by unfold causeL stopd hangs touches; simp [hn]
  cases hv : validPl x with
  | false =>
    have h0 : ∀ ex, outL x ex ⟨0, steps, 0, b, c⟩ = ⟨0, steps, 0, b, c⟩ := fun ex => by unfold outL; rw [if_pos hv]
    have hw : wantL x steps b c = 0 := by unfold wantL; rw [if_pos hv]
    rw [h0, h0, hw]
    exact ⟨base, fun _ => ⟨rfl, rfl, rfl⟩⟩
  | true =>
    obtain ⟨v1, v2, v3, v4, v5, v6⟩ := valid_bounds hv
    have hvf : ¬ validPl x = false := by rw [hv]; simp
    have hm := fun h => valid_mask hv h
    have hW : wantL x steps b c = if x.k = 1 ∧ x.s < steps then 1 else if x.k = 2 ∧ x.s < steps then 2 else if x.k = 3 ∧ x.s < steps then 3 else if (x.k = 6 ∧ 0 < b.length) ∨ (x.k = 7 ∧ 0 < c.length) then 5 else 0 := by
      unfold wantL; rw [if_neg hvf]
    -- the one that the plan does not name stays, the other one is
    have stay : ∀ ex, x.e ≠ ex → outL x ex ⟨0, steps, 0, b, c⟩ = ⟨0, steps, 0, b, c⟩ := fun ex h => by unfold outL; rw [if_neg hvf, if_pos h]
    have hit : outL x x.e ⟨0, steps, 0, b, c⟩ = if 1 ≤ x.k ∧ x.k ≤ 3 ∧ x.s < steps then (if x.k = 1 then ⟨1, x.s + 1, 0, [], []⟩ else if x.k = 3 then ⟨3, x.s + 1, 0, [], []⟩ else ⟨2, 4000, 0, [], []⟩)
        else if x.k = 6 then ⟨0, steps, 0, changeL b x.p x.m, c⟩ else if x.k = 7 then ⟨0, steps, 0, b, changeL c x.p x.m⟩ else ⟨0, steps, 0, b, c⟩ := by
      unfold outL; rw [if_neg hvf, if_neg (by simp)]; simp
    have key : ∀ q : Out, outL x x.e ⟨0, steps, 0, b, c⟩ = q → (causeL q ⟨0, steps, 0, b, c⟩ true = wantL x steps b c ∧ causeL ⟨0, steps, 0, b, c⟩ q true = wantL x steps b c ∧ (wantL x steps b c = 0 → q.img = b ∧ q.eff = c)) := by
      intro q hq
      rw [hit] at hq
      rw [hW]
      by_cases h1 : x.k = 1 ∧ x.s < steps
      · rw [if_pos ⟨by omega, by omega, h1.2⟩, if_pos h1.1] at hq
        subst hq
        rw [if_pos h1]
        refine ⟨?_, ?_, fun h => by cases h⟩ <;> (unfold causeL stopd; simp)
      rw [if_neg h1]
      by_cases h2 : x.k = 2 ∧ x.s < steps
      · rw [if_pos ⟨by omega, by omega, h2.2⟩, if_neg (by omega), if_neg (by omega)] at hq
        subst hq
        rw [if_pos h2]
        refine ⟨?_, ?_, fun h => by cases h⟩ <;> (unfold causeL stopd hangs; simp)
      rw [if_neg h2]
      by_cases h3 : x.k = 3 ∧ x.s < steps
      · rw [if_pos ⟨by omega, by omega, h3.2⟩, if_neg (by omega), if_pos h3.1] at hq
        subst hq
        rw [if_pos h3]
        refine ⟨?_, ?_, fun h => by cases h⟩ <;> (unfold causeL stopd hangs touches; simp [hn])
      rw [if_neg h3]
      rw [if_neg (by omega)] at hq
      by_cases h6 : x.k = 6
      · obtain ⟨m1, m2, m3⟩ := hm (.inl h6)
        rw [if_pos h6] at hq
        subst hq
        by_cases hb : 0 < b.length
        · rw [if_pos (.inl ⟨h6, hb⟩)]
          have hne := changeL_ne hb m1 m2 m3
          have e1 : (changeL b x.p x.m == b) = false := by simp [hne]
          have e2 : (b == changeL b x.p x.m) = false := by simp; exact fun e => hne e.symm
          refine ⟨?_, ?_, fun h => by cases h⟩
          · unfold causeL stopd hangs touches; simp [hn, hne]
          · unfold causeL stopd hangs touches; simp [hn, e2]
        · rw [changeL_nil hb, if_neg (by omega)]
          exact ⟨base, base, fun _ => ⟨rfl, rfl⟩⟩
      rw [if_neg h6] at hq
      by_cases h7 : x.k = 7
      · obtain ⟨m1, m2, m3⟩ := hm (.inr h7)
        rw [if_pos h7] at hq
        subst hq
        by_cases hc : 0 < c.length
        · rw [if_pos (.inr ⟨h7, hc⟩)]
          have hne := changeL_ne hc m1 m2 m3
          have e2 : (c == changeL c x.p x.m) = false := by simp; exact fun e => hne e.symm
          refine ⟨?_, ?_, fun h => by cases h⟩
          · unfold causeL stopd hangs touches; simp [hn, hne]
          · unfold causeL stopd hangs touches; simp [hn, e2]
        · rw [changeL_nil hc, if_neg (by omega)]
          exact ⟨base, base, fun _ => ⟨rfl, rfl⟩⟩
      rw [if_neg h7] at hq
      subst hq
      rw [if_neg (by omega)]
      exact ⟨base, base, fun _ => ⟨rfl, rfl⟩⟩
    obtain ⟨k1, k2, k3⟩ := key _ rfl
    by_cases he : x.e = 0
    · rw [stay 1 (by omega)]
      rw [he] at k1 k3
      exact ⟨k1, fun h => ⟨(k3 h).1, rfl, (k3 h).2⟩⟩
    · have he1 : x.e = 1 := by omega
      rw [stay 0 he]
      rw [he1] at k2 k3
      exact ⟨k2, fun h => ⟨rfl, (k3 h).1, rfl⟩⟩
end Go.Proofs.Ytfcmngiekdhfpaa
