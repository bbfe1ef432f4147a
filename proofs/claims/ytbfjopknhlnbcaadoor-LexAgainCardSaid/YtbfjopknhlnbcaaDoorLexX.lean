/-
  Append of a slice of tokens to a row of tokens.
-/
import Derived.Test.YtbfjopknhlnbcaaDoorLexU
import Derived.Test.YtbfjopknhlnbcaaDoorLexW
namespace Go.Proofs.YtbfjopknhlnbcaaDoor
open Go.RowKit
set_option linter.unusedVariables false

theorem tkRow_one : ∀ (ts : List Tok), ∀ u ∈ tkRow ts, u.oneCell' = true
  | [], u, h => by cases h
  | t :: ts, u, h => by
    have h : u ∈ tkCells t ++ tkRow ts := h
    rcases List.mem_append.1 h with h | h
    · simp only [tkCells, List.mem_cons, List.not_mem_nil, or_false] at h
      rcases h with rfl | rfl | rfl | rfl <;> rfl
    · exact tkRow_one ts u h
theorem run_appendTs {P : Program} {w : World} {t e : TypeId} (hT : TokT P t e) (ty : TypeId) (base : Nat) (v : Value) (ts : List Tok) (hown : OwnT w base e v ts) (A : Option Addr) (cap base2 : Nat) (us : List Tok) (hs : OwnT w base2 e (.slice A us.length cap) us)
    (hb : ts.length + us.length ≤ 1073741824) (hbase : base ≤ w.heap.size) :
    ∃ A' cap' w', (Builtin.append_ #[t, t] ty #[v, .slice A us.length cap]).run P w = .ok (.slice A' (ts.length + us.length) cap') w' ∧ OwnT w' base e (.slice A' (ts.length + us.length) cap') (ts ++ us) ∧ w.grownBy w' v.ownBlock ∧
      (Value.ownBlock (.slice A' (ts.length + us.length) cap') = v.ownBlock ∨ Value.ownBlock (.slice A' (ts.length + us.length) cap') = some w.heap.size) := by
  obtain ⟨i, hi, hz, hz1, hz2⟩ := info_parts hT.info
  have fin : ∀ v' w', (Builtin.append_ #[t, t] ty #[v, .slice A us.length cap]).run P w = .ok v' w' → w'.ownsRow base e 4 v' (ts.length + us.length) (tkRow ts ++ tkRow us) → w.grownBy w' v.ownBlock → (v'.ownBlock = v.ownBlock ∨ v'.ownBlock = some w.heap.size) →
      ∃ A' cap' w', (Builtin.append_ #[t, t] ty #[v, .slice A us.length cap]).run P w = .ok (.slice A' (ts.length + us.length) cap') w' ∧ OwnT w' base e (.slice A' (ts.length + us.length) cap') (ts ++ us) ∧ w.grownBy w' v.ownBlock ∧
        (Value.ownBlock (.slice A' (ts.length + us.length) cap') = v.ownBlock ∨ Value.ownBlock (.slice A' (ts.length + us.length) cap') = some w.heap.size) := by
    intro v' w' hr ho hg hbk
    have ho' : OwnT w' base e v' (ts ++ us) := by unfold OwnT; rw [List.length_append, tkRow_app]; exact ho
    obtain ⟨A', cap', rfl⟩ := ho'.form
    rw [List.length_append] at hr ho' hbk
    exact ⟨A', cap', w', hr, ho', hg, hbk⟩
  rcases hs.2 with ⟨hv, hn⟩ | ⟨g, c, cur, hv, hb2, hg, hnc, hcm, hcs, ht⟩
  · injection hv with a1 a2 a3
    subst a1 a3
    have h0 : us = [] := List.eq_nil_of_length_eq_zero hn
    subst h0
    refine fin v w ?_ (by unfold OwnT at hown; simpa [tkRow] using hown) (World.grownBy.refl w _) (.inl rfl)
    rcases hown.2 with ⟨rfl, hl⟩ | ⟨g, c, cur, rfl, _, _, hnc, _⟩
    · have : ts = [] := List.eq_nil_of_length_eq_zero hl
      subst this
      simp [Builtin.append_, run_underlying hT.under, sizeOf, typeInfo, hi, Builtin.lenOf, Builtin.firstCells]
    · simp [Builtin.append_, run_underlying hT.under, sizeOf, typeInfo, hi, Builtin.lenOf, Builtin.firstCells, hnc, storeCells]
  · injection hv with a1 a2 a3
    subst a1 a3
    obtain ⟨v', w', hrun, h2, h3, _, h5⟩ := run_append_own_at (P := P) w base t ty e i (.agg #[.int .i64 0, .string ⟨#[]⟩, .int .i64 0, .int .i64 0]) 4 40 hT.under hi hz hz1 hz2 rfl (by decide) v ts.length (tkRow ts) hown ⟨g, 0, none⟩ us.length cap (tkRow us) (tkRow_length us)
      (fun j u hj => by
        rw [Addr.add_lit, Nat.zero_add, cell_of_row w g j cur e (0, 0) hg]
        rw [← ht, List.getElem?_take] at hj
        split at hj
        · simpa using hj
        · cases hj) (tkRow_one us) (by simp only [maxLen]; omega) (by omega) hbase
    exact fin v' w' hrun h2 h3 h5
/-- 'append(v, us...)': as an operation. -/
theorem wp_appendTs {P : Program} {w : World} {o : Oper} {a : Act} {K : Act → World → Prop} {Q : Exit → Act → World → Prop} {t e : TypeId} (hT : TokT P t e) (s x : Operand)
    (ho : o.op = .call { callee := .builtin .append, args := #[s, x], argTypes := #[t, t] }) (base : Nat) (v : Value) (ts : List Tok) (hv : a.eval s = v) (hown : OwnT w base e v ts) (A : Option Addr) (cap base2 n : Nat) (us : List Tok) (hn : us.length = n) (hy : a.eval x = .slice A n cap)
    (hs : OwnT w base2 e (.slice A n cap) us) (hb : ts.length + n ≤ 1073741824) (hbase : base ≤ w.heap.size)
    (h : ∀ A' cap' w', OwnT w' base e (.slice A' (ts.length + n) cap') (ts ++ us) → w.grownBy w' v.ownBlock →
      (Value.ownBlock (.slice A' (ts.length + n) cap') = v.ownBlock ∨ Value.ownBlock (.slice A' (ts.length + n) cap') = some w.heap.size) → K (a.put o.dst (.slice A' (ts.length + n) cap')) w') : o.wp P a w K Q := by
  subst hn
  obtain ⟨A', cap', w', hr, q1, q2, q3⟩ := run_appendTs (P := P) hT o.type base v ts hown A cap base2 us hs hb hbase
  unfold Oper.wp execOp
  simp only [ho, resolve, invoke, builtin, Sem.run_bind, Sem.run_pure, Result.andThen_ok, List.map_toArray, List.map_cons, List.map_nil, hv, hy, hr]
  exact h A' cap' w' q1 q2 q3
theorem toksF_place : ∀ (f : Nat) (m : List UInt8) (a p : Nat) (e : Int), toksF f m a = .error (p, e) → p ≤ a + m.length
  | 0, m, a, p, e, h => by cases h
  | f + 1, m, a, p, e, h => by
    have hs := skipC_le false m
    simp only [toksF] at h
    split at h
    · cases h
    · rename_i c r hd
      have hl : (c :: r).length = m.length - skipC false m := by rw [← hd, List.length_drop]
      split at h
      · cases h; omega
      · rename_i k t v n ht
        have hn := tokT_len ht
        split at h
        · rename_i x hu
          cases h
          have := toksF_place f _ _ _ _ hu
          rw [List.length_drop] at this
          omega
        · cases h
/-- The three outcomes of two programs parted by a line feed. -/
theorem parts_ways (l m : List UInt8) (hl : l.length ≤ 1000) (hm : m.length ≤ 1000) :
    (∃ p e, toksR l = ([], p, e) ∧ (e == 0) = false ∧ toksR (l ++ 10 :: m) = ([], p, e)) ∨
    (∃ xs, ∃ p : Nat, ∃ e, p ≤ 1000 ∧ toksR l = (xs, 0, 0) ∧ toksR m = ([], (p : Int), e) ∧ (e == 0) = false ∧ toksR (l ++ 10 :: m) = ([], (p : Int) + (l.length : Int) + 1, e)) ∨
    (∃ xs ys, toksR l = (xs, 0, 0) ∧ toksR m = (ys, 0, 0) ∧ toksR (l ++ 10 :: m) = (xs ++ ys.map (sh (l.length + 1)), 0, 0)) := by
  have hlen : ¬ 4000 < (l ++ 10 :: m).length := by simp; omega
  have hp := toks_parts l m
  rcases toksR_shape l (by omega) with ⟨p, e, h1, h2, h3⟩ | ⟨xs, h1, h2⟩
  · rw [h1] at hp
    exact .inl ⟨_, e, h2, h3, toksR_err _ p e hlen hp⟩
  · rw [h1] at hp
    rcases toksR_shape m (by omega) with ⟨p, e, k1, k2, k3⟩ | ⟨ys, k1, k2⟩
    · rw [k1] at hp
      refine .inr (.inl ⟨xs, p, e, by have := toksF_place _ _ _ _ _ k1; omega, h2, k2, k3, ?_⟩)
      rw [toksR_err _ _ e hlen hp]
      congr 2
    · rw [k1] at hp
      exact .inr (.inr ⟨xs, ys, h2, k2, toksR_ok _ _ hlen hp⟩)
end Go.Proofs.YtbfjopknhlnbcaaDoor
