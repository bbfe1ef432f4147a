/-
  The program's Tokens.
-/
import Derived.Test.YtbfjopknhlnbcaaDoorLexH
namespace Go.Proofs.YtbfjopknhlnbcaaDoor
open Go.RowKit
set_option linter.unusedVariables false

/-! ### rows of tokens -/
def tkCells (t : Tok) : List Value := [.int .i64 t.k, .string (str t.t), .int .i64 t.v, .int .i64 t.f]
def tkRow (ts : List Tok) : List Value := ts.flatMap tkCells
theorem tkRow_length : ∀ ts : List Tok, (tkRow ts).length = ts.length * 4
  | [] => rfl
  | t :: ts => by
    have := tkRow_length ts
    simp only [tkRow, List.flatMap_cons, List.length_append, tkCells, List.length_cons, List.length_nil] at this ⊢
    omega
theorem tkRow_app (a b : List Tok) : tkRow (a ++ b) = tkRow a ++ tkRow b := by simp [tkRow]
/-- The slice value v, a row of the call's own from block base on, holds the tokens ts. -/
def OwnT (w : World) (base : Nat) (e : TypeId) (v : Value) (ts : List Tok) : Prop := w.ownsRow base e 4 v ts.length (tkRow ts)
theorem OwnT.nil_ (w : World) (base : Nat) (e : TypeId) : OwnT w base e (.slice none 0 0) [] := World.ownsRow_nil w base e 4
theorem OwnT.form {w : World} {base : Nat} {e : TypeId} {v : Value} {ts : List Tok} (h : OwnT w base e v ts) : ∃ A cap, v = .slice A ts.length cap := by
  rcases h.2 with ⟨rfl, h0⟩ | ⟨g, cap, cur, rfl, _⟩
  · exact ⟨none, 0, by rw [h0]⟩
  · exact ⟨_, _, rfl⟩
theorem OwnT.grown {w w' : World} {base : Nat} {e : TypeId} {v : Value} {ts : List Tok} {row : Option Nat} (h : OwnT w base e v ts) (hg : w.grownBy w' row) (hr : v.ownBlock = none ∨ v.ownBlock ≠ row) : OwnT w' base e v ts := World.ownsRow.kept h hg hr
theorem OwnT.ext {w w' : World} {base : Nat} {e : TypeId} {v : Value} {ts : List Tok} (h : OwnT w base e v ts) (he : Ext w w') : OwnT w' base e v ts := h.grown (he.grownBy none) (by cases v.ownBlock <;> simp)
structure TokT (P : Program) (t e : TypeId) : Prop where
  under : P.underlying t = some (.slice e)
  info : (P.info? e).map (fun i => (i.zero, i.size, i.bytes)) = some (some (.agg #[.int .i64 0, .string ⟨#[]⟩, .int .i64 0, .int .i64 0]), 4, 40)
theorem run_appendT {P : Program} {w : World} {t e : TypeId} (hT : TokT P t e) (ty : TypeId) (base : Nat) (v : Value) (ts : List Tok) (hown : OwnT w base e v ts) (g : Nat) (x : Tok)
    (hg : w.heap[g]? = some (.cells #[.int .i64 x.k, .string (str x.t), .int .i64 x.v, .int .i64 x.f] e (0, 0))) (hb : ts.length ≤ 1073741824) (hbase : base ≤ w.heap.size) :
    ∃ A' cap' w', (Builtin.append_ #[t, t] ty #[v, .slice (some ⟨g, 0, none⟩) 1 1]).run P w = .ok (.slice A' (ts.length + 1) cap') w' ∧ OwnT w' base e (.slice A' (ts.length + 1) cap') (ts ++ [x]) ∧ w.grownBy w' v.ownBlock ∧
      (Value.ownBlock (.slice A' (ts.length + 1) cap') = v.ownBlock ∨ Value.ownBlock (.slice A' (ts.length + 1) cap') = some w.heap.size) := by
  obtain ⟨i, hi, hz, hz1, hz2⟩ := info_parts hT.info
  obtain ⟨v', w', hr, h2, h3, _, h5⟩ := run_append_own_at (P := P) w base t ty e i (.agg #[.int .i64 0, .string ⟨#[]⟩, .int .i64 0, .int .i64 0]) 4 40 hT.under hi hz hz1 hz2 rfl (by decide) v ts.length (tkRow ts) hown ⟨g, 0, none⟩ 1 1 (tkCells x) rfl
    (fun j y hj => by
      rw [Addr.add_lit, Nat.zero_add, cell_of_row w g j _ e (0, 0) hg]
      simpa [tkCells] using hj) (by simp [tkCells, Value.oneCell']) (by simp only [maxLen]; omega) (by omega) hbase
  have hO : OwnT w' base e v' (ts ++ [x]) := by
    unfold OwnT
    rw [List.length_append, tkRow_app]
    simpa [tkRow] using h2
  obtain ⟨A', cap', rfl⟩ := hO.form
  rw [List.length_append] at hO hr h5
  exact ⟨A', cap', w', hr, hO, h3, h5⟩
theorem wpList_appendT {P : Program} {w : World} {ops : Array Oper} {rest : List Oper} {o : Oper} {a : Act} {Q : Exit → Act → World → Prop} {t e : TypeId} (hT : TokT P t e) (hgd : o.guard = none) (s x : Operand)
    (ho : o.op = .call { callee := .builtin .append, args := #[s, x], argTypes := #[t, t] }) (base : Nat) (v : Value) (ts : List Tok) (hv : a.eval s = v) (hown : OwnT w base e v ts)
    (g : Nat) (y : Tok) (hx : a.eval x = .slice (some ⟨g, 0, none⟩) 1 1) (hg : w.heap[g]? = some (.cells #[.int .i64 y.k, .string (str y.t), .int .i64 y.v, .int .i64 y.f] e (0, 0))) (hb : ts.length ≤ 1073741824) (hbase : base ≤ w.heap.size)
    (h : ∀ A' cap' w', OwnT w' base e (.slice A' (ts.length + 1) cap') (ts ++ [y]) → w.grownBy w' v.ownBlock →
      (Value.ownBlock (.slice A' (ts.length + 1) cap') = v.ownBlock ∨ Value.ownBlock (.slice A' (ts.length + 1) cap') = some w.heap.size) → wpList P ops Q rest (a.put o.dst (.slice A' (ts.length + 1) cap')) w') :
    wpList P ops Q (o :: rest) a w := by
  obtain ⟨A', cap', w', hr, h1, h2, h3⟩ := run_appendT (P := P) (w := w) hT o.type base v ts hown g y hg hb hbase
  refine wpList_plain hgd fun K hK => ?_
  unfold Oper.wp execOp
  simp only [ho, resolve, invoke, builtin, Sem.run_bind, Sem.run_pure, Result.andThen_ok, List.map_toArray, List.map_cons, List.map_nil, hv, hx, hr]
  exact hK _ _ (h A' cap' w' h1 h2 h3)
theorem tt : TokT Tryd.prog 23 34 := ⟨Tryd.underlying23, by kernel_rfl⟩
theorem rtt : TokT Tryd.prog 27 37 := ⟨Tryd.underlying27, by kernel_rfl⟩

/-! ### the tokens' plain law -/
theorem litF_pos : ∀ (f : Nat) (m : List UInt8) (t : List UInt8) (n : Nat), litF f m = some (t, n) → 1 ≤ n ∧ n ≤ m.length
  | 0, m, t, n, h => by cases h
  | f + 1, [], t, n, h => by cases h
  | f + 1, c :: r, t, n, h => by
    simp only [litF] at h
    split at h
    · cases h; exact ⟨Nat.le_refl _, by simp⟩
    · split at h
      · cases h
      · obtain ⟨⟨t', n'⟩, h1, h2⟩ := Option.map_eq_some_iff.1 h
        cases h2
        have := litF_pos f _ t' n' h1
        have h3 := elemL_le (c :: r)
        rw [List.length_drop] at this
        omega
theorem head_some_length {l : List UInt8} {c : UInt8} (h : l.head? = some c) : 1 ≤ l.length := by cases l <;> simp at h ⊢
theorem tokT_len {c : UInt8} {r : List UInt8} {x : Int × List UInt8 × Int} {n : Nat} (h : tokT (c :: r) = .ok (x, n)) : 1 ≤ n ∧ n ≤ (c :: r).length := by
  have hp : letB c = true → 1 ≤ spanN prtB (c :: r) := fun h => by simp [spanN, prtB, h]
  have hd : digB c = true → 1 ≤ spanN digB (c :: r) := fun h => by simp [spanN, h]
  have hp2 := spanN_le prtB (c :: r)
  have hd2 := spanN_le digB (c :: r)
  simp only [tokT] at h
  split at h
  · rename_i hL
    unfold wordT at h
    split at h
    · cases h; exact ⟨hp hL, hp2⟩
    · split at h
      · cases h
      · cases h; exact ⟨hp hL, hp2⟩
  · split at h
    · rename_i hD
      unfold numT at h
      split at h
      · cases h
      · split at h
        · cases h
        · cases h; exact ⟨hd hD, hd2⟩
    · split at h
      · unfold charT at h
        split at h
        · cases h
        · rename_i hc
          cases h
          have h3 : ((c :: r).drop ((elemL ((c :: r).drop 1)).2 + 1)).head? = some 39 := by
            refine Classical.byContradiction fun hne => hc (.inr (.inr hne))
          have := head_some_length h3
          rw [List.length_drop] at this
          omega
      · split at h
        · unfold textT at h
          split at h
          · cases h
          · rename_i t n' hl
            split at h
            · cases h
            · cases h
              have := litF_pos _ _ _ _ hl
              rw [List.length_drop] at this
              omega
        · unfold markT at h
          split at h
          · rename_i hc
            cases h
            have : ∀ t ∈ two, t.length = 2 := by decide
            have h2 : ((c :: r).take 2).length = 2 := this _ (List.contains_iff_mem.1 hc)
            rw [List.length_take] at h2
            omega
          · split at h
            · cases h; exact ⟨Nat.le_refl _, by simp⟩
            · cases h
theorem tokT_err {c : UInt8} {r : List UInt8} {e : Int} (h : tokT (c :: r) = .error e) : e = 3 ∨ e = 2 ∨ e = 6 := by
  simp only [tokT] at h
  unfold wordT numT charT textT markT at h
  repeat' split at h
  all_goals cases h
  all_goals first | exact .inl rfl | exact .inr (.inl rfl) | exact .inr (.inr rfl)
def joinE (ts : List Tok) : Except (Nat × Int) (List Tok) → Except (Nat × Int) (List Tok)
  | .error e => .error e
  | .ok us => .ok (ts ++ us)
theorem toks_start (l : List UInt8) : toks l = joinE [] (toksF (l.length + 1) (l.drop 0) 0) := by
  unfold toks
  rw [List.drop_zero]
  cases toksF (l.length + 1) l 0 <;> simp [joinE]
theorem toks_end {l : List UInt8} {f p : Nat} {ts : List Tok} (h : toks l = joinE ts (toksF (f + 1) (l.drop p) p)) (he : l.length ≤ p + skipC false (l.drop p)) : toks l = .ok ts := by
  rw [h]
  have : (l.drop p).drop (skipC false (l.drop p)) = [] := by
    rw [List.drop_drop]
    exact List.drop_of_length_le he
  simp only [toksF, this, joinE, List.append_nil]
theorem toks_err {l : List UInt8} {f p q : Nat} {ts : List Tok} {c : UInt8} {r : List UInt8} {e : Int} (h : toks l = joinE ts (toksF (f + 1) (l.drop p) p)) (hq : q = p + skipC false (l.drop p)) (hd : l.drop q = c :: r) (ht : tokT (c :: r) = .error e) : toks l = .error (q, e) := by
  rw [h]
  have : (l.drop p).drop (skipC false (l.drop p)) = c :: r := by
    rw [List.drop_drop, ← hq, hd]
  simp only [toksF, this, ht, joinE, hq]
theorem toks_step {l : List UInt8} {f p q : Nat} {ts : List Tok} {c : UInt8} {r : List UInt8} {k : Int} {t : List UInt8} {v : Int} {n : Nat} (h : toks l = joinE ts (toksF (f + 1) (l.drop p) p)) (hq : q = p + skipC false (l.drop p)) (hd : l.drop q = c :: r)
    (ht : tokT (c :: r) = .ok ((k, t, v), n)) : toks l = joinE (ts ++ [⟨k, t, v, (q : Nat)⟩]) (toksF f (l.drop (q + n)) (q + n)) := by
  rw [h]
  have h1 : (l.drop p).drop (skipC false (l.drop p)) = c :: r := by
    rw [List.drop_drop, ← hq, hd]
  have h2 : l.drop (q + n) = (c :: r).drop n := by rw [← hd, List.drop_drop]
  rw [h2]
  simp only [toksF, h1, ht, ← hq]
  cases toksF f ((c :: r).drop n) (q + n) <;> simp [joinE]
end Go.Proofs.YtbfjopknhlnbcaaDoor
