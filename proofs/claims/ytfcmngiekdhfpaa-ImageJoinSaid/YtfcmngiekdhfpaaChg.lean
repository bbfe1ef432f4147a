/-
  Slices of changes (a number and a string of bytes), as memory holds them.
-/
import Derived.Test.YtfcmngiekdhfpaaVoc
import Derived.Test.YtfcmngiekdhfpaaProg
namespace Go.Proofs.Ytfcmngiekdhfpaa
open Go.RowKit
set_option linter.unusedVariables false

abbrev Chg := Int × List UInt8
theorem Sl.grown {w w' : World} {A : Option Addr} {cap : Nat} {l : List UInt8} {row : Option Nat} (h : Sl w A cap l) (hg : w.grownBy w' row) (hne : l = [] ∨ ∀ a, A = some a → some a.block ≠ row) : Sl w' A cap l := by
  refine ⟨h.le, h.max, h.nil, ?_⟩
  rcases hne with h0 | hne
  · exact .inl h0
  · refine h.rd.imp id fun ⟨b, off, ha, hb, hc⟩ => ⟨b, off, ha, Nat.lt_of_lt_of_le hb hg.size, fun i hi => hg.cell (hc i hi) (hne ⟨b, off, none⟩ ha)⟩
theorem Sl.lt {w : World} {A : Option Addr} {cap : Nat} {l : List UInt8} (h : Sl w A cap l) : l = [] ∨ ∀ a, A = some a → a.block < w.heap.size := by
  refine h.rd.imp id fun ⟨b, off, ha, hb, _⟩ a h => ?_
  rw [ha] at h
  injection h with h
  subst h
  exact hb

/-- Where bytes of the call's own lie: from block base on, not in block r. -/
def Apart (base : Nat) (r : Option Nat) (A : Option Addr) (l : List UInt8) : Prop := l = [] ∨ ∀ a, A = some a → base ≤ a.block ∧ some a.block ≠ r
/-- The two cells u, v hold the change c; its bytes lie apart. -/
def ChV (w : World) (base : Nat) (r : Option Nat) (u v : Value) (c : Chg) : Prop :=
  u = .int .i64 c.1 ∧ ∃ A cap, v = .slice A c.2.length cap ∧ Sl w A cap c.2 ∧ Apart base r A c.2
/-- The slice value v, a row of the call's own from block base on, holds the changes cs. -/
def OwnCh (w : World) (base : Nat) (e : TypeId) (v : Value) (cs : List Chg) : Prop :=
  ∃ xs : List Value, w.ownsRow base e 2 v cs.length xs ∧ ∀ i, (h : i < cs.length) → ∃ u x, xs[i * 2]? = some u ∧ xs[i * 2 + 1]? = some x ∧ ChV w base v.ownBlock u x cs[i]
structure Chs (w : World) (A : Option Addr) (cap : Nat) (cs : List Chg) : Prop where
  le : cs.length ≤ cap
  max : cap ≤ maxLen
  rd : cs = [] ∨ ∃ b off, A = some ⟨b, off, none⟩ ∧ b < w.heap.size ∧ ∀ i, (h : i < cs.length) → ∃ Ai ci, w.cell? ⟨b, off + i * 2, none⟩ = some (.int .i64 cs[i].1) ∧
    w.cell? ⟨b, off + i * 2 + 1, none⟩ = some (.slice Ai cs[i].2.length ci) ∧ Sl w Ai ci cs[i].2
theorem Chs.none_ (w : World) : Chs w none 0 [] := ⟨by simp, by simp [maxLen], .inl rfl⟩
theorem Chs.ext {w w' : World} {A : Option Addr} {cap : Nat} {cs : List Chg} (h : Chs w A cap cs) (he : Ext w w') : Chs w' A cap cs :=
  ⟨h.le, h.max, h.rd.imp id fun ⟨b, off, ha, hb, hc⟩ => ⟨b, off, ha, Nat.lt_of_lt_of_le hb he.size, fun i hi =>
    let ⟨Ai, ci, h1, h2, h3⟩ := hc i hi; ⟨Ai, ci, (he.cell b _ hb).trans h1, (he.cell b _ hb).trans h2, h3.ext he⟩⟩⟩
theorem OwnCh.nil_ (w : World) (base : Nat) (e : TypeId) : OwnCh w base e (.slice none 0 0) [] := ⟨[], World.ownsRow_nil w base e 2, fun i h => absurd h (by simp)⟩
theorem OwnCh.form {w : World} {base : Nat} {e : TypeId} {v : Value} {cs : List Chg} (h : OwnCh w base e v cs) : ∃ A cap, v = .slice A cs.length cap := by
  obtain ⟨xs, h, _⟩ := h
  rcases h.2 with ⟨rfl, h0⟩ | ⟨g, cap, cur, rfl, _⟩
  · exact ⟨none, 0, by rw [h0]⟩
  · exact ⟨_, _, rfl⟩
theorem OwnCh.chs {w : World} {base : Nat} {e : TypeId} {A : Option Addr} {n cap : Nat} {cs : List Chg} (h : OwnCh w base e (.slice A n cap) cs) : n = cs.length ∧ Chs w A cap cs := by
  obtain ⟨xs, h, hc⟩ := h
  rcases h.2 with ⟨hv, hn⟩ | ⟨g, c, cur, hv, hb, hg, hnc, hcm, hcs, ht⟩
  · injection hv with a1 a2 a3
    subst a1 a2 a3
    have : cs = [] := List.eq_nil_of_length_eq_zero hn
    subst this
    exact ⟨rfl, Chs.none_ w⟩
  · injection hv with a1 a2 a3
    subst a1 a2 a3
    refine ⟨rfl, hnc, hcm, .inr ⟨g, 0, rfl, (Array.getElem?_eq_some_iff.1 hg).1, fun i hi => ?_⟩⟩
    obtain ⟨u, x, h1, h2, rfl, Ai, ci, rfl, hs, _⟩ := hc i hi
    have cell : ∀ j y, xs[j]? = some y → w.cell? ⟨g, j, none⟩ = some y := fun j y hy => by
      rw [cell_of_row w g j cur e (0, 0) hg]
      rw [← ht, List.getElem?_take] at hy
      split at hy
      · simpa using hy
      · cases hy
    exact ⟨Ai, ci, by rw [Nat.zero_add]; exact cell _ _ h1, by rw [Nat.zero_add]; exact cell _ _ h2, hs⟩
theorem OwnCh.grown {w w' : World} {base : Nat} {e : TypeId} {v : Value} {cs : List Chg} {row : Option Nat} (h : OwnCh w base e v cs) (hg : w.grownBy w' row)
    (hd : ∀ k, row = some k → w.heap.size ≤ k ∨ k < base) : OwnCh w' base e v cs := by
  obtain ⟨xs, h1, h2⟩ := h
  have hv : v.ownBlock = none ∨ v.ownBlock ≠ row := by
    cases hb : v.ownBlock with
    | none => exact .inl rfl
    | some k =>
      refine .inr fun e => ?_
      have h3 := h1.lt k hb
      have h4 := hd k e.symm
      omega
  refine ⟨xs, h1.kept hg hv, fun i hi => ?_⟩
  obtain ⟨u, x, a, b, c, A, cap, d, f, g⟩ := h2 i hi
  refine ⟨u, x, a, b, c, A, cap, d, f.grown hg ?_, g⟩
  rcases g with g | g
  · exact .inl g
  · rcases f.lt with f | f
    · exact .inl f
    · refine .inr fun a ha e => ?_
      have h1 := hd _ e.symm
      have h2 := f a ha
      have h3 := (g a ha).1
      omega
theorem OwnCh.ext {w w' : World} {base : Nat} {e : TypeId} {v : Value} {cs : List Chg} (h : OwnCh w base e v cs) (he : Ext w w') : OwnCh w' base e v cs := h.grown (he.grownBy none) (fun k e => by cases e)
theorem OwnCh.set {w : World} {base : Nat} {e : TypeId} {v : Value} {cs : List Chg} (h : OwnCh w base e v cs) {p : Addr} (hp : p.block < base) (u : Value) : OwnCh (w.setCell p u) base e v cs :=
  h.grown (row := some p.block) ⟨rfl, rfl, rfl, by simp [World.setCell], fun k _ hk => Below.heap_setCell w p u k (fun e => hk (by rw [e]))⟩ (fun k e => by injection e with e; omega)
/-- A row of one change, apart. -/
def OneCh (base : Nat) (r : Option Nat) (e : TypeId) (c : Chg) (v : Value) (w : World) : Prop :=
  ∃ g u x, v = .slice (some ⟨g, 0, none⟩) 1 1 ∧ w.heap[g]? = some (.cells #[u, x] e (0, 0)) ∧ some g ≠ r ∧ ChV w base r u x c
/-- A slice of bytes, apart. -/
def SlX (base : Nat) (r : Option Nat) (l : List UInt8) (v : Value) (w : World) : Prop := ∃ A cap, v = .slice A l.length cap ∧ Sl w A cap l ∧ Apart base r A l
def ShSl (n : Nat) (v : Value) : Prop := ∃ A cap, v = .slice A n cap
theorem SlX.grown {base : Nat} {r : Option Nat} {l : List UInt8} {v : Value} {w w' : World} (h : SlX base r l v w) (hg : w.grownBy w' r) : SlX base r l v w' :=
  let ⟨A, cap, h1, h2, h3⟩ := h; ⟨A, cap, h1, h2.grown hg (h3.imp id fun h a ha => (h a ha).2), h3⟩
theorem ChV.grown {base : Nat} {r : Option Nat} {u v : Value} {c : Chg} {w w' : World} (h : ChV w base r u v c) (hg : w.grownBy w' r) : ChV w' base r u v c :=
  let ⟨h0, A, cap, h1, h2, h3⟩ := h; ⟨h0, A, cap, h1, h2.grown hg (h3.imp id fun h a ha => (h a ha).2), h3⟩
theorem OneCh.grown {base : Nat} {r : Option Nat} {e : TypeId} {c : Chg} {v : Value} {w w' : World} (h : OneCh base r e c v w) (hg : w.grownBy w' r) : OneCh base r e c v w' :=
  let ⟨g, u, x, h1, h2, h3, h4⟩ := h; ⟨g, u, x, h1, (hg.block g (Array.getElem?_eq_some_iff.1 h2).1 h3).trans h2, h3, h4.grown hg⟩
theorem Own.slX {w : World} {base : Nat} {e : TypeId} {A : Option Addr} {n cap : Nat} {l : List UInt8} {base' : Nat} {r : Option Nat} (h : Own w base e (.slice A n cap) l) (hb : base' ≤ base) (hr : ∀ k, r = some k → k < base) : SlX base' r l (.slice A l.length cap) w :=
  ⟨A, cap, rfl, h.sl.2, .inr fun a ha => by
    have hlt := World.ownsRow.lt h a.block (by rw [ha]; rfl)
    exact ⟨by omega, fun e => by have := hr _ e.symm; omega⟩⟩
/-- '[]byte{}' of the call's own, apart. -/
def EmX (base : Nat) (r : Option Nat) (e : TypeId) (v : Value) (w : World) : Prop := EmB base e v w ∧ v.ownBlock ≠ r
theorem EmX.grown {base : Nat} {r : Option Nat} {e : TypeId} {v : Value} {w w' : World} (h : EmX base r e v w) (hg : w.grownBy w' r) : EmX base r e v w' :=
  ⟨let ⟨g, h1, h2⟩ := h.1; ⟨g, h1, h2.grown hg (.inr h.2)⟩, h.2⟩
theorem EmX.new (w : World) (e : TypeId) {base : Nat} {r : Option Nat} (hb : base ≤ w.heap.size) (hr : ∀ k, r = some k → k < w.heap.size) : EmX base r e (.slice (some ⟨w.heap.size, 0, none⟩) 0 0) (w.alloc (.cells #[] e)) :=
  ⟨EmB.new w e hb, fun h => by have := hr _ h.symm; simp at this⟩
theorem Own.slX2 {w w' : World} {base : Nat} {e : TypeId} {A : Option Addr} {n cap : Nat} {l : List UInt8} {r : Option Nat} {v : Value} (h : Own w' base e (.slice A n cap) l) (hv : v.ownBlock ≠ r) (hr : ∀ k, r = some k → k < w.heap.size)
    (ha : ∀ a, A = some a → v.ownBlock = some a.block ∨ a.block = w.heap.size) : SlX base r l (.slice A l.length cap) w' :=
  ⟨A, cap, rfl, h.sl.2, .inr fun a h' => by
    refine ⟨(World.ownsRow.lt h a.block (by rw [h']; rfl)).1, fun e => ?_⟩
    rcases ha a h' with q | q
    · exact hv (q.trans e)
    · have := hr _ e.symm; omega⟩
theorem OneCh.mk_ {base : Nat} {r : Option Nat} {e : TypeId} {k : Int} {l : List UInt8} {A : Option Addr} {n c : Nat} {w : World} (h : SlX base r l (.slice A n c) w) (hr : ∀ g, r = some g → g < w.heap.size) :
    OneCh base r e (k, l) (.slice (some ⟨w.heap.size, 0, none⟩) 1 1) (w.alloc (.cells #[.int .i64 k, .slice A n c] e)) := by
  obtain ⟨A', c', h1, h2, h3⟩ := h
  injection h1 with e1 e2 e3
  subst e1 e2 e3
  exact ⟨w.heap.size, _, _, rfl, heap_alloc_new w _, fun e => by have := hr _ e.symm; omega, rfl, A, c, rfl, h2.ext ((Below.refl _ _).alloc (Nat.le_refl _) _), h3⟩
theorem SlX.sl {base : Nat} {r : Option Nat} {l : List UInt8} {A : Option Addr} {n cap : Nat} {w : World} (h : SlX base r l (.slice A n cap) w) : Sl w A cap l := by
  obtain ⟨A', cap', h1, h2, _⟩ := h
  injection h1 with e1 e2 e3
  subst e1 e3
  exact h2

/-- t is the type of slices of changes, e that of a change. -/
structure ChgT (P : Program) (t e : TypeId) : Prop where
  under : P.underlying t = some (.slice e)
  info : (P.info? e).map (fun i => (i.zero, i.size, i.bytes)) = some (some (.agg #[.int .i64 0, .slice none 0 0]), 2, 32)
theorem run_appendCh {P : Program} {w : World} {t e : TypeId} (hT : ChgT P t e) (ty : TypeId) (base : Nat) (v : Value) (cs : List Chg) (hown : OwnCh w base e v cs) (g : Nat) (c : Chg) (u x : Value)
    (hg : w.heap[g]? = some (.cells #[u, x] e (0, 0))) (hx : ChV w base v.ownBlock u x c) (hb : cs.length ≤ 1073741824) (hbase : base ≤ w.heap.size) :
    ∃ A' cap' w', (Builtin.append_ #[t, t] ty #[v, .slice (some ⟨g, 0, none⟩) 1 1]).run P w = .ok (.slice A' (cs.length + 1) cap') w' ∧ OwnCh w' base e (.slice A' (cs.length + 1) cap') (cs ++ [c]) ∧ w.grownBy w' v.ownBlock ∧
      (Value.ownBlock (.slice A' (cs.length + 1) cap') = v.ownBlock ∨ Value.ownBlock (.slice A' (cs.length + 1) cap') = some w.heap.size) := by
  obtain ⟨i, hi, hz, hz1, hz2⟩ := info_parts hT.info
  obtain ⟨xs, ho, hc⟩ := hown
  have hu : u.oneCell' = true := by rw [hx.1]; rfl
  have hxx : x.oneCell' = true := by obtain ⟨A, cap, rfl, _⟩ := hx.2; rfl
  obtain ⟨v', w', hr, h2, h3, _, h5⟩ := run_append_own_at (P := P) w base t ty e i (.agg #[.int .i64 0, .slice none 0 0]) 2 32 hT.under hi hz hz1 hz2 rfl (by decide) v cs.length xs ho ⟨g, 0, none⟩ 1 1 [u, x] rfl
    (fun j y hj => by
      rw [Addr.add_lit, Nat.zero_add, cell_of_row w g j _ e (0, 0) hg]
      simpa using hj) (by simp [hu, hxx]) (by simp only [maxLen]; omega) (by omega) hbase
  have hlen : xs.length = cs.length * 2 := ho.1
  have hdata : ∀ y x' (c : Chg), ChV w base v.ownBlock y x' c → ChV w' base v'.ownBlock y x' c := fun y x' c ⟨a, A, cap, b, d, f⟩ => by
    refine ⟨a, A, cap, b, d.grown h3 (f.imp id fun h a ha => (h a ha).2), ?_⟩
    rcases f with f | f
    · exact .inl f
    · rcases d.lt with h0 | hlt
      · exact .inl h0
      · refine .inr fun a' ha' => ⟨(f a' ha').1, ?_⟩
        rcases h5 with h5 | h5
        · rw [h5]; exact (f a' ha').2
        · rw [h5]
          intro e
          injection e with e
          have := hlt a' ha'
          omega
  have hO : OwnCh w' base e v' (cs ++ [c]) := by
    refine ⟨xs ++ [u, x], by rw [List.length_append]; exact h2, fun j hj => ?_⟩
    by_cases hlt : j < cs.length
    · obtain ⟨y, z, a, b, d⟩ := hc j hlt
      refine ⟨y, z, ?_, ?_, ?_⟩
      · rw [List.getElem?_append_left (by omega)]; exact a
      · rw [List.getElem?_append_left (by omega)]; exact b
      · rw [List.getElem_append_left hlt]; exact hdata _ _ _ d
    · obtain rfl : j = cs.length := by simp at hj; omega
      refine ⟨u, x, ?_, ?_, ?_⟩
      · rw [List.getElem?_append_right (by omega), hlen]; simp
      · rw [List.getElem?_append_right (by omega), hlen]
        rw [show cs.length * 2 + 1 - cs.length * 2 = 1 from by omega]; rfl
      · rw [List.getElem_append_right (Nat.le_refl _)]
        simpa using hdata _ _ _ hx
  obtain ⟨A', cap', rfl⟩ := hO.form
  rw [List.length_append] at hO hr h5
  exact ⟨A', cap', w', hr, hO, h3, h5⟩
/-- 'append(v, c)': as an operation. -/
theorem wp_appendCh {P : Program} {w : World} {o : Oper} {a : Act} {K : Act → World → Prop} {Q : Exit → Act → World → Prop} {t e : TypeId} (hT : ChgT P t e) (s x : Operand)
    (ho : o.op = .call { callee := .builtin .append, args := #[s, x], argTypes := #[t, t] }) (base : Nat) (v y : Value) (cs : List Chg) (hv : a.eval s = v) (hown : OwnCh w base e v cs) (c : Chg) (hy : a.eval x = y) (hx : OneCh base v.ownBlock e c y w)
    (hb : cs.length ≤ 1073741824) (hbase : base ≤ w.heap.size)
    (h : ∀ A' cap' w', OwnCh w' base e (.slice A' (cs.length + 1) cap') (cs ++ [c]) → w.grownBy w' v.ownBlock → K (a.put o.dst (.slice A' (cs.length + 1) cap')) w') : o.wp P a w K Q := by
  obtain ⟨g, u, z, rfl, h1, h2, h3⟩ := hx
  obtain ⟨A', cap', w', hr, q1, q2, _⟩ := run_appendCh (P := P) hT o.type base v cs hown g c u z h1 h3 hb hbase
  unfold Oper.wp execOp
  simp only [ho, resolve, invoke, builtin, Sem.run_bind, Sem.run_pure, Result.andThen_ok, List.map_toArray, List.map_cons, List.map_nil, hv, hy, hr]
  exact h A' cap' w' q1 q2
theorem ct : ChgT Try.prog 27 43 := ⟨Try.underlying27, by kernel_rfl⟩
theorem rct : ChgT Try.prog 33 88 := ⟨Try.underlying33, by kernel_rfl⟩
end Go.Proofs.Ytfcmngiekdhfpaa
