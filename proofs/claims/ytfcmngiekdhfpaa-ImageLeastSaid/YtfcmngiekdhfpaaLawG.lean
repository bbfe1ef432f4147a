/-
  The walk of ImageLeast.
-/
import Derived.Test.YtfcmngiekdhfpaaLawF
namespace Go.Proofs.Ytfcmngiekdhfpaa
open Go.RowKit
set_option linter.unusedVariables false

/-- What lay below base is as it was; of the rows of e the first c cells are. -/
def KeepTo (c base : Nat) (e : TypeId) (w w' : World) : Prop :=
  Below base w w' ∧ (∀ (g : Nat) (cur : Array Value), w.heap[g]? = some (Obj.cells cur e (0, 0)) → ∃ cur' : Array Value, w'.heap[g]? = some (Obj.cells cur' e (0, 0)) ∧ cur'.size = cur.size ∧ cur'.toList.take c = cur.toList.take c) ∧
    ∀ (g : Nat) (cur : Array Value) (t : TypeId), t ≠ e → w.heap[g]? = some (Obj.cells cur t (0, 0)) → w'.heap[g]? = some (Obj.cells cur t (0, 0))
theorem KeepTo.ofExt {c base : Nat} {e : TypeId} {w w' : World} (h : Ext w w') : base ≤ w.heap.size → KeepTo c base e w w' := fun hb =>
  ⟨Below.mono h hb, fun g cur hg => ⟨cur, (h.obj (Array.getElem?_eq_some_iff.1 hg).1).trans hg, rfl, rfl⟩, fun g cur t _ hg => (h.obj (Array.getElem?_eq_some_iff.1 hg).1).trans hg⟩
theorem KeepTo.trans {c base : Nat} {e : TypeId} {a b d : World} (h : KeepTo c base e a b) (k : KeepTo c base e b d) : KeepTo c base e a d :=
  ⟨h.1.trans k.1, fun g cur hg => by
    obtain ⟨x, h1, h2, h3⟩ := h.2.1 g cur hg
    obtain ⟨y, k1, k2, k3⟩ := k.2.1 g x h1
    exact ⟨y, k1, k2.trans h2, k3.trans h3⟩, fun g cur t ht hg => k.2.2 g cur t ht (h.2.2 g cur t ht hg)⟩
theorem KeepTo.blk {c base : Nat} {e t : TypeId} {w w' : World} {g : Nat} {cs : Array Value} (h : KeepTo c base e w w') (ht : t ≠ e) (hb : Blk w g t cs) : Blk w' g t cs := h.2.2 g cs t ht hb
theorem KeepTo.row {c base base' : Nat} {e : TypeId} {w w' : World} {v : Value} {n : Nat} {xs : List Value} (h : KeepTo c base e w w') (ho : w.ownsRow base' e 2 v n xs) (hn : n * 2 ≤ c) : w'.ownsRow base' e 2 v n xs := by
  refine ⟨ho.1, ho.2.imp id ?_⟩
  rintro ⟨g, cap, cur, h1, h2, h3, h4, h5, h6, h7⟩
  obtain ⟨x, k1, k2, k3⟩ := h.2.1 g cur h3
  refine ⟨g, cap, x, h1, h2, k1, h4, h5, k2.trans h6, ?_⟩
  have := congrArg (List.take (n * 2)) k3
  rw [List.take_take, List.take_take, Nat.min_eq_left hn] at this
  exact this.trans h7
theorem run_appendRow {P : Program} {w : World} {t e : TypeId} (hT : ChgT P t e) (ty : TypeId) (base g n cap : Nat) (xs : List Value) (hown : w.ownsRow base e 2 (.slice (some ⟨g, 0, none⟩) n cap) n xs) (ad : Addr) (m c : Nat) (news : List Value)
    (hl : news.length = m * 2) (hnews : ∀ j u, news[j]? = some u → w.cell? (ad.add j) = some u) (h1 : ∀ u ∈ news, u.oneCell' = true) (hb : n + m ≤ 1073741824) (hbase : base ≤ w.heap.size) :
    ∃ g' cap' w', (Builtin.append_ #[t, t] ty #[.slice (some ⟨g, 0, none⟩) n cap, .slice (some ad) m c]).run P w = .ok (.slice (some ⟨g', 0, none⟩) (n + m) cap') w' ∧
      w'.ownsRow base e 2 (.slice (some ⟨g', 0, none⟩) (n + m) cap') (n + m) (xs ++ news) ∧ KeepTo (n * 2) base e w w' ∧ (cap = n → Ext w w') := by
  obtain ⟨i, hi, hz, hz1, hz2⟩ := info_parts hT.info
  have hlen : (xs ++ news).length = (n + m) * 2 := by rw [List.length_append, hown.1, hl, Nat.add_mul]
  rcases hown.2 with ⟨hv, _⟩ | ⟨g0, cap0, cur, hv, hbg, hg, hnc, hcm, hcs, htake⟩
  · simp at hv
  · injection hv with e1 e2 e3
    injection e1 with e1
    injection e1 with e1
    subst e1 e3
    by_cases hroom : n + m ≤ cap
    · have hfit : n * i.size + news.length ≤ cur.size := by rw [hl, hcs, hz1, ← Nat.add_mul]; exact Nat.mul_le_mul_right _ hroom
      have hr := run_append_room (P := P) w t ty e i hT.under hi g n cap cur hg ad m c news (by rw [hz1]; exact hl) hnews h1 hroom hfit
      rw [hz1] at hr hfit
      refine ⟨g, cap, _, hr, ⟨hlen, .inr ⟨g, cap, _, rfl, hbg, setRow_heap w g cur _ e _ hg, hroom, hcm, ?_, ?_⟩⟩, ⟨⟨rfl, rfl, rfl, by simp, fun k hk => setRow_other w g k _ (by omega)⟩, fun k x hx => ?_, fun k x t ht hx => ?_⟩, fun hcap => ?_⟩
      · simp only [List.size_toArray, List.length_append, List.length_take, List.length_drop, Array.length_toList]
        omega
      · rw [htake, ← hlen]
        exact List.take_left
      · by_cases hk : k = g
        · subst hk
          rw [hg] at hx
          injection hx with hx
          injection hx with hx
          subst hx
          refine ⟨_, setRow_heap w k cur _ e _ hg, ?_, ?_⟩
          · simp only [List.size_toArray, List.length_append, List.length_take, List.length_drop, Array.length_toList]
            omega
          · rw [List.append_assoc, List.take_append_of_le_length (by simp; omega), List.take_take, Nat.min_self]
        · exact ⟨x, (setRow_other w g k _ hk).trans hx, rfl, rfl⟩
      · have hk : k ≠ g := by
          intro e'
          subst e'
          rw [hg] at hx
          injection hx with hx
          injection hx with _ hx
          exact ht hx.symm
        exact (setRow_other w g k _ hk).trans hx
      · have hm : m = 0 := by omega
        subst hm
        have hn0 : news = [] := List.eq_nil_of_length_eq_zero (by omega)
        subst hn0
        have : (cur.toList.take (n * 2) ++ [] ++ cur.toList.drop (n * 2 + ([] : List Value).length)).toArray = cur := by simp
        rw [this, setRow_self w g cur e _ hg]
        exact Ext.refl w
    · have holds : ∀ j u, xs[j]? = some u → w.cell? ((⟨g, 0, none⟩ : Addr).add j) = some u := hown.cells (g := g) rfl
      have hr := run_append_grow (P := P) w t ty e i _ hT.under hi hz ⟨g, 0, none⟩ n cap xs (by rw [hz1]; exact hown.1) holds ad m c news (by rw [hz1]; exact hl) hnews (by omega) (by omega) (growslice_fits (by omega) (by rw [hz2]; omega))
      have hge := grownCap_ge w (n + m) cap e
      have hcm' : grownCap w (n + m) cap e ≤ maxLen := grownCap_le_maxLen w (n + m) cap e (by simp only [maxLen]; omega)
      have he : Ext w (w.drew.alloc (.cells (xs.toArray ++ news.toArray ++ Builtin.zeroCells (Value.agg #[.int .i64 0, .slice none 0 0]).cells (grownCap w (n + m) cap e - (n + m))) e)) := (Ext.refl w).drew.alloc' _
      refine ⟨_, _, _, hr, ⟨hlen, .inr ⟨w.heap.size, _, _, rfl, hbase, heap_alloc_new w.drew _, hge, hcm', ?_, ?_⟩⟩, KeepTo.ofExt he hbase, fun _ => he⟩
      · simp only [Array.size_append, List.size_toArray, size_zeroCells, hown.1, hl]
        rw [show (Value.agg #[.int .i64 0, .slice none 0 0]).cells.size = 2 from rfl]
        omega
      · simp only [Array.toList_append, List.append_assoc]
        rw [← List.append_assoc, ← hlen]
        exact List.take_left
theorem wp_appendRow {P : Program} {w : World} {o : Oper} {a : Act} {K : Act → World → Prop} {Q : Exit → Act → World → Prop} {t e : TypeId} (hT : ChgT P t e) (s x : Operand)
    (ho : o.op = .call { callee := .builtin .append, args := #[s, x], argTypes := #[t, t] }) (base g n cap : Nat) (xs : List Value) (hv : a.eval s = .slice (some ⟨g, 0, none⟩) n cap) (hown : w.ownsRow base e 2 (.slice (some ⟨g, 0, none⟩) n cap) n xs)
    (ad : Addr) (m c : Nat) (news : List Value) (hx : a.eval x = .slice (some ad) m c) (hl : news.length = m * 2) (hnews : ∀ j u, news[j]? = some u → w.cell? (ad.add j) = some u) (h1 : ∀ u ∈ news, u.oneCell' = true) (hb : n + m ≤ 1073741824) (hbase : base ≤ w.heap.size)
    (h : ∀ g' cap' w', w'.ownsRow base e 2 (.slice (some ⟨g', 0, none⟩) (n + m) cap') (n + m) (xs ++ news) → KeepTo (n * 2) base e w w' → (cap = n → Ext w w') → K (a.put o.dst (.slice (some ⟨g', 0, none⟩) (n + m) cap')) w') : o.wp P a w K Q := by
  obtain ⟨g', cap', w', hr, q1, q2, q3⟩ := run_appendRow (P := P) hT o.type base g n cap xs hown ad m c news hl hnews h1 hb hbase
  unfold Oper.wp execOp
  simp only [ho, resolve, invoke, builtin, Sem.run_bind, Sem.run_pure, Result.andThen_ok, List.map_toArray, List.map_cons, List.map_nil, hv, hx, hr]
  exact h g' cap' w' q1 q2 q3
/-- The cells of a slice of changes. -/
theorem Chs.vals {w : World} {A : Option Addr} {cap : Nat} {cs : List Chg} (h : Chs w A cap cs) (hn : cs ≠ []) :
    ∃ (b off : Nat) (vs : List Value), A = some ⟨b, off, none⟩ ∧ b < w.heap.size ∧ vs.length = cs.length * 2 ∧ (∀ j u, vs[j]? = some u → w.cell? ⟨b, off + j, none⟩ = some u ∧ u.oneCell' = true) ∧
      ∀ i, (hi : i < cs.length) → ∃ Ai ci, vs[i * 2]? = some (.int .i64 cs[i].1) ∧ vs[i * 2 + 1]? = some (.slice Ai cs[i].2.length ci) ∧ Sl w Ai ci cs[i].2 := by
  rcases h.rd with h0 | ⟨b, off, rfl, hb, hc⟩
  · exact absurd h0 hn
  refine ⟨b, off, (List.range (cs.length * 2)).map fun j => (w.cell? ⟨b, off + j, none⟩).getD undef, rfl, hb, by simp, fun j u hu => ?_, fun i hi => ?_⟩
  · rw [List.getElem?_map] at hu
    have hj : j < cs.length * 2 := by
      rcases Nat.lt_or_ge j (cs.length * 2) with h | h
      · exact h
      · rw [List.getElem?_eq_none (by simpa using h)] at hu; cases hu
    rw [List.getElem?_range hj] at hu
    simp only [Option.map_some, Option.some.injEq] at hu
    obtain ⟨Ai, ci, h1, h2, h3⟩ := hc (j / 2) (by omega)
    rcases Nat.mod_two_eq_zero_or_one j with hm | hm
    · rw [show j / 2 * 2 = j from by omega] at h1
      rw [h1] at hu ⊢
      subst hu
      exact ⟨rfl, rfl⟩
    · rw [show off + j / 2 * 2 + 1 = off + j from by omega] at h2
      rw [h2] at hu ⊢
      subst hu
      exact ⟨rfl, rfl⟩
  · obtain ⟨Ai, ci, h1, h2, h3⟩ := hc i hi
    refine ⟨Ai, ci, ?_, ?_, h3⟩
    · rw [List.getElem?_map, List.getElem?_range (by omega), Option.map_some, h1]; rfl
    · rw [List.getElem?_map, List.getElem?_range (by omega), Option.map_some, ← Nat.add_assoc, h2]; rfl
/-- A row of cells, as changes. -/
theorem chs_of_row {w w' : World} {base : Nat} {e : TypeId} {A : Option Addr} {n cap : Nat} {vs : List Value} {cs : List Chg} (h : w'.ownsRow base e 2 (.slice A n cap) n vs) (he : Ext w w') (hn : n = cs.length)
    (hv : ∀ i, (hi : i < cs.length) → ∃ Ai ci, vs[i * 2]? = some (.int .i64 cs[i].1) ∧ vs[i * 2 + 1]? = some (.slice Ai cs[i].2.length ci) ∧ Sl w Ai ci cs[i].2) : Chs w' A cap cs := by
  rcases h.2 with ⟨h1, h2⟩ | ⟨g, c, cur, h1, hb, hg, hnc, hcm, hcs, ht⟩
  · injection h1 with a1 a2 a3
    subst a1 a3
    have : cs = [] := List.eq_nil_of_length_eq_zero (by omega)
    subst this
    exact Chs.none_ w'
  · injection h1 with a1 a2 a3
    subst a1 a3
    refine ⟨by omega, hcm, .inr ⟨g, 0, rfl, (Array.getElem?_eq_some_iff.1 hg).1, fun i hi => ?_⟩⟩
    obtain ⟨Ai, ci, h1, h2, h3⟩ := hv i hi
    have cell : ∀ j y, vs[j]? = some y → w'.cell? ⟨g, j, none⟩ = some y := fun j y hy => by
      rw [cell_of_row w' g j cur e (0, 0) hg]
      rw [← ht, List.getElem?_take] at hy
      split at hy
      · simpa using hy
      · cases hy
    exact ⟨Ai, ci, by rw [Nat.zero_add]; exact cell _ _ h1, by rw [Nat.zero_add]; exact cell _ _ h2, h3.ext he⟩
end Go.Proofs.Ytfcmngiekdhfpaa
