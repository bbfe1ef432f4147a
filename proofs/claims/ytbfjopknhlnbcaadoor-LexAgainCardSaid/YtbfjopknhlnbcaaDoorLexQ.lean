/-
  Slices of tokens read; theirs and Same.
-/
import Derived.BigQuiet
import Derived.Test.YtbfjopknhlnbcaaDoorLexO
namespace Go.Proofs.YtbfjopknhlnbcaaDoor
open Go.RowKit
set_option linter.unusedVariables false

theorem tkRow_get : ∀ (ts : List Tok) (i : Nat) (h : i < ts.length) (k : Nat), k < 4 → (tkRow ts)[i * 4 + k]? = (tkCells ts[i])[k]?
  | t :: ts, 0, h, k, hk => by
    show (tkCells t ++ tkRow ts)[0 * 4 + k]? = (tkCells t)[k]?
    rw [Nat.zero_mul, Nat.zero_add, List.getElem?_append_left (by simpa [tkCells] using hk)]
  | t :: ts, i + 1, h, k, hk => by
    have h' : i < ts.length := by simpa using h
    show (tkCells t ++ tkRow ts)[(i + 1) * 4 + k]? = (tkCells ts[i])[k]?
    rw [List.getElem?_append_right (by simp [tkCells]; omega), ← tkRow_get ts i h' k hk]
    congr 1
    simp [tkCells]
    omega
/-- A slice of tokens that reads as a list. -/
structure Tks (w : World) (A : Option Addr) (cap : Nat) (ts : List Tok) : Prop where
  le : ts.length ≤ cap
  max : cap ≤ maxLen
  rd : ts = [] ∨ ∃ b off, A = some ⟨b, off, none⟩ ∧ b < w.heap.size ∧ ∀ i, (h : i < ts.length) → w.cell? ⟨b, off + i * 4, none⟩ = some (.int .i64 ts[i].k) ∧ w.cell? ⟨b, off + i * 4 + 1, none⟩ = some (.string (str ts[i].t)) ∧
    w.cell? ⟨b, off + i * 4 + 2, none⟩ = some (.int .i64 ts[i].v) ∧ w.cell? ⟨b, off + i * 4 + 3, none⟩ = some (.int .i64 ts[i].f)
theorem Tks.ext {w w' : World} {A : Option Addr} {cap : Nat} {ts : List Tok} (h : Tks w A cap ts) (he : Ext w w') : Tks w' A cap ts :=
  ⟨h.le, h.max, h.rd.imp id fun ⟨b, off, ha, hb, hc⟩ => ⟨b, off, ha, Nat.lt_of_lt_of_le hb he.size, fun i hi =>
    let ⟨h1, h2, h3, h4⟩ := hc i hi; ⟨(he.cell b _ hb).trans h1, (he.cell b _ hb).trans h2, (he.cell b _ hb).trans h3, (he.cell b _ hb).trans h4⟩⟩⟩
theorem Tks.at_ {w : World} {A : Option Addr} {cap : Nat} {ts : List Tok} (h : Tks w A cap ts) (i : Nat) (hi : i < ts.length) :
    ∃ b off, A = some ⟨b, off, none⟩ ∧ b < w.heap.size ∧ w.cell? ⟨b, off + i * 4, none⟩ = some (.int .i64 ts[i].k) ∧ w.cell? ⟨b, off + i * 4 + 1, none⟩ = some (.string (str ts[i].t)) ∧
    w.cell? ⟨b, off + i * 4 + 2, none⟩ = some (.int .i64 ts[i].v) ∧ w.cell? ⟨b, off + i * 4 + 3, none⟩ = some (.int .i64 ts[i].f) := by
  rcases h.rd with h0 | ⟨b, off, ha, hb, hc⟩
  · subst h0; simp at hi
  · exact ⟨b, off, ha, hb, hc i hi⟩
theorem OwnT.tks {w : World} {base : Nat} {e : TypeId} {A : Option Addr} {n cap : Nat} {ts : List Tok} (h : OwnT w base e (.slice A n cap) ts) : n = ts.length ∧ Tks w A cap ts := by
  rcases h.2 with ⟨hv, hn⟩ | ⟨g, c, cur, hv, hb, hg, hnc, hcm, hcs, ht⟩
  · injection hv with a1 a2 a3
    subst a1 a2 a3
    have : ts = [] := List.eq_nil_of_length_eq_zero hn
    subst this
    exact ⟨rfl, by simp, by simp [maxLen], .inl rfl⟩
  · injection hv with a1 a2 a3
    subst a1 a2 a3
    refine ⟨rfl, hnc, hcm, .inr ⟨g, 0, rfl, (Array.getElem?_eq_some_iff.1 hg).1, fun i hi => ?_⟩⟩
    have cell : ∀ j y, (tkRow ts)[j]? = some y → w.cell? ⟨g, j, none⟩ = some y := fun j y hy => by
      rw [cell_of_row w g j cur e (0, 0) hg]
      rw [← ht, List.getElem?_take] at hy
      split at hy
      · simpa using hy
      · cases hy
    have g0 := tkRow_get ts i hi 0 (by omega)
    have g1 := tkRow_get ts i hi 1 (by omega)
    have g2 := tkRow_get ts i hi 2 (by omega)
    have g3 := tkRow_get ts i hi 3 (by omega)
    rw [Nat.zero_add]
    exact ⟨cell _ _ g0, cell _ _ g1, cell _ _ g2, cell _ _ g3⟩
set_option maxRecDepth 100000 in
set_option maxHeartbeats 2000000 in
theorem theirs_any (A : Option Addr) (cap : Nat) (ts : List Tok) (w : World) (h : Tks w A cap ts) (hl : ts.length ≤ 100000) : Calls Tryd.prog 13 #[.slice A ts.length cap] w fun e w' => (∃ B c, e = .returned (.slice B ts.length c) ∧ OwnT w' w.heap.size 37 (.slice B ts.length c) ts) ∧ Ext w w' := by
  have H := hide h
  clear h
  go_enter Tryd.func13, Tryd.ntmps13
  go_wp2_with fail
  go_loopw [3, 4] (fun vb vi wr => ∃ (B : Option Addr) (c : Nat) (j : Nat), vb = .slice B j c ∧ Hid (OwnT wr w.heap.size 37 (.slice B j c) (ts.take j)) ∧ vi = .int .i64 (j : Int) ∧ j ≤ ts.length ∧ Ext w wr) (fun _ vi _ => ts.length - (intOf vi).toNat)
  case atStart => exact ⟨none, 0, 0, rfl, hide (by rw [List.take_zero]; exact OwnT.nil_ _ _ _), rfl, Nat.zero_le _, Ext.refl _⟩
  case round =>
    obtain ⟨B, c, j, rfl, HO, rfl, hj, hx⟩ := hrel
    have HX := hide hx
    clear hx
    by_cases hlt : j < ts.length
    · have hlt' : (j : Int) < ts.length := by omega
      obtain ⟨b, off, rfl, hb, h0, h1, h2, h3⟩ := (H.out.ext HX.out).at_ j hlt
      have hlj : (ts.take j).length = j := by rw [List.length_take]; omega
      have HT := hide (show ts.take j ++ [ts[j]] = ts.take (j + 1) from List.take_append_getElem hlt)
      generalize ts[j] = x at *
      obtain ⟨k, t, v, f⟩ := x
      simp only at h0 h1 h2 h3
      have HO1 := hide (HO.out.ext (Ext.alloc wr (.cells #[.int .i64 k, .string (str t), .int .i64 v, .int .i64 f] 37)))
      have HX1 := hide (HX.out.trans (Ext.alloc wr (.cells #[.int .i64 k, .string (str t), .int .i64 v, .int .i64 f] 37)))
      have HG1 := hide (heap_alloc_new wr (.cells #[.int .i64 k, .string (str t), .int .i64 v, .int .i64 f] 37))
      go_wp2_with (at_builtin; refine wpList_appendT rtt rfl _ _ rfl w.heap.size (.slice B j c) (ts.take j) rfl HO1.out wr.heap.size ⟨k, t, v, f⟩ rfl HG1.out (by rw [hlj]; omega) HX1.out.size ?_; rw [hlj]; intro A3 c3 w3 ho3 hg3 _; have HO3 := hide ho3; have HG3 := hide hg3; clear ho3 hg3)
      go_roundw
      case rel =>
        have hrow := fun k hk => (World.ownsRow.lt HO1.out k hk).1
        have hx3 := HX1.out.grown HG3.out (fun k hk => by have := hrow k hk; omega)
        exact ⟨A3, c3, j + 1, rfl, hide (by rw [← HT.out]; exact HO3.out), by go_num, by omega, hx3⟩
      case measure => simp [intOf]; omega
    · have hje : j = ts.length := by omega
      subst hje
      go_wp2_with fail
      exact bodyPost_ret (v := .slice B ts.length c) (by simp [results, Tryd.results13, go_sem]) rfl ⟨⟨B, c, rfl, by have := HO.out; rwa [List.take_length] at this⟩, HX.out⟩
/-! ### Same -/
def sameT (b : Bool) (x y : Tok) : Bool := x.k == y.k && x.t == y.t && x.v == y.v && (!b || x.f == y.f)
def sameL (b : Bool) : List Tok → List Tok → Bool
  | [], [] => true
  | x :: l, y :: m => sameT b x y && sameL b l m
  | _, _ => false
theorem sameL_len (b : Bool) : ∀ l m : List Tok, l.length ≠ m.length → sameL b l m = false
  | [], [], h => absurd rfl h
  | [], _ :: _, _ => rfl
  | _ :: _, [], _ => rfl
  | x :: l, y :: m, h => by
    show (sameT b x y && sameL b l m) = false
    rw [sameL_len b l m (by simpa using h), Bool.and_false]
theorem sameL_refl (b : Bool) : ∀ l : List Tok, sameL b l l = true
  | [] => rfl
  | x :: l => by
    show (sameT b x x && sameL b l l) = true
    rw [sameL_refl b l]
    simp [sameT]
theorem sameL_step (b : Bool) {l m : List Tok} {j : Nat} (hl : j < l.length) (hm : j < m.length) : sameL b (l.drop j) (m.drop j) = (sameT b l[j] m[j] && sameL b (l.drop (j + 1)) (m.drop (j + 1))) := by
  rw [List.drop_eq_getElem_cons hl, List.drop_eq_getElem_cons hm]
  rfl
end Go.Proofs.YtbfjopknhlnbcaaDoor
