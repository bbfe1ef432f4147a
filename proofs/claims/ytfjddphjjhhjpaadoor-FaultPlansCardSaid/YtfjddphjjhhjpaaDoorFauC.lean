/-
  The fields of a plan that a kind uses; append of such fields; the names.
-/
import Derived.Test.YtfjddphjjhhjpaaDoorFauB
namespace Go.Proofs.YtfjddphjjhhjpaaDoor
open Go.RowKit
set_option linter.unusedVariables false

/-- The offsets, in a plan, of what stands in a notation of its kind. -/
def offU (k : Int) : List Nat := if inB k 1 3 then [2, 4] else if inB k 4 7 then [2, 5, 6] else if k = 8 then [4] else []
def offs (k : Int) : List Nat := 0 :: 1 :: offU k
theorem offU_length (k : Int) : (offU k).length ≤ 3 := by
  unfold offU; (repeat' split) <;> simp
theorem offs_lt (k : Int) : ∀ o ∈ offs k, o < 7 ∧ o ≠ 3 := by
  unfold offs offU; (repeat' split) <;> simp
/-- A slice of fields: nil, or a block of its own. -/
def SrcF (w : World) (A : Option Addr) (N : Nat) (cs : List Value) : Prop := (A = none ∧ N = 0 ∧ cs = []) ∨ ∃ h, A = some ⟨h, 0, none⟩ ∧ Blk w h 79 cs.toArray ∧ cs.length = N * 3
theorem SrcF.ext {w w' : World} {A : Option Addr} {N : Nat} {cs : List Value} (h : SrcF w A N cs) (he : Ext w w') : SrcF w' A N cs := h.imp id fun ⟨b, h1, h2, h3⟩ => ⟨b, h1, h2.ext he, h3⟩
/-- Field by field: where it points. -/
def PtsF (g : Nat) (os : List Nat) (cs : List Value) : Prop := ∀ i, (h : i < os.length) → cs[i * 3]? = some (.pointer (some ⟨g, os[i], none⟩))
/-- .. and its limits. -/
def IntsF (n : Nat) (cs : List Value) : Prop := ∀ i, i < n → ∃ lo hi, cs[i * 3 + 1]? = some (.int .i64 lo) ∧ cs[i * 3 + 2]? = some (.int .i64 hi)
theorem intsA (g : Nat) : IntsF 2 (fldA g).toList := fun i h => by
  have hc : i = 0 ∨ i = 1 := by omega
  rcases hc with rfl | rfl <;> exact ⟨_, _, rfl, rfl⟩
theorem intsB (g : Nat) : IntsF 3 (fldB g).toList := fun i h => by
  have hc : i = 0 ∨ i = 1 ∨ i = 2 := by omega
  rcases hc with rfl | rfl | rfl <;> exact ⟨_, _, rfl, rfl⟩
theorem intsC (g : Nat) : IntsF 1 (fldC g).toList := fun i h => by
  have hc : i = 0 := by omega
  subst hc; exact ⟨_, _, rfl, rfl⟩
theorem ptsA (g : Nat) : PtsF g [2, 4] (fldA g).toList := fun i h => by
  have h : i < 2 := h
  have hc : i = 0 ∨ i = 1 := by omega
  rcases hc with rfl | rfl <;> rfl
theorem ptsB (g : Nat) : PtsF g [2, 5, 6] (fldB g).toList := fun i h => by
  have h : i < 3 := h
  have hc : i = 0 ∨ i = 1 ∨ i = 2 := by omega
  rcases hc with rfl | rfl | rfl <;> rfl
theorem ptsC (g : Nat) : PtsF g [4] (fldC g).toList := fun i h => by
  have h : i < 1 := h
  have hc : i = 0 := by omega
  subst hc; rfl
set_option maxRecDepth 100000 in
set_option maxHeartbeats 1000000 in
theorem used_z (g : Nat) (c n e k s p m : Int) (w : World) (hb : Blk w g 28 #[.int .i64 c, .int .i64 n, .int .i64 e, .int .i64 k, .int .i64 s, .int .i64 p, .int .i64 m]) (hk : k ≤ 0 ∨ 9 ≤ k) :
    Calls Tryd.prog 35 #[.pointer (some ⟨g, 0, none⟩)] w fun e w' => e = .returned (.slice none 0 0) ∧ Ext w w' := by
  have HB := hide hb
  have hz := hb.lt
  have hcell := hb.cell
  clear hb
  have h8 : (k == 8) = false := by rw [beq_eq_false_iff_ne]; omega
  rcases hk with hk | hk
  · have h1 : ¬ (1 : Int) ≤ k := by omega
    have h4 : ¬ (4 : Int) ≤ k := by omega
    go_enter Tryd.func35, Tryd.ntmps35
    go_wp2
    go_ret
    exact ⟨rfl, (Ext.alloc w _).alloc' _⟩
  · have h1 : ¬ k ≤ 3 := by omega
    have h4 : ¬ k ≤ 7 := by omega
    go_enter Tryd.func35, Tryd.ntmps35
    go_wp2
    go_ret
    exact ⟨rfl, (Ext.alloc w _).alloc' _⟩
/-- What used returns. -/
def UsedP (g : Nat) (k : Int) (base : Nat) (e : Ending) (w' : World) : Prop := ∃ A N cs, e = .returned (.slice A N N) ∧ SrcF w' A N cs ∧ PtsF g (offU k) cs ∧ N = (offU k).length ∧ (∀ u ∈ cs, u.oneCell' = true) ∧ IntsF N cs ∧ ∀ h, A = some ⟨h, 0, none⟩ → base ≤ h
theorem used_any (g : Nat) (c n e k s p m : Int) (w : World) (hb : Blk w g 28 #[.int .i64 c, .int .i64 n, .int .i64 e, .int .i64 k, .int .i64 s, .int .i64 p, .int .i64 m]) :
    Calls Tryd.prog 35 #[.pointer (some ⟨g, 0, none⟩)] w fun e w' => UsedP g k w.heap.size e w' ∧ Ext w w' := by
  by_cases h1 : 1 ≤ k ∧ k ≤ 3
  · refine (used_a g c n e k s p m w hb h1).mono ?_
    rintro e w' ⟨h, rfl, hz, hB, hE⟩
    have ho : offU k = [2, 4] := by unfold offU; rw [if_pos (inB_iff.2 h1)]
    exact ⟨⟨_, 2, (fldA g).toList, rfl, .inr ⟨h, rfl, hB, rfl⟩, by rw [ho]; exact ptsA g, by rw [ho]; rfl, by simp [fldA, Value.oneCell'], intsA g, fun h' e => by injection e with e; injection e with e; omega⟩, hE⟩
  · have n1 : ¬ inB k 1 3 = true := fun h => h1 (inB_iff.1 h)
    by_cases h2 : 4 ≤ k ∧ k ≤ 7
    · refine (used_b g c n e k s p m w hb h2).mono ?_
      rintro e w' ⟨h, rfl, hz, hB, hE⟩
      have ho : offU k = [2, 5, 6] := by unfold offU; rw [if_neg n1, if_pos (inB_iff.2 h2)]
      exact ⟨⟨_, 3, (fldB g).toList, rfl, .inr ⟨h, rfl, hB, rfl⟩, by rw [ho]; exact ptsB g, by rw [ho]; rfl, by simp [fldB, Value.oneCell'], intsB g, fun h' e => by injection e with e; injection e with e; omega⟩, hE⟩
    · have n2 : ¬ inB k 4 7 = true := fun h => h2 (inB_iff.1 h)
      by_cases h3 : k = 8
      · refine (used_c g c n e k s p m w hb h3).mono ?_
        rintro e w' ⟨h, rfl, hz, hB, hE⟩
        have ho : offU k = [4] := by unfold offU; rw [if_neg n1, if_neg n2, if_pos h3]
        exact ⟨⟨_, 1, (fldC g).toList, rfl, .inr ⟨h, rfl, hB, rfl⟩, by rw [ho]; exact ptsC g, by rw [ho]; rfl, by simp [fldC, Value.oneCell'], intsC g, fun h' e => by injection e with e; injection e with e; omega⟩, hE⟩
      · refine (used_z g c n e k s p m w hb (by omega)).mono ?_
        rintro e w' ⟨rfl, hE⟩
        have ho : offU k = [] := by unfold offU; rw [if_neg n1, if_neg n2, if_neg h3]
        exact ⟨⟨none, 0, [], rfl, .inl ⟨rfl, rfl, rfl⟩, (by rw [ho]; intro i h; cases h), by rw [ho]; rfl, by simp, (fun i h => by cases h), fun h' e => by cases e⟩, hE⟩
/-- A row of fields of the call's own. -/
def OwnFl (w : World) (base : Nat) (v : Value) (n : Nat) (cs : List Value) : Prop := w.ownsRow base 79 3 v n cs
theorem OwnFl.ext {w w' : World} {base n : Nat} {v : Value} {cs : List Value} (h : OwnFl w base v n cs) (he : Ext w w') : OwnFl w' base v n cs := World.ownsRow.kept h (he.grownBy none) (by cases v.ownBlock <;> simp)
theorem fl_info : (Tryd.prog.info? 79).map (fun i => (i.zero, i.size, i.bytes)) = some (some (.agg #[.pointer none, .int .i64 0, .int .i64 0]), 3, 24) := by kernel_rfl
theorem run_appendF {w : World} (ty : TypeId) (base : Nat) (v : Value) (k : Nat) (xs : List Value) (hown : OwnFl w base v k xs) (A : Option Addr) (N : Nat) (cs : List Value) (hs : SrcF w A N cs) (h1 : ∀ u ∈ cs, u.oneCell' = true)
    (hb : k + N ≤ 1000) (hbase : base ≤ w.heap.size) :
    ∃ v' w', (Builtin.append_ #[75, 75] ty #[v, .slice A N N]).run Tryd.prog w = .ok v' w' ∧ OwnFl w' base v' (k + N) (xs ++ cs) ∧ w.grownBy w' v.ownBlock := by
  obtain ⟨i, hi, hz, hz1, hz2⟩ := info_parts fl_info
  rcases hs with ⟨rfl, rfl, rfl⟩ | ⟨h, rfl, hB, hl⟩
  · refine ⟨v, w, ?_, by simpa using hown, World.grownBy.refl w _⟩
    rcases hown.2 with ⟨rfl, hl⟩ | ⟨g, c, cur, rfl, _, _, hnc, _⟩
    · simp [Builtin.append_, run_underlying Tryd.underlying75, sizeOf, typeInfo, hi, Builtin.lenOf, Builtin.firstCells]
    · simp [Builtin.append_, run_underlying Tryd.underlying75, sizeOf, typeInfo, hi, Builtin.lenOf, Builtin.firstCells, hnc, storeCells]
  · obtain ⟨v', w', hrun, h2, h3, _, _⟩ := run_append_own_at (P := Tryd.prog) w base 75 ty 79 i (.agg #[.pointer none, .int .i64 0, .int .i64 0]) 3 24 Tryd.underlying75 hi hz hz1 hz2 rfl (by decide) v k xs hown ⟨h, 0, none⟩ N N cs (by rw [hl])
      (fun j u hj => by
        rw [Addr.add_lit, Nat.zero_add, hB.cell]
        simpa using hj) h1 (by simp only [maxLen]; omega) (by omega) hbase
    exact ⟨v', w', hrun, h2, h3⟩
theorem wpList_appendF {w : World} {ops : Array Oper} {rest : List Oper} {o : Oper} {a : Act} {Q : Exit → Act → World → Prop} (hgd : o.guard = none) (s x : Operand)
    (ho : o.op = .call { callee := .builtin .append, args := #[s, x], argTypes := #[75, 75] }) (base : Nat) (v : Value) (k : Nat) (xs : List Value) (hv : a.eval s = v) (hown : OwnFl w base v k xs)
    (A : Option Addr) (N : Nat) (cs : List Value) (hx : a.eval x = .slice A N N) (hs : SrcF w A N cs) (h1 : ∀ u ∈ cs, u.oneCell' = true) (hb : k + N ≤ 1000) (hk : 1 ≤ k) (hbase : base ≤ w.heap.size)
    (h : ∀ g c w', OwnFl w' base (.slice (some ⟨g, 0, none⟩) (k + N) c) (k + N) (xs ++ cs) → base ≤ g → w.grownBy w' v.ownBlock → wpList Tryd.prog ops Q rest (a.put o.dst (.slice (some ⟨g, 0, none⟩) (k + N) c)) w') :
    wpList Tryd.prog ops Q (o :: rest) a w := by
  obtain ⟨v', w', hr, q1, q2⟩ := run_appendF (w := w) o.type base v k xs hown A N cs hs h1 hb hbase
  obtain ⟨g, c, hv', hbg⟩ : ∃ g c, v' = .slice (some ⟨g, 0, none⟩) (k + N) c ∧ base ≤ g := by
    rcases q1.2 with ⟨_, h0⟩ | ⟨g, c, cur, rfl, hb, _⟩
    · omega
    · exact ⟨g, c, rfl, hb⟩
  subst hv'
  refine wpList_plain hgd fun K hK => ?_
  unfold Oper.wp execOp
  simp only [ho, resolve, invoke, builtin, Sem.run_bind, Sem.run_pure, Result.andThen_ok, List.map_toArray, List.map_cons, List.map_nil, hv, hx, hr]
  exact hK _ _ (h g c w' q1 hbg q2)
/-- Fields that are read one by one. -/
structure FlR (w : World) (b g : Nat) (os : List Nat) : Prop where
  lt : b < w.heap.size
  cell : ∀ i, (h : i < os.length) → w.cell? ⟨b, i * 3, none⟩ = some (.pointer (some ⟨g, os[i], none⟩))
theorem FlR.ext {w w' : World} {b g : Nat} {os : List Nat} (h : FlR w b g os) (he : Ext w w') : FlR w' b g os := ⟨Nat.lt_of_lt_of_le h.lt he.size, fun i hi => (he.cell b _ h.lt).trans (h.cell i hi)⟩
theorem FlR.grown {w w' : World} {b g : Nat} {os : List Nat} {row : Option Nat} (h : FlR w b g os) (hg : w.grownBy w' row) (hr : some b ≠ row) : FlR w' b g os :=
  ⟨Nat.lt_of_lt_of_le h.lt hg.size, fun i hi => (World.cell?_of_block (w := w) (a := ⟨b, i * 3, none⟩) (hg.block b h.lt hr)).trans (h.cell i hi)⟩
theorem FlR.of_own {w : World} {base b n c g : Nat} {cs : List Value} {os : List Nat} (h : OwnFl w base (.slice (some ⟨b, 0, none⟩) n c) n cs) (hp : PtsF g os cs) : FlR w b g os := by
  obtain ⟨h1, h2⟩ := h
  rcases h2 with ⟨hv, hn⟩ | ⟨g', c', cur, hv, hb, hg, hnc, hcm, hcs, ht⟩
  · injection hv with a1; cases a1
  · injection hv with a1 a2 a3
    injection a1 with a1
    injection a1 with a1
    subst a1
    have hB : Blk w b 79 cur := hg
    refine ⟨hB.lt, fun i hi => ?_⟩
    have := hp i hi
    rw [← ht, List.getElem?_take] at this
    rw [hB.cell]
    split at this
    · simpa using this
    · cases this
theorem PtsF.lit {g : Nat} {os : List Nat} {cs : List Value} (a b c d : Value) (h : PtsF g os cs) : PtsF g (0 :: 1 :: os) ([.pointer (some ⟨g, 0, none⟩), a, b, .pointer (some ⟨g, 1, none⟩), c, d] ++ cs) := by
  intro i hi
  match i, hi with
  | 0, _ => rfl
  | 1, _ => rfl
  | i + 2, hi =>
    have := h i (by simpa using hi)
    rw [List.getElem_cons_succ, List.getElem_cons_succ, show (i + 2) * 3 = i * 3 + 6 from by omega]
    exact this
set_option maxRecDepth 100000 in
theorem names_any (w : World) : Calls Tryd.prog 33 #[] w fun e w' => e = .returned (.agg namesV) ∧ Ext w w' := by
  go_enter Tryd.func33, Tryd.ntmps33
  go_wp2
  exact bodyPost_ret (v := .agg namesV) (by simp [results, Tryd.results33, go_sem, namesV, str]) rfl ⟨rfl, Ext.alloc w _⟩
end Go.Proofs.YtfjddphjjhhjpaaDoor
