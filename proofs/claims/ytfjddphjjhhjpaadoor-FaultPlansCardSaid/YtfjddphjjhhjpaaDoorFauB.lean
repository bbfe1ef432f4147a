/-
  Contracts of the library in this seat's words: Itoa, Atoi, Fields, Index, Delete, Join.
-/
import Derived.Test.YtfjddphjjhhjpaaDoorFauA
import Derived.Test.YtfjddphjjhhjpaaDoorShelfFau
import Derived.Lib.AppendIntMem
namespace Go.Proofs.YtfjddphjjhhjpaaDoor
open Go.RowKit
set_option linter.unusedVariables false

theorem itoa_any (n : Int) (h0 : 0 ≤ n) (h1 : n ≤ 9223372036854775807) (w : World) (ht : Tabs w) : Calls Tryd.prog 34 #[.int .i64 n] w fun e w' => e = .returned (.string (str (decI n))) ∧ Ext w w' := by
  refine (Tryd.strconv_Itoa n (by omega) h1 w ht.pow).mono ?_
  rintro e w' ⟨rfl, k, os, rfl⟩
  have : Lib.itoa n = decI n := by unfold Lib.itoa decI; rw [if_neg (by omega)]
  rw [this]
  exact ⟨rfl, Lib.below_grow _ w (Nat.le_refl _) k os⟩
theorem atoi_ok (l : List UInt8) (hl : l.length ≤ 100000) (v : Int) (h : Lib.atoiAll l = .ok v) (w : World) : Calls Tryd.prog 55 #[.string (str l)] w fun e w' => e = .returned (.tuple #[.int .i64 v, .nilIface]) ∧ Ext w w' := by
  refine (Tryd.strconv_Atoi_ok (str l) (by rw [str_size]; omega) v (by rw [str_data]; exact h) w).mono ?_
  rintro e w' ⟨rfl, h | ⟨t, h⟩⟩
  · exact ⟨rfl, h ▸ Ext.refl w⟩
  · exact ⟨rfl, by rw [h]; exact Lib.bytesWorld_below _ _ _⟩
theorem atoi_bad (l : List UInt8) (hl : l.length ≤ 100000) (h : ∀ v, Lib.atoiAll l ≠ .ok v) (w : World) (hz : EZ w) : Calls Tryd.prog 55 #[.string (str l)] w fun e w' => (∃ v te pe, e = .returned (.tuple #[.int .i64 v, .iface te pe])) ∧ Ext w w' := by
  obtain ⟨⟨e1, a1, b1⟩, e2, a2, b2⟩ := hz
  cases hc : Lib.atoiAll l with
  | ok v => exact absurd hc (h v)
  | «syntax» =>
    refine (Tryd.strconv_Atoi_syntax (str l) (by rw [str_size]; omega) (by rw [str_data]; exact hc) e1 w a1 b1).mono ?_
    rintro e w' ⟨N, rfl, _, _, hb⟩
    exact ⟨⟨_, _, _, rfl⟩, hb⟩
  | range =>
    refine (Tryd.strconv_Atoi_range (str l) (by rw [str_size]; omega) (by rw [str_data]; exact hc) e2 w a2 b2).mono ?_
    rintro e w' ⟨N, rfl, _, _, hb⟩
    exact ⟨⟨_, _, _, rfl⟩, hb⟩
theorem fieldsGoD_le : ∀ (f : Nat) (cur l : List UInt8), (∀ x ∈ Lib.fieldsGoD f cur l, x.length ≤ cur.length + l.length) ∧ (Lib.fieldsGoD f cur l).length ≤ f + 1
  | 0, cur, l => by
    simp only [Lib.fieldsGoD]
    split
    · simp
    · simp
  | f + 1, cur, l => by
    simp only [Lib.fieldsGoD]
    split
    · split
      · simp
      · simp
    · split
      · obtain ⟨h1, h2⟩ := fieldsGoD_le f [] (l.drop (Lib.decodeL l).2)
        have hd : (l.drop (Lib.decodeL l).2).length ≤ l.length := by rw [List.length_drop]; omega
        split
        · refine ⟨fun x hx => ?_, by simpa using (by omega : _ ≤ f + 1 + 1)⟩
          have := h1 x (by simpa using hx)
          simp only [List.length_nil] at this
          omega
        · refine ⟨fun x hx => ?_, by simp only [List.length_append, List.length_cons, List.length_nil]; omega⟩
          rcases List.mem_append.1 hx with hx | hx
          · simp only [List.mem_cons, List.not_mem_nil, or_false] at hx
            subst hx
            omega
          · have := h1 x hx
            simp only [List.length_nil] at this
            omega
      · obtain ⟨h1, h2⟩ := fieldsGoD_le f (cur ++ l.take (Lib.decodeL l).2) (l.drop (Lib.decodeL l).2)
        refine ⟨fun x hx => ?_, by omega⟩
        have := h1 x hx
        rw [List.length_append, List.length_take, List.length_drop] at this
        omega
theorem printL_ascii {x : Pl} (h : validPl x = true) : ∀ b ∈ printL x, b.toNat < 128 := by
  intro b hb
  unfold printL at hb
  by_cases hk : x.k = 0
  · rw [if_pos hk] at hb
    simp only [List.mem_cons, List.not_mem_nil, or_false] at hb
    rcases hb with rfl | rfl | rfl | rfl <;> decide
  · rw [if_neg hk] at hb
    have ho := okW_words (valid_kind h hk)
    have key : ∀ (r : List (List UInt8)), (∀ w ∈ r, okW w) → ∀ b ∈ Lib.joinTail [32] r, b.toNat < 128 := by
      intro r
      induction r with
      | nil => intro _ b hb; simp [Lib.joinTail] at hb
      | cons y r ih =>
        intro hr b hb
        rw [joinTail_cons] at hb
        rcases List.mem_cons.1 hb with rfl | hb
        · decide
        · rcases List.mem_append.1 hb with hb | hb
          · have := (hr y (List.mem_cons_self ..)).2 b hb; omega
          · exact ih (fun w hw => hr w (List.mem_cons_of_mem _ hw)) b hb
    unfold wordsP at hb ho
    rw [Lib.join_cons] at hb
    rcases List.mem_append.1 hb with hb | hb
    · have := (ho _ (List.mem_cons_self ..)).2 b hb; omega
    · exact key _ (fun w hw => ho w (List.mem_cons_of_mem _ hw)) b hb
/-- What Fields returns. -/
def FieldsP (s : List UInt8) (base : Nat) (e : Ending) (w' : World) : Prop :=
  ∃ (b c : Nat) (ws : List (List UInt8)), e = .returned (.slice (some ⟨b, 0, none⟩) ws.length c) ∧ WsR w' b c ws ∧ base ≤ b ∧ (∀ x ∈ ws, x.length ≤ s.length) ∧ ws.length ≤ s.length + 2 ∧ (∀ x, validPl x = true → printL x = s → ws = wordsF x)
theorem fields_any (s : List UInt8) (hs : s.length ≤ 100000) (w : World) (ht : Tabs w) : Calls Tryd.prog 42 #[.string (str s)] w fun e w' => FieldsP s w.heap.size e w' ∧ Ext w w' := by
  refine (Tryd.strings_Fields_any (str s) w (by rw [str_size]; omega) ht.asc ht.white).mono ?_
  rintro e w' ⟨b, rfl, hb, ho, he⟩
  rw [str_data] at ho ⊢
  obtain ⟨h1, h2⟩ := WsR.of_own ho
  obtain ⟨h3, h4⟩ := fieldsGoD_le (s.length + 1) [] s
  refine ⟨⟨b, _, Lib.fieldsD s, rfl, h1, h2, fun x hx => by have := h3 x hx; simpa using this, h4, fun x hx hp => ?_⟩, he⟩
  subst hp
  rw [Lib.fieldsD_ascii _ (printL_ascii hx), fields_print hx]
/-- The array of the names. -/
def namesV : Array Value := #[.string (str [110, 111, 110, 101]), .string (str [115, 116, 111, 112]), .string (str [108, 111, 111, 112]), .string (str [116, 111, 117, 99, 104]), .string (str [102, 108, 105, 112, 45, 105, 109, 97, 103, 101]), .string (str [102, 108, 105, 112, 45, 109, 101, 115, 115, 97, 103, 101]), .string (str [102, 108, 105, 112, 45, 114, 101, 115, 117, 108, 116]), .string (str [102, 108, 105, 112, 45, 101, 102, 102, 101, 99, 116, 115]), .string (str [99, 117, 116]), .string (str [97, 103, 97, 105, 110])]
theorem index_any (b : Nat) (x : List UInt8) (t : TypeId) (w : World) (hb : Blk w b t namesV) : Calls Tryd.prog 53 #[.slice (some ⟨b, 0, none⟩) 10 10, .string (str x)] w fun e w' => (∃ k : Int, e = .returned (.int .i64 k) ∧ ∀ j, 1 ≤ j ∧ j ≤ 9 → x = nameK j → k = j) ∧ w = w' := by
  refine (Tryd.slices_Index_string b 0 10 10 (namesL.map str) (str x) w (by decide) (by decide) (fun j hj => ?_)).mono ?_
  · have hj : j < 10 := hj
    rw [hb.cell]
    have hc : j = 0 ∨ j = 1 ∨ j = 2 ∨ j = 3 ∨ j = 4 ∨ j = 5 ∨ j = 6 ∨ j = 7 ∨ j = 8 ∨ j = 9 := by omega
    rcases hc with rfl | rfl | rfl | rfl | rfl | rfl | rfl | rfl | rfl | rfl <;> rfl
  · rintro e w' ⟨rfl, rfl⟩
    refine ⟨⟨_, rfl, fun j hj hx => ?_⟩, rfl⟩
    subst hx
    rcases kind_ways hj with rfl | rfl | rfl | rfl | rfl | rfl | rfl | rfl | rfl <;> rfl
theorem grown_cells (b : Nat) : ∀ (vs : List Value) (o : Nat) (w : World), w.grownBy (w.setCells b o vs) (some b)
  | [], o, w => ⟨rfl, rfl, rfl, Nat.le_refl _, fun _ _ _ => rfl⟩
  | v :: r, o, w => grown_trans (show w.grownBy (w.setCell ⟨b, o, none⟩ v) (some b) from ⟨rfl, rfl, rfl, by simp [World.setCell], fun k _ hk => Below.heap_setCell w ⟨b, o, none⟩ v k (fun e => hk (by rw [e]))⟩) (grown_cells b r (o + 1) _)
theorem grown_drewN {w w' : World} {row : Option Nat} : ∀ (q : Nat), (w.drewN q).grownBy w' row → w.grownBy w' row := fun q h => ⟨h.os, h.tape, h.output, h.size, h.block⟩
theorem delete_any (b c : Nat) (ws : List (List UInt8)) (n : Nat) (hn : ws.length = n) (h3 : 3 ≤ n) (w : World) (hw : WsR w b c ws) : Calls Tryd.prog 54 #[.slice (some ⟨b, 0, none⟩) n c, .int .i64 2, .int .i64 3] w fun e w' => e = .returned (.slice (some ⟨b, 0, none⟩) (n - 1) c) ∧ WsR w' b c (ws.take 2 ++ ws.drop 3) ∧ w.grownBy w' (some b) := by
  have hS : ∀ i, (h : i < ws.length) → (fun i => str (ws.getD i [])) i = str ws[i] := fun i h => by simp [List.getD_eq_getElem?_getD, h]
  have hso : Lib.strsOf (fun i => str (ws.getD i [])) n = ws := by
    unfold Lib.strsOf
    apply List.ext_getElem
    · simp [hn]
    · intro i h1 h2
      simp [str_data, List.getD_eq_getElem?_getD, h2]
  refine (Tryd.slices_Delete_string_cells b 0 n c 2 3 (fun i => str (ws.getD i [])) w (by have := hw.le; omega) hw.max (by omega) (by omega) (fun i hi => ?_) (fun i hi => ?_)).mono ?_
  · rw [Nat.zero_add, hw.cell i (by omega)]
    have := hS i (by omega)
    simp only at this
    rw [this]
  · rw [Nat.zero_add]; exact hw.frz i (by omega)
  · rintro e w' ⟨rfl, q, rfl⟩
    rw [hso]
    refine ⟨rfl, ?_, grown_drewN q (grown_cells b _ 0 _)⟩
    have hlen : ((ws.take 2 ++ ws.drop 3 ++ List.replicate (3 - 2) []).map encStr).length = n := by simp; omega
    have hin := World.cell?_setCells_in b ((ws.take 2 ++ ws.drop 3 ++ List.replicate (3 - 2) []).map encStr) 0 (w.drewN q) (fun j hj => by
      rw [hlen] at hj
      have := hw.cell j (by omega)
      show (w.cell? ⟨b, 0 + j, none⟩).isSome = true
      rw [Nat.zero_add, this]; rfl)
    refine ⟨?_, ?_, hw.max, fun i hi => ?_, fun i hi => ?_⟩
    · have := (grown_cells b ((ws.take 2 ++ ws.drop 3 ++ List.replicate (3 - 2) []).map encStr) 0 (w.drewN q)).size
      exact Nat.lt_of_lt_of_le hw.lt this
    · have := hw.le; simp; omega
    · have hi' : i < ((ws.take 2 ++ ws.drop 3 ++ List.replicate (3 - 2) []).map encStr).length := by simp at hi ⊢; omega
      have := hin i hi'
      rw [Nat.zero_add] at this
      rw [this, List.getElem_map, List.getElem_append_left hi]
      rfl
    · rw [World.frozen?_setCells]
      exact hw.frz i (by simp at hi; omega)
theorem join_any (b c : Nat) (ws : List (List UInt8)) (n : Nat) (hn : ws.length = n) (hj : (Lib.join ws [32]).length ≤ 100000) (hl : n ≤ 100000) (w : World) (hw : WsR w b c ws) : Calls Tryd.prog 36 #[.slice (some ⟨b, 0, none⟩) n c, .string ⟨#[32]⟩] w fun e w' => e = .returned (.string (str (Lib.join ws [32]))) ∧ Ext w w' := by
  subst hn
  have hm : (ws.map str).map (·.data.toList) = ws := by
    rw [List.map_map]
    have : ((fun x : ByteArray => x.data.toList) ∘ str) = id := funext fun l => str_data l
    rw [this, List.map_id]
  have := Tryd.strings_Join b 0 c (ws.map str) ⟨#[32]⟩ w (fun j x hx => by
      rw [List.getElem?_map] at hx
      obtain ⟨y, hy, rfl⟩ := Option.map_eq_some_iff.1 hx
      obtain ⟨hj, rfl⟩ := List.getElem?_eq_some_iff.1 hy
      rw [Nat.zero_add]
      exact hw.cell j hj) hw.lt (by simp; omega) (by simp; exact hw.le) (by rw [hm]; exact Nat.le_trans hj (by omega))
  rw [hm, List.length_map] at this
  exact this
end Go.Proofs.YtfjddphjjhhjpaaDoor
