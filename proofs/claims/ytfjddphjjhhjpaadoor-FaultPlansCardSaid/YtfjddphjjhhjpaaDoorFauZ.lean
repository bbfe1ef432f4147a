/-
  FaultPlans: Parse of the reference.
-/
import Derived.LoopN
import Derived.Test.YtfjddphjjhhjpaaDoorFauE
import Derived.Test.YtfjddphjjhhjpaaDoorFauY
namespace Go.Proofs.YtfjddphjjhhjpaaDoor
open Go.RowKit
set_option linter.unusedVariables false

/-- The first six words, in a block. -/
def W6 (w : World) (b : Nat) (ls : List (List UInt8)) : Prop := b < w.heap.size ∧ ∀ i, i < 6 → w.cell? ⟨b, i, none⟩ = some (.string (str (wd ls i)))
theorem W6.ext {w w' : World} {b : Nat} {ls : List (List UInt8)} (h : W6 w b ls) (he : Ext w w') : W6 w' b ls := ⟨Nat.lt_of_lt_of_le h.1 he.size, fun i hi => (he.cell b i h.1).trans (h.2 i hi)⟩
theorem W6.far {w : World} {b : Nat} {ls : List (List UInt8)} (h : W6 w b ls) {p : Addr} (hp : b ≠ p.block) (u : Value) : W6 (w.setCell p u) b ls :=
  ⟨by simpa [World.setCell] using h.1, fun i hi => (World.cell?_of_block (w := w) (a := ⟨b, i, none⟩) (Below.heap_setCell w p u b hp)).trans (h.2 i hi)⟩
theorem W6.of_own {w : World} {base b k c : Nat} {ls : List (List UInt8)} (h : OwnS w base (.slice (some ⟨b, 0, none⟩) k c) k ls) (hk : ls.length = k) (h6 : 6 ≤ k) : W6 w b ls ∧ base ≤ b ∧ k ≤ c := by
  subst hk
  obtain ⟨h1, h2⟩ := WsR.of_own (show w.ownsRow base 9 1 (.slice (some ⟨b, 0, none⟩) ls.length c) ls.length (ls.map fun x => Value.string ⟨x.toArray⟩) from h)
  refine ⟨⟨h1.lt, fun i hi => ?_⟩, h2, h1.le⟩
  rw [h1.cell i (by omega)]
  unfold wd
  rw [List.getD_eq_getElem?_getD, List.getElem?_eq_getElem (by omega)]
  rfl
theorem W6.grown {w w' : World} {b g : Nat} {ls : List (List UInt8)} (h : W6 w b ls) (hg : w.grownBy w' (some g)) (hb : b ≠ g) : W6 w' b ls := by
  have h1 := hg.block b h.1 (fun e => hb (Option.some.inj e))
  exact ⟨Nat.lt_of_lt_of_le h.1 hg.size, fun i hi => (World.cell?_of_block (w := w) (a := ⟨b, i, none⟩) h1).trans (h.2 i hi)⟩
theorem kU_one (x : List UInt8) : kU x 1 = 0 := by simp [kU]
theorem kU_step (x : List UInt8) (j : Nat) (h : 1 ≤ j) : kU x (j + 1) = if (nameK (j : Int) == x) = true then (j : Int) else kU x j := by
  rw [kU]
  unfold nameK
  rw [Int.toNat_natCast]
  by_cases hx : namesL.getD j [] = x
  · rw [if_pos ⟨h, hx⟩, if_pos (beq_iff_eq.2 hx)]
  · rw [if_neg (fun e => hx e.2), if_neg (fun e => hx (beq_iff_eq.1 e))]
def lenV : Value → Nat
  | .slice _ n _ => n
  | _ => 0
theorem splitGo_length : ∀ (l cur : List UInt8), (splitGo cur l).length ≤ l.length + 1 ∧ 1 ≤ (splitGo cur l).length
  | [], cur => by simp [splitGo]
  | c :: l, cur => by
    have h1 := splitGo_length l []
    have h2 := splitGo_length l (cur ++ [c])
    rw [splitGo_step]
    split
    · simp; omega
    · simp; omega
def p7 (a b c d e f g : Int) : Array Value := #[.int .i64 a, .int .i64 b, .int .i64 c, .int .i64 d, .int .i64 e, .int .i64 f, .int .i64 g]
theorem num_any (ls : List (List UInt8)) (i N : Nat) (hN : numL (wd ls i) = N) (hl : (wd ls i).length ≤ 100000) (w : World) : Calls Tryd.prog 44 #[.string (str (wd ls i))] w fun e w' => e = .returned (.int .i64 N) ∧ w = w' := by
  subst hN
  exact number_any _ hl w
theorem splitGo_len : ∀ (l cur : List UInt8) (n : Nat), cur.length + l.length ≤ n → ∀ x ∈ splitGo cur l, x.length ≤ n
  | [], cur, n, h, x, hx => by
    simp only [splitGo, List.mem_singleton] at hx
    subst hx; simpa using h
  | c :: l, cur, n, h, x, hx => by
    rw [splitGo_step] at hx
    split at hx
    · rcases List.mem_cons.1 hx with rfl | hx
      · simp at h; omega
      · exact splitGo_len l [] n (by simp at h ⊢; omega) x hx
    · exact splitGo_len l _ n (by simp at h ⊢; omega) x hx
theorem wd_len {ls : List (List UInt8)} {n : Nat} (h : ∀ x ∈ ls, x.length ≤ n) (i : Nat) : (wd ls i).length ≤ n := by
  unfold wd
  rw [List.getD_eq_getElem?_getD]
  cases hi : ls[i]? with
  | none => simp
  | some x => exact h x (List.mem_of_getElem? hi)
theorem Ext.z7 {w0 w : World} {g : Nat} (h : Ext w0 w) (hp : w0.heap.size ≤ g) (a b c d e f i : Value) : Ext w0 (w.setCells g 0 [a, b, c, d, e, f, i]) :=
  h.grown (grown_cells _ _ 0 w) (fun j hj => by injection hj with hj; omega)

set_option maxRecDepth 100000 in
set_option maxHeartbeats 400000 in
theorem rparse_none (s : List UInt8) (hn : s = [110, 111, 110, 101]) (w : World) : Calls Tryd.prog 12 #[.string (str s)] w fun e w' => ParseE s e ∧ Ext w w' := by
  have HB0 := hide (Blk.new w 23 z7)
  have HX0 := hide (Ext.alloc w (.cells z7 23))
  unfold z7 at HB0 HX0
  have _hz0 : (w.alloc (.cells #[.int .i64 0, .int .i64 0, .int .i64 0, .int .i64 0, .int .i64 0, .int .i64 0, .int .i64 0] 23)).heap.size = w.heap.size + 1 := World.size_alloc _ _
  have fin : ∀ (v : Pl) (w5 : World), Blk w5 w.heap.size 23 #[.int .i64 0, .int .i64 0, .int .i64 0, .int .i64 0, .int .i64 0, .int .i64 0, .int .i64 0] → Ext w w5 →
      (∀ i, (w5.setCells w.heap.size 0 [.int .i64 v.c, .int .i64 v.n, .int .i64 v.e, .int .i64 v.k, .int .i64 v.s, .int .i64 v.p, .int .i64 v.m]).cell? ⟨w.heap.size, i, none⟩ = (#[.int .i64 v.c, .int .i64 v.n, .int .i64 v.e, .int .i64 v.k, .int .i64 v.s, .int .i64 v.p, .int .i64 v.m] : Array Value)[i]?) ∧
      Ext w (w5.setCells w.heap.size 0 [.int .i64 v.c, .int .i64 v.n, .int .i64 v.e, .int .i64 v.k, .int .i64 v.s, .int .i64 v.p, .int .i64 v.m]) := fun v w5 h1 h2 =>
    ⟨(Blk.put7 h1 _ _ _ _ _ _ _).cell, h2.z7 (by omega) _ _ _ _ _ _ _⟩
  have FIN := hide fin
  clear fin
  go_enter Tryd.func12, Tryd.ntmps12
  have HPN := hide (show ParseP s ⟨0, 0, 0, 0, 0, 0, 0⟩ 0 from hn ▸ parse_none)
  have hnb : (s == [110, 111, 110, 101]) = true := by rw [hn]; rfl
  have hrc := HB0.out.cell
  have hrf := HB0.out.frozen
  clear hn
  go_wp2_with fail
  have hset := HB0.out.cell
  exact bodyPost_ret (v := .tuple #[.agg z7, .int .i64 0]) (by simp [results, Tryd.results12, go_sem, z7, hset]) rfl ⟨⟨⟨0, 0, 0, 0, 0, 0, 0⟩, 0, rfl, HPN.out⟩, HX0.out⟩

set_option maxRecDepth 100000 in
set_option maxHeartbeats 2000000 in
theorem rparse_some (s : List UInt8) (hs : s.length ≤ 100) (hn : s ≠ [110, 111, 110, 101]) (w : World) : Calls Tryd.prog 12 #[.string (str s)] w fun e w' => ParseE s e ∧ Ext w w' := by
  have HB0 := hide (Blk.new w 23 z7)
  have HX0 := hide (Ext.alloc w (.cells z7 23))
  unfold z7 at HB0 HX0
  have hz0 : (w.alloc (.cells #[.int .i64 0, .int .i64 0, .int .i64 0, .int .i64 0, .int .i64 0, .int .i64 0, .int .i64 0] 23)).heap.size = w.heap.size + 1 := World.size_alloc _ _
  have fin : ∀ (v : Pl) (w5 : World), Blk w5 w.heap.size 23 #[.int .i64 0, .int .i64 0, .int .i64 0, .int .i64 0, .int .i64 0, .int .i64 0, .int .i64 0] → Ext w w5 →
      (∀ i, (w5.setCells w.heap.size 0 [.int .i64 v.c, .int .i64 v.n, .int .i64 v.e, .int .i64 v.k, .int .i64 v.s, .int .i64 v.p, .int .i64 v.m]).cell? ⟨w.heap.size, i, none⟩ = (#[.int .i64 v.c, .int .i64 v.n, .int .i64 v.e, .int .i64 v.k, .int .i64 v.s, .int .i64 v.p, .int .i64 v.m] : Array Value)[i]?) ∧
      Ext w (w5.setCells w.heap.size 0 [.int .i64 v.c, .int .i64 v.n, .int .i64 v.e, .int .i64 v.k, .int .i64 v.s, .int .i64 v.p, .int .i64 v.m]) := fun v w5 h1 h2 =>
    ⟨(Blk.put7 h1 _ _ _ _ _ _ _).cell, h2.z7 (by omega) _ _ _ _ _ _ _⟩
  have FIN := hide fin
  clear fin
  go_enter Tryd.func12, Tryd.ntmps12
  have hnb : (s == [110, 111, 110, 101]) = false := beq_eq_false_iff_ne.2 hn
  have HN := hide hn
  have HBAD := hide (fun (x : Pl) (hx : refP (splitS s) = x) h => parse_bad hx hn h)
  have HGOOD := hide (fun (x : Pl) h => parse_good (s := s) (x := x) h)
  have HWDS := hide (words_any s (by omega))
  have HSL := hide (splitGo_length s [])
  have HSM := hide (splitGo_len s [] 100 (by simpa using hs))
  clear hn
  obtain ⟨w1, hw1⟩ : ∃ w1, w.alloc (.cells #[.int .i64 0, .int .i64 0, .int .i64 0, .int .i64 0, .int .i64 0, .int .i64 0, .int .i64 0] 23) = w1 := ⟨_, rfl⟩
  rw [hw1] at HB0 HX0 hz0
  have HW1 := hide hw1
  clear hw1
  go_wp2_with (go_at_call 43; refine (HWDS.out _).mono ?_; rintro e w2 ⟨b0, c0, rfl, hw2, hE2⟩; rw [HW1.out] at hw2 hE2; have HW2 := hide hw2; have HE2 := hide hE2; clear hw2 hE2)
  go_loopw [4] (fun vw wr => ∃ (b c k : Nat) (ls : List (List UInt8)), vw = .slice (some ⟨b, 0, none⟩) k c ∧ ls.length = k ∧ k ≤ 102 ∧ Hid (OwnS wr w1.heap.size (.slice (some ⟨b, 0, none⟩) k c) k ls) ∧ Hid (refP ls = refP (splitS s) ∧ ∀ x ∈ ls, x.length ≤ 100) ∧ Hid (Ext w1 wr)) (fun vw _ => 6 - lenV vw)
  case atStart => exact ⟨b0, c0, _, splitS s, rfl, rfl, by have := HSL.out.1; unfold splitS; omega, HW2, hide ⟨rfl, HSM.out⟩, HE2⟩
  case round =>
    obtain ⟨b, c, k, ls, rfl, hk, hk2, HO, HR, HX⟩ := hrel
    by_cases h6 : k < 6
    · have h6i : (k : Int) < 6 := by omega
      have HG := hide (Blk.new wr 9 #[.string (str [])])
      have HO1 := hide (HO.out.ext (Ext.alloc wr (.cells #[.string (str [])] 9)))
      have HX1 := hide (HX.out.alloc' (.cells #[.string (str [])] 9))
      have hk9 : k ≤ 1000 := by omega
      have HBS := hide HO.out.base
      clear HO HX
      go_wp2_with (at_builtin; refine wpList_appendSv rfl _ _ rfl w1.heap.size _ k ls rfl HO1.out wr.heap.size [] rfl HG.out hk9 HX1.out.size ?_; intro b' c' w3 hq1 hq2; have HQ1 := hide hq1; have HX2 := hide (HX1.out.grown hq2 HBS.out); clear hq1 hq2)
      go_roundw
      case rel => exact ⟨b', c', k + 1, ls ++ [[]], rfl, by simp [hk], by omega, HQ1, hide ⟨(refP_pad ls).trans HR.out.1, fun x hx => by
        rcases List.mem_append.1 hx with hx | hx
        · exact HR.out.2 x hx
        · rw [List.mem_singleton] at hx; subst hx; exact Nat.zero_le _⟩, HX2⟩
      case measure => simp [lenV]; omega
    · have h6i : ¬ (k : Int) < 6 := by omega
      obtain ⟨hw6, hbb, hkc⟩ := W6.of_own HO.out hk (by omega)
      have HW6 := hide hw6
      have HBR := hide (HB0.out.ext HX.out)
      have HXR := hide (HX0.out.trans HX.out)
      have hN0 : ∃ N, numL (wd ls 0) = N := ⟨_, rfl⟩
      obtain ⟨N0, hN0⟩ := hN0
      obtain ⟨N1, hN1⟩ : ∃ N, numL (wd ls 1) = N := ⟨_, rfl⟩
      obtain ⟨N3, hN3⟩ : ∃ N, numL (wd ls 3) = N := ⟨_, rfl⟩
      obtain ⟨N4, hN4⟩ : ∃ N, numL (wd ls 4) = N := ⟨_, rfl⟩
      obtain ⟨N5, hN5⟩ : ∃ N, numL (wd ls 5) = N := ⟨_, rfl⟩
      have HN0 := hide (num_any ls 0 N0 hN0 (Nat.le_trans (wd_len HR.out.2 0) (by omega)))
      have HN1 := hide (num_any ls 1 N1 hN1 (Nat.le_trans (wd_len HR.out.2 1) (by omega)))
      have HN3 := hide (num_any ls 3 N3 hN3 (Nat.le_trans (wd_len HR.out.2 3) (by omega)))
      have HN4 := hide (num_any ls 4 N4 hN4 (Nat.le_trans (wd_len HR.out.2 4) (by omega)))
      have HN5 := hide (num_any ls 5 N5 hN5 (Nat.le_trans (wd_len HR.out.2 5) (by omega)))
      have HKU := hide (kU_le (wd ls 2))
      have HRF := hide (show refP (splitS s) = if inB (kU (wd ls 2) 10) 1 3 then ⟨N0, N1, N3, kU (wd ls 2) 10, N4, 0, 0⟩
          else if inB (kU (wd ls 2) 10) 4 7 then ⟨N0, N1, N3, kU (wd ls 2) 10, 0, N4, N5⟩
          else if kU (wd ls 2) 10 = 8 then ⟨N0, N1, 0, kU (wd ls 2) 10, N3, 0, 0⟩
          else ⟨N0, N1, 0, kU (wd ls 2) 10, 0, 0, 0⟩ from by
        rw [← HR.out.1, ← hN0, ← hN1, ← hN3, ← hN4, ← hN5]
        rfl)
      have hrlt := HBR.out.lt
      have hrw1 : w.heap.size + 1 ≤ w1.heap.size := HB0.out.lt
      have hkz : (0 : Int) < k := by omega
      have hk1i : (1 : Int) < k := by omega
      have hk2i : (2 : Int) < k := by omega
      have hk3i : (3 : Int) < k := by omega
      have hk4i : (4 : Int) < k := by omega
      have hk5i : (5 : Int) < k := by omega
      have hk0n : 0 < k := by omega
      have hk1n : 1 < k := by omega
      have hk2n : 2 < k := by omega
      have hk3n : 3 < k := by omega
      have hk4n : 4 < k := by omega
      have hk5n : 5 < k := by omega
      have hrb : w.heap.size ≠ b := by omega
      have hrs : w.heap.size < w1.heap.size := by omega
      clear HR HO HX HB0 HX0 HWDS HSL HSM HW2 HE2 hN0 hN1 hN3 hN4 hN5 hw6 hk
      go_wp2_with fail
      refine wp_region_ext 10 6 [(3, fun v => v = .int .i64 N0, fun _ _ => True), (7, fun v => v = .int .i64 N1, fun _ _ => True), (9, fun v => ∃ g, v = .pointer (some ⟨g, 0, none⟩), fun v wx => ∀ g, v = .pointer (some ⟨g, 0, none⟩) → wr.heap.size ≤ g ∧ Blk wx g 23 #[.int .i64 0, .int .i64 0, .int .i64 0, .int .i64 0, .int .i64 0, .int .i64 0, .int .i64 0])] mixed (by kernel_rfl)
        ⟨fun _ _ _ _ _ => trivial, fun _ _ _ _ _ => trivial, fun _ _ _ h hx g e => ⟨(h g e).1, (h g e).2.ext hx⟩, trivial⟩ ?_
      repeat ((refine seq_exact ?_ (by rfl) (by rfl) (fun w1 hU => ?_) ?_); (rotate_left 1); (focus (have f0 := (HW6.out.ext hU.un).2 0 (by omega); clear hU; go_simp <;> with_reducible rfl)); (simp only [Act.put, List.setIfInBounds_toArray, List.set_cons_zero, List.set_cons_succ]))
      refine seq_opaque _ _ (by rfl) rfl ⟨_, rfl⟩ (by simp) (fun w5 hU hp K hK => ?_) ?_
      · have hc := HN0.out w5
        clear hp
        go_simp
        refine hc.mono ?_
        rintro e w6 ⟨rfl, rfl⟩
        exact hK _ _ (Ext.refl _) rfl trivial
      rintro _ rfl
      simp only [Act.put, List.setIfInBounds_toArray, List.set_cons_zero, List.set_cons_succ]
      repeat ((refine seq_exact ?_ (by rfl) (by rfl) (fun w1 hU => ?_) ?_); (rotate_left 1); (focus (have f0 := (HW6.out.ext hU.un).2 1 (by omega); clear hU; go_simp <;> with_reducible rfl)); (simp only [Act.put, List.setIfInBounds_toArray, List.set_cons_zero, List.set_cons_succ]))
      refine seq_opaque _ _ (by rfl) rfl ⟨_, rfl⟩ (by simp) (fun w5 hU hp K hK => ?_) ?_
      · have hc := HN1.out w5
        clear hp
        go_simp
        refine hc.mono ?_
        rintro e w6 ⟨rfl, rfl⟩
        exact hK _ _ (Ext.refl _) rfl trivial
      rintro _ rfl
      simp only [Act.put, List.setIfInBounds_toArray, List.set_cons_zero, List.set_cons_succ]
      repeat ((refine seq_exact ?_ (by rfl) (by rfl) (fun w1 hU => ?_) ?_); (rotate_left 1); (focus (clear hU; go_simp <;> with_reducible rfl)); (simp only [Act.put, List.setIfInBounds_toArray, List.set_cons_zero, List.set_cons_succ]))
      refine seq_opaque _ _ (by rfl) rfl ⟨_, 0, rfl⟩ (by simp) (fun w5 hU hp K hK => ?_) ?_
      · have hz := Ext.size hU.un
        clear hp
        go_simp
        exact hK _ _ (Ext.alloc w5 _) ⟨w5.heap.size, rfl⟩ (fun g e => by injection e with e; injection e with e; injection e with e; subst e; exact ⟨hz, Blk.new w5 _ _⟩)
      rintro _ ⟨g, rfl⟩
      simp only [Act.put, List.setIfInBounds_toArray, List.set_cons_zero, List.set_cons_succ]
      intro w7 hw7 hp
      obtain ⟨hgr, hgb⟩ := hp _ (.head _) g rfl
      clear hp
      simp only [List.drop_succ_cons, List.drop_zero]
      have HW7 := hide (HW6.out.ext hw7.un)
      have HBR7 := hide (HBR.out.ext hw7.un)
      have HXR7 := hide (HXR.out.trans hw7.un)
      have HP7 := hide hgb
      have hbl := HW6.out.1
      have hgbn : b ≠ g := by omega
      have hrg : w.heap.size ≠ g := by omega
      have hgb2 : g ≠ b := fun e => hgbn e.symm
      have hgr2 : g ≠ w.heap.size := fun e => hrg e.symm
      have hws : w.heap.size ≤ g := by omega
      have hpc := hgb.cell
      have hpf := hgb.frozen
      clear hw7 HW6 HBR HXR hgb HN0 HN1
      have hP8 := Blk.put7 HP7.out (.int .i64 N0) (.int .i64 N1) (.int .i64 0) (.int .i64 0) (.int .i64 0) (.int .i64 0) (.int .i64 0)
      have hW8 := HW7.out.grown (grown_cells g [.int .i64 N0, .int .i64 N1, .int .i64 0, .int .i64 0, .int .i64 0, .int .i64 0, .int .i64 0] 0 w7) hgbn
      have hB8 := HBR7.out.grown (grown_cells g [.int .i64 N0, .int .i64 N1, .int .i64 0, .int .i64 0, .int .i64 0, .int .i64 0, .int .i64 0] 0 w7) (fun e => hrg (Option.some.inj e))
      have hX8 := HXR7.out.z7 hws (.int .i64 N0) (.int .i64 N1) (.int .i64 0) (.int .i64 0) (.int .i64 0) (.int .i64 0) (.int .i64 0)
      simp only [World.setCells, Nat.zero_add, Nat.reduceAdd] at hP8 hW8 hB8 hX8
      have HP8 := hide hP8
      have HW8 := hide hW8
      have HB8 := hide hB8
      have HX8 := hide hX8
      clear hP8 hW8 hB8 hX8 HP7 HW7 HBR7 HXR7
      go_wp2_with fail
      clear hpc hpf
      go_loopw [6] (fun vk wx => ∃ j : Nat, vk = .int .i64 (j : Int) ∧ 1 ≤ j ∧ j ≤ 10 ∧ Hid (Blk wx g 23 #[.int .i64 N0, .int .i64 N1, .int .i64 0, .int .i64 (kU (wd ls 2) j), .int .i64 0, .int .i64 0, .int .i64 0]) ∧ Hid (W6 wx b ls) ∧ Hid (Blk wx w.heap.size 23 #[.int .i64 0, .int .i64 0, .int .i64 0, .int .i64 0, .int .i64 0, .int .i64 0, .int .i64 0]) ∧ Hid (Ext w wx)) (fun vk _ => 10 - (intOf vk).toNat)
      case atStart => exact ⟨1, rfl, by omega, by omega, by rw [kU_one]; exact HP8, HW8, HB8, HX8⟩
      case round =>
        clear HP8 HW8 HB8 HX8
        obtain ⟨j, rfl, hj1, hj10, HP, HW, HB, HX⟩ := hrel
        by_cases hj : j < 10
        · have hji : (j : Int) < 10 := by omega
          have HM := hide (names_at j hj)
          have HKJ := hide (kU_step (wd ls 2) j hj1)
          obtain ⟨M, hM⟩ : ∃ M, nameK (j : Int) = M := ⟨_, rfl⟩
          rw [hM] at HM HKJ
          clear hM
          cases hcm : (M == wd ls 2) with
          | true =>
            rw [hcm] at HKJ
            go_wp2_with (go_at_call 38; refine (rnames_any _).mono ?_; rintro e wy ⟨rfl, _, hE⟩; have HPy := hide (HP.out.ext hE); have HWy := hide (HW.out.ext hE); have HBy := hide (HB.out.ext hE); have HXy := hide (HX.out.trans hE); clear hE HP HW HB HX)
            refine wp_region_ext 8 10 [(0, fun v => ∃ g, v = .slice (some ⟨g, 0, none⟩) 10 10, fun v w => ∀ g, v = .slice (some ⟨g, 0, none⟩) 10 10 → Blk w g 9 namesV), (3, fun v => v = .string (str M), fun _ _ => True)] mixed (by kernel_rfl)
              ⟨fun _ _ _ h hx g e => (h g e).ext hx, fun _ _ _ _ _ => trivial, trivial⟩ ?_
            refine seq_opaque _ _ (by rfl) rfl ⟨_, 0, rfl⟩ (by simp) (fun w5 hU hp K hK => ?_) ?_
            · have hc := rnames_any w5
              clear hp
              go_simp
              refine hc.mono ?_
              rintro e w6 ⟨rfl, h1, h2⟩
              exact hK _ _ h2 ⟨_, rfl⟩ (fun g e => by injection e with e; injection e with e; injection e with e; rw [← e]; exact h1)
            rintro _ ⟨gn, rfl⟩
            simp only [Act.put, List.setIfInBounds_toArray, List.set_cons_zero, List.set_cons_succ]
            repeat ((refine seq_exact ?_ (by rfl) (by rfl) (fun w1 hU => ?_) ?_); (rotate_left 1); (focus (clear hU; go_simp <;> with_reducible rfl)); (simp only [Act.put, List.setIfInBounds_toArray, List.set_cons_zero, List.set_cons_succ]))
            refine seq_opaque _ _ (by rfl) rfl ⟨_, rfl⟩ (by simp) (fun w5 hU hp K hK => ?_) ?_
            · have hbl := (hp _ (.head _) (by kernel_rfl)) gn rfl
              have hcl := hbl.cell j
              rw [HM.out] at hcl
              clear hp hbl
              go_simp
              exact hK _ _ (Ext.refl _) rfl trivial
            rintro _ rfl
            simp only [Act.put, List.setIfInBounds_toArray, List.set_cons_zero, List.set_cons_succ]
            repeat ((refine seq_exact ?_ (by rfl) (by rfl) (fun w1 hU => ?_) ?_); (rotate_left 1); (focus (have f2 := (HWy.out.ext hU.un).2 2 (by omega); clear hU; go_simp <;> with_reducible rfl)); (simp only [Act.put, List.setIfInBounds_toArray, List.set_cons_zero, List.set_cons_succ]))
            intro w9 hw9 hp
            clear hp
            simp only [List.drop_succ_cons, List.drop_nil]
            have HP9 := hide (HPy.out.ext hw9.un)
            have HW9 := hide (HWy.out.ext hw9.un)
            have HB9 := hide (HBy.out.ext hw9.un)
            have HX9 := hide (HXy.out.trans hw9.un)
            clear hw9 HPy HWy HBy HXy
            have hpc := HP9.out.cell
            have hpf := HP9.out.frozen
            go_wp2_with fail
            go_roundw
            case rel => exact ⟨j + 1, by go_num, by omega, by omega, hide (by rw [show kU (wd ls 2) (j + 1) = j from HKJ.out]; exact HP9.out.set 3 (.int .i64 (j : Int))), hide (HW9.out.far (p := ⟨g, 3, none⟩) hgbn _), hide (HB9.out.far (p := ⟨g, 3, none⟩) hrg _), hide (HX9.out.set (p := ⟨g, 3, none⟩) hws _)⟩
            case measure => simp [intOf]; omega
          | false =>
            rw [hcm] at HKJ
            go_wp2_with (go_at_call 38; refine (rnames_any _).mono ?_; rintro e wy ⟨rfl, _, hE⟩; have HPy := hide (HP.out.ext hE); have HWy := hide (HW.out.ext hE); have HBy := hide (HB.out.ext hE); have HXy := hide (HX.out.trans hE); clear hE HP HW HB HX)
            refine wp_region_ext 8 10 [(0, fun v => ∃ g, v = .slice (some ⟨g, 0, none⟩) 10 10, fun v w => ∀ g, v = .slice (some ⟨g, 0, none⟩) 10 10 → Blk w g 9 namesV), (3, fun v => v = .string (str M), fun _ _ => True)] mixed (by kernel_rfl)
              ⟨fun _ _ _ h hx g e => (h g e).ext hx, fun _ _ _ _ _ => trivial, trivial⟩ ?_
            refine seq_opaque _ _ (by rfl) rfl ⟨_, 0, rfl⟩ (by simp) (fun w5 hU hp K hK => ?_) ?_
            · have hc := rnames_any w5
              clear hp
              go_simp
              refine hc.mono ?_
              rintro e w6 ⟨rfl, h1, h2⟩
              exact hK _ _ h2 ⟨_, rfl⟩ (fun g e => by injection e with e; injection e with e; injection e with e; rw [← e]; exact h1)
            rintro _ ⟨gn, rfl⟩
            simp only [Act.put, List.setIfInBounds_toArray, List.set_cons_zero, List.set_cons_succ]
            repeat ((refine seq_exact ?_ (by rfl) (by rfl) (fun w1 hU => ?_) ?_); (rotate_left 1); (focus (clear hU; go_simp <;> with_reducible rfl)); (simp only [Act.put, List.setIfInBounds_toArray, List.set_cons_zero, List.set_cons_succ]))
            refine seq_opaque _ _ (by rfl) rfl ⟨_, rfl⟩ (by simp) (fun w5 hU hp K hK => ?_) ?_
            · have hbl := (hp _ (.head _) (by kernel_rfl)) gn rfl
              have hcl := hbl.cell j
              rw [HM.out] at hcl
              clear hp hbl
              go_simp
              exact hK _ _ (Ext.refl _) rfl trivial
            rintro _ rfl
            simp only [Act.put, List.setIfInBounds_toArray, List.set_cons_zero, List.set_cons_succ]
            repeat ((refine seq_exact ?_ (by rfl) (by rfl) (fun w1 hU => ?_) ?_); (rotate_left 1); (focus (have f2 := (HWy.out.ext hU.un).2 2 (by omega); clear hU; go_simp <;> with_reducible rfl)); (simp only [Act.put, List.setIfInBounds_toArray, List.set_cons_zero, List.set_cons_succ]))
            intro w9 hw9 hp
            clear hp
            simp only [List.drop_succ_cons, List.drop_nil]
            have HP9 := hide (HPy.out.ext hw9.un)
            have HW9 := hide (HWy.out.ext hw9.un)
            have HB9 := hide (HBy.out.ext hw9.un)
            have HX9 := hide (HXy.out.trans hw9.un)
            clear hw9 HPy HWy HBy HXy
            have hpc := HP9.out.cell
            have hpf := HP9.out.frozen
            go_wp2_with fail
            go_roundw
            case rel => exact ⟨j + 1, by go_num, by omega, by omega, hide (by rw [show kU (wd ls 2) (j + 1) = kU (wd ls 2) j from HKJ.out]; exact HP9.out), HW9, HB9, HX9⟩
            case measure => simp [intOf]; omega
        · have hji : ¬ (j : Int) < 10 := by omega
          obtain rfl : j = 10 := by omega
          obtain ⟨K, hK⟩ : ∃ K, kU (wd ls 2) 10 = K := ⟨_, rfl⟩
          rw [hK] at HP HRF
          clear hK hj hji hj1 hj10 HKU
          go_wp2_with (first | (go_at_call 38; refine (rnames_any _).mono ?_; rintro e wy ⟨rfl, _, hE⟩; have HPy := hide (HP.out.ext hE); have HWy := hide (HW.out.ext hE); have HBy := hide (HB.out.ext hE); have HXy := hide (HX.out.trans hE); clear hE HP HW HB HX; have HP := HPy; have HW := HWy; have HB := HBy; have HX := HXy; clear HPy HWy HBy HXy; have hpc := HP.out.cell) | fail)
          cases hA : inB K 1 3 with
          | true =>
            have HA := hide hA
            clear hA
            have HPQ := HP
            have HPR := hide (fun w' => rprint_any ⟨N0, N1, N3, K, N4, 0, 0⟩ w')
            simp only at HPR
            have HRX := hide (show refP (splitS s) = ⟨N0, N1, N3, K, N4, 0, 0⟩ from by rw [HRF.out]; rw [if_pos HA.out])
            clear HRF HPQ
            go_wp2_with (first | (go_at_call 39; refine (in_any _ _ _ _).mono ?_; rw [HA.out]; rintro e w' ⟨rfl, rfl⟩) | (go_at_call 40; refine (flips_any _ _).mono ?_; rw [HBF.out]; rintro e w' ⟨rfl, rfl⟩))
            clear hpc
            refine wp_region_ext 9 13 [(3, fun v => v = .int .i64 N3, fun _ _ => True), (7, fun v => v = .int .i64 N4, fun _ _ => True)] mixed (by kernel_rfl) ⟨fun _ _ _ _ _ => trivial, fun _ _ _ _ _ => trivial, trivial⟩ ?_
            repeat ((refine seq_exact ?_ (by rfl) (by rfl) (fun w1 hU => ?_) ?_); (rotate_left 1); (focus (have f0 := (HW.out.ext hU.un).2 3 (by omega); clear hU; go_simp <;> with_reducible rfl)); (simp only [Act.put, List.setIfInBounds_toArray, List.set_cons_zero, List.set_cons_succ]))
            refine seq_opaque _ _ (by rfl) rfl ⟨_, rfl⟩ (by simp) (fun w5 hU hp K hK => ?_) ?_
            · have hc := HN3.out w5
              clear hp
              go_simp
              refine hc.mono ?_
              rintro e w6 ⟨rfl, rfl⟩
              exact hK _ _ (Ext.refl _) rfl trivial
            rintro _ rfl
            simp only [Act.put, List.setIfInBounds_toArray, List.set_cons_zero, List.set_cons_succ]
            repeat ((refine seq_exact ?_ (by rfl) (by rfl) (fun w1 hU => ?_) ?_); (rotate_left 1); (focus (have f0 := (HW.out.ext hU.un).2 4 (by omega); clear hU; go_simp <;> with_reducible rfl)); (simp only [Act.put, List.setIfInBounds_toArray, List.set_cons_zero, List.set_cons_succ]))
            refine seq_opaque _ _ (by rfl) rfl ⟨_, rfl⟩ (by simp) (fun w5 hU hp K hK => ?_) ?_
            · have hc := HN4.out w5
              clear hp
              go_simp
              refine hc.mono ?_
              rintro e w6 ⟨rfl, rfl⟩
              exact hK _ _ (Ext.refl _) rfl trivial
            rintro _ rfl
            simp only [Act.put, List.setIfInBounds_toArray, List.set_cons_zero, List.set_cons_succ]
            repeat ((refine seq_exact ?_ (by rfl) (by rfl) (fun w1 hU => ?_) ?_); (rotate_left 1); (focus (clear hU; go_simp <;> with_reducible rfl)); (simp only [Act.put, List.setIfInBounds_toArray, List.set_cons_zero, List.set_cons_succ]))
            intro w10 hw10 hp
            clear hp
            simp only [List.drop_succ_cons, List.drop_zero]
            have HP10 := hide (HP.out.ext hw10.un)
            have HB10 := hide (HB.out.ext hw10.un)
            have HX10 := hide (HX.out.trans hw10.un)
            clear hw10 HP HW HB HX
            have hpc := HP10.out.cell
            have hpf := HP10.out.frozen
            have hPs := ((HP10.out.set 2 (.int .i64 (N3 : Int))).set 4 (.int .i64 (N4 : Int)))
            have HBS := hide ((HB10.out.far (p := ⟨g, 2, none⟩) hrg (.int .i64 (N3 : Int))).far (p := ⟨g, 4, none⟩) hrg (.int .i64 (N4 : Int)))
            have HXS := hide ((HX10.out.set (p := ⟨g, 2, none⟩) hws (.int .i64 (N3 : Int))).set (p := ⟨g, 4, none⟩) hws (.int .i64 (N4 : Int)))
            simp only [List.setIfInBounds_toArray, List.set_cons_zero, List.set_cons_succ] at hPs
            have HPS := hide hPs
            clear hPs HP10 HB10 HX10
            obtain ⟨x0, hx0⟩ : ∃ x0 : Pl, x0 = ⟨N0, N1, N3, K, N4, 0, 0⟩ := ⟨_, rfl⟩
            rw [← hx0] at HPR HRX
            have HX0 := hide hx0
            clear hx0
            have HB9 := hide (HBAD.out x0 HRX.out)
            have HG9 := hide (HGOOD.out x0)
            clear HBAD HGOOD HRX HN
            obtain ⟨E0, hE0⟩ : ∃ E0, printE x0 = E0 := ⟨_, rfl⟩
            have hE01 : E0 = 0 ∨ E0 = 1 := by rw [← hE0]; unfold printE; split <;> simp
            rw [hE0] at HPR HB9 HG9
            obtain ⟨q, hq⟩ : ∃ q, printS x0 = q := ⟨_, rfl⟩
            rw [hq] at HPR HB9 HG9
            clear hE0 hq
            rcases hE01 with rfl | rfl
            · cases hqs : (q == s) with
              | false =>
                have HR := hide (HB9.out (fun h => by rw [h.2] at hqs; simp at hqs))
                have hpn : (q != s) = true := by rw [bne, hqs]; rfl
                have hne : ¬ q = s := beq_eq_false_iff_ne.1 hqs
                clear HB9 HG9
                go_wp2_with (first | (go_at_call 39; refine (in_any _ _ _ _).mono ?_; rw [HA.out]; rintro e w' ⟨rfl, rfl⟩) | (go_at_call 40; refine (flips_any _ _).mono ?_; rw [HBF.out]; rintro e w' ⟨rfl, rfl⟩) | (go_at_call 10; refine (HPR.out _).mono ?_; rintro e w11 ⟨rfl, hE⟩; have HPT := hide (HPS.out.ext hE); have HBT := hide (HBS.out.ext hE); have HXT := hide (HXS.out.trans hE); have htc := HPT.out.cell; have hrc := HBT.out.cell; have hrf := HBT.out.frozen; clear hE HPR))
                obtain ⟨hset, hxx⟩ := FIN.out ⟨0, 0, 0, 0, 0, 0, 0⟩ w11 HBT.out HXT.out
                simp only [World.setCells, Nat.zero_add, Nat.reduceAdd] at hset hxx
                exact bodyPost_ret (v := .tuple #[.agg #[.int .i64 0, .int .i64 0, .int .i64 0, .int .i64 0, .int .i64 0, .int .i64 0, .int .i64 0], .int .i64 3]) (by simp [results, Tryd.results12, go_sem, hset]) rfl ⟨⟨⟨0, 0, 0, 0, 0, 0, 0⟩, 3, rfl, HR.out⟩, hxx⟩
              | true =>
                have HR := hide (HG9.out ⟨rfl, beq_iff_eq.1 hqs⟩)
                rw [HX0.out] at HR
                have hpn : (q != s) = false := by rw [bne, hqs]; rfl
                clear HB9 HG9
                go_wp2_with (first | (go_at_call 39; refine (in_any _ _ _ _).mono ?_; rw [HA.out]; rintro e w' ⟨rfl, rfl⟩) | (go_at_call 40; refine (flips_any _ _).mono ?_; rw [HBF.out]; rintro e w' ⟨rfl, rfl⟩) | (go_at_call 10; refine (HPR.out _).mono ?_; rintro e w11 ⟨rfl, hE⟩; have HPT := hide (HPS.out.ext hE); have HBT := hide (HBS.out.ext hE); have HXT := hide (HXS.out.trans hE); have htc := HPT.out.cell; have hrc := HBT.out.cell; have hrf := HBT.out.frozen; clear hE HPR))
                obtain ⟨hset, hxx⟩ := FIN.out ⟨N0, N1, N3, K, N4, 0, 0⟩ w11 HBT.out HXT.out
                simp only [World.setCells, Nat.zero_add, Nat.reduceAdd] at hset hxx
                exact bodyPost_ret (v := .tuple #[.agg #[.int .i64 N0, .int .i64 N1, .int .i64 N3, .int .i64 K, .int .i64 N4, .int .i64 0, .int .i64 0], .int .i64 0]) (by simp [results, Tryd.results12, go_sem, hset]) rfl ⟨⟨⟨N0, N1, N3, K, N4, 0, 0⟩, 0, rfl, HR.out⟩, hxx⟩
            · have HR := hide (HB9.out (fun h => absurd h.1 (by decide)))
              clear HB9 HG9
              go_wp2_with (first | (go_at_call 39; refine (in_any _ _ _ _).mono ?_; rw [HA.out]; rintro e w' ⟨rfl, rfl⟩) | (go_at_call 40; refine (flips_any _ _).mono ?_; rw [HBF.out]; rintro e w' ⟨rfl, rfl⟩) | (go_at_call 10; refine (HPR.out _).mono ?_; rintro e w11 ⟨rfl, hE⟩; have HPT := hide (HPS.out.ext hE); have HBT := hide (HBS.out.ext hE); have HXT := hide (HXS.out.trans hE); have htc := HPT.out.cell; have hrc := HBT.out.cell; have hrf := HBT.out.frozen; clear hE HPR))
              obtain ⟨hset, hxx⟩ := FIN.out ⟨0, 0, 0, 0, 0, 0, 0⟩ w11 HBT.out HXT.out
              simp only [World.setCells, Nat.zero_add, Nat.reduceAdd] at hset hxx
              exact bodyPost_ret (v := .tuple #[.agg #[.int .i64 0, .int .i64 0, .int .i64 0, .int .i64 0, .int .i64 0, .int .i64 0, .int .i64 0], .int .i64 3]) (by simp [results, Tryd.results12, go_sem, hset]) rfl ⟨⟨⟨0, 0, 0, 0, 0, 0, 0⟩, 3, rfl, HR.out⟩, hxx⟩
          | false =>
            have HA := hide hA
            clear hA
            cases hB : inB K 4 7 with
            | true =>
              have HBF := hide hB
              clear hB
              have HPQ := HP
              have HPR := hide (fun w' => rprint_any ⟨N0, N1, N3, K, 0, N4, N5⟩ w')
              simp only at HPR
              have HRX := hide (show refP (splitS s) = ⟨N0, N1, N3, K, 0, N4, N5⟩ from by rw [HRF.out]; rw [if_neg (by rw [HA.out]; simp), if_pos HBF.out])
              clear HRF HPQ
              go_wp2_with (first | (go_at_call 39; refine (in_any _ _ _ _).mono ?_; rw [HA.out]; rintro e w' ⟨rfl, rfl⟩) | (go_at_call 40; refine (flips_any _ _).mono ?_; rw [HBF.out]; rintro e w' ⟨rfl, rfl⟩))
              clear hpc
              refine wp_region_ext 13 15 [(3, fun v => v = .int .i64 N3, fun _ _ => True), (7, fun v => v = .int .i64 N4, fun _ _ => True), (11, fun v => v = .int .i64 N5, fun _ _ => True)] mixed (by kernel_rfl) ⟨fun _ _ _ _ _ => trivial, fun _ _ _ _ _ => trivial, fun _ _ _ _ _ => trivial, trivial⟩ ?_
              repeat ((refine seq_exact ?_ (by rfl) (by rfl) (fun w1 hU => ?_) ?_); (rotate_left 1); (focus (have f0 := (HW.out.ext hU.un).2 3 (by omega); clear hU; go_simp <;> with_reducible rfl)); (simp only [Act.put, List.setIfInBounds_toArray, List.set_cons_zero, List.set_cons_succ]))
              refine seq_opaque _ _ (by rfl) rfl ⟨_, rfl⟩ (by simp) (fun w5 hU hp K hK => ?_) ?_
              · have hc := HN3.out w5
                clear hp
                go_simp
                refine hc.mono ?_
                rintro e w6 ⟨rfl, rfl⟩
                exact hK _ _ (Ext.refl _) rfl trivial
              rintro _ rfl
              simp only [Act.put, List.setIfInBounds_toArray, List.set_cons_zero, List.set_cons_succ]
              repeat ((refine seq_exact ?_ (by rfl) (by rfl) (fun w1 hU => ?_) ?_); (rotate_left 1); (focus (have f0 := (HW.out.ext hU.un).2 4 (by omega); clear hU; go_simp <;> with_reducible rfl)); (simp only [Act.put, List.setIfInBounds_toArray, List.set_cons_zero, List.set_cons_succ]))
              refine seq_opaque _ _ (by rfl) rfl ⟨_, rfl⟩ (by simp) (fun w5 hU hp K hK => ?_) ?_
              · have hc := HN4.out w5
                clear hp
                go_simp
                refine hc.mono ?_
                rintro e w6 ⟨rfl, rfl⟩
                exact hK _ _ (Ext.refl _) rfl trivial
              rintro _ rfl
              simp only [Act.put, List.setIfInBounds_toArray, List.set_cons_zero, List.set_cons_succ]
              repeat ((refine seq_exact ?_ (by rfl) (by rfl) (fun w1 hU => ?_) ?_); (rotate_left 1); (focus (have f0 := (HW.out.ext hU.un).2 5 (by omega); clear hU; go_simp <;> with_reducible rfl)); (simp only [Act.put, List.setIfInBounds_toArray, List.set_cons_zero, List.set_cons_succ]))
              refine seq_opaque _ _ (by rfl) rfl ⟨_, rfl⟩ (by simp) (fun w5 hU hp K hK => ?_) ?_
              · have hc := HN5.out w5
                clear hp
                go_simp
                refine hc.mono ?_
                rintro e w6 ⟨rfl, rfl⟩
                exact hK _ _ (Ext.refl _) rfl trivial
              rintro _ rfl
              simp only [Act.put, List.setIfInBounds_toArray, List.set_cons_zero, List.set_cons_succ]
              repeat ((refine seq_exact ?_ (by rfl) (by rfl) (fun w1 hU => ?_) ?_); (rotate_left 1); (focus (clear hU; go_simp <;> with_reducible rfl)); (simp only [Act.put, List.setIfInBounds_toArray, List.set_cons_zero, List.set_cons_succ]))
              intro w10 hw10 hp
              clear hp
              simp only [List.drop_succ_cons, List.drop_zero]
              have HP10 := hide (HP.out.ext hw10.un)
              have HB10 := hide (HB.out.ext hw10.un)
              have HX10 := hide (HX.out.trans hw10.un)
              clear hw10 HP HW HB HX
              have hpc := HP10.out.cell
              have hpf := HP10.out.frozen
              have hPs := (((HP10.out.set 2 (.int .i64 (N3 : Int))).set 5 (.int .i64 (N4 : Int))).set 6 (.int .i64 (N5 : Int)))
              have HBS := hide (((HB10.out.far (p := ⟨g, 2, none⟩) hrg (.int .i64 (N3 : Int))).far (p := ⟨g, 5, none⟩) hrg (.int .i64 (N4 : Int))).far (p := ⟨g, 6, none⟩) hrg (.int .i64 (N5 : Int)))
              have HXS := hide (((HX10.out.set (p := ⟨g, 2, none⟩) hws (.int .i64 (N3 : Int))).set (p := ⟨g, 5, none⟩) hws (.int .i64 (N4 : Int))).set (p := ⟨g, 6, none⟩) hws (.int .i64 (N5 : Int)))
              simp only [List.setIfInBounds_toArray, List.set_cons_zero, List.set_cons_succ] at hPs
              have HPS := hide hPs
              clear hPs HP10 HB10 HX10
              obtain ⟨x0, hx0⟩ : ∃ x0 : Pl, x0 = ⟨N0, N1, N3, K, 0, N4, N5⟩ := ⟨_, rfl⟩
              rw [← hx0] at HPR HRX
              have HX0 := hide hx0
              clear hx0
              have HB9 := hide (HBAD.out x0 HRX.out)
              have HG9 := hide (HGOOD.out x0)
              clear HBAD HGOOD HRX HN
              obtain ⟨E0, hE0⟩ : ∃ E0, printE x0 = E0 := ⟨_, rfl⟩
              have hE01 : E0 = 0 ∨ E0 = 1 := by rw [← hE0]; unfold printE; split <;> simp
              rw [hE0] at HPR HB9 HG9
              obtain ⟨q, hq⟩ : ∃ q, printS x0 = q := ⟨_, rfl⟩
              rw [hq] at HPR HB9 HG9
              clear hE0 hq
              rcases hE01 with rfl | rfl
              · cases hqs : (q == s) with
                | false =>
                  have HR := hide (HB9.out (fun h => by rw [h.2] at hqs; simp at hqs))
                  have hpn : (q != s) = true := by rw [bne, hqs]; rfl
                  have hne : ¬ q = s := beq_eq_false_iff_ne.1 hqs
                  clear HB9 HG9
                  go_wp2_with (first | (go_at_call 39; refine (in_any _ _ _ _).mono ?_; rw [HA.out]; rintro e w' ⟨rfl, rfl⟩) | (go_at_call 40; refine (flips_any _ _).mono ?_; rw [HBF.out]; rintro e w' ⟨rfl, rfl⟩) | (go_at_call 10; refine (HPR.out _).mono ?_; rintro e w11 ⟨rfl, hE⟩; have HPT := hide (HPS.out.ext hE); have HBT := hide (HBS.out.ext hE); have HXT := hide (HXS.out.trans hE); have htc := HPT.out.cell; have hrc := HBT.out.cell; have hrf := HBT.out.frozen; clear hE HPR))
                  obtain ⟨hset, hxx⟩ := FIN.out ⟨0, 0, 0, 0, 0, 0, 0⟩ w11 HBT.out HXT.out
                  simp only [World.setCells, Nat.zero_add, Nat.reduceAdd] at hset hxx
                  exact bodyPost_ret (v := .tuple #[.agg #[.int .i64 0, .int .i64 0, .int .i64 0, .int .i64 0, .int .i64 0, .int .i64 0, .int .i64 0], .int .i64 3]) (by simp [results, Tryd.results12, go_sem, hset]) rfl ⟨⟨⟨0, 0, 0, 0, 0, 0, 0⟩, 3, rfl, HR.out⟩, hxx⟩
                | true =>
                  have HR := hide (HG9.out ⟨rfl, beq_iff_eq.1 hqs⟩)
                  rw [HX0.out] at HR
                  have hpn : (q != s) = false := by rw [bne, hqs]; rfl
                  clear HB9 HG9
                  go_wp2_with (first | (go_at_call 39; refine (in_any _ _ _ _).mono ?_; rw [HA.out]; rintro e w' ⟨rfl, rfl⟩) | (go_at_call 40; refine (flips_any _ _).mono ?_; rw [HBF.out]; rintro e w' ⟨rfl, rfl⟩) | (go_at_call 10; refine (HPR.out _).mono ?_; rintro e w11 ⟨rfl, hE⟩; have HPT := hide (HPS.out.ext hE); have HBT := hide (HBS.out.ext hE); have HXT := hide (HXS.out.trans hE); have htc := HPT.out.cell; have hrc := HBT.out.cell; have hrf := HBT.out.frozen; clear hE HPR))
                  obtain ⟨hset, hxx⟩ := FIN.out ⟨N0, N1, N3, K, 0, N4, N5⟩ w11 HBT.out HXT.out
                  simp only [World.setCells, Nat.zero_add, Nat.reduceAdd] at hset hxx
                  exact bodyPost_ret (v := .tuple #[.agg #[.int .i64 N0, .int .i64 N1, .int .i64 N3, .int .i64 K, .int .i64 0, .int .i64 N4, .int .i64 N5], .int .i64 0]) (by simp [results, Tryd.results12, go_sem, hset]) rfl ⟨⟨⟨N0, N1, N3, K, 0, N4, N5⟩, 0, rfl, HR.out⟩, hxx⟩
              · have HR := hide (HB9.out (fun h => absurd h.1 (by decide)))
                clear HB9 HG9
                go_wp2_with (first | (go_at_call 39; refine (in_any _ _ _ _).mono ?_; rw [HA.out]; rintro e w' ⟨rfl, rfl⟩) | (go_at_call 40; refine (flips_any _ _).mono ?_; rw [HBF.out]; rintro e w' ⟨rfl, rfl⟩) | (go_at_call 10; refine (HPR.out _).mono ?_; rintro e w11 ⟨rfl, hE⟩; have HPT := hide (HPS.out.ext hE); have HBT := hide (HBS.out.ext hE); have HXT := hide (HXS.out.trans hE); have htc := HPT.out.cell; have hrc := HBT.out.cell; have hrf := HBT.out.frozen; clear hE HPR))
                obtain ⟨hset, hxx⟩ := FIN.out ⟨0, 0, 0, 0, 0, 0, 0⟩ w11 HBT.out HXT.out
                simp only [World.setCells, Nat.zero_add, Nat.reduceAdd] at hset hxx
                exact bodyPost_ret (v := .tuple #[.agg #[.int .i64 0, .int .i64 0, .int .i64 0, .int .i64 0, .int .i64 0, .int .i64 0, .int .i64 0], .int .i64 3]) (by simp [results, Tryd.results12, go_sem, hset]) rfl ⟨⟨⟨0, 0, 0, 0, 0, 0, 0⟩, 3, rfl, HR.out⟩, hxx⟩
            | false =>
              have HBF := hide hB
              clear hB
              by_cases h8 : K = 8
              · have h8b : (K == 8) = true := by rw [h8]; rfl
                have H8 := hide h8
                clear h8
                have HPQ := HP
                have HPR := hide (fun w' => rprint_any ⟨N0, N1, 0, K, N3, 0, 0⟩ w')
                simp only at HPR
                have HRX := hide (show refP (splitS s) = ⟨N0, N1, 0, K, N3, 0, 0⟩ from by rw [HRF.out]; rw [if_neg (by rw [HA.out]; simp), if_neg (by rw [HBF.out]; simp), if_pos H8.out])
                clear HRF HPQ
                have HP10 := HP
                have HB10 := HB
                have HX10 := HX
                have f3 := HW.out.2 3 (by omega)
                have hpf := HP10.out.frozen
                clear HP HB HX
                have hPs := (HP10.out.set 4 (.int .i64 (N3 : Int)))
                have HBS := hide (HB10.out.far (p := ⟨g, 4, none⟩) hrg (.int .i64 (N3 : Int)))
                have HXS := hide (HX10.out.set (p := ⟨g, 4, none⟩) hws (.int .i64 (N3 : Int)))
                simp only [List.setIfInBounds_toArray, List.set_cons_zero, List.set_cons_succ] at hPs
                have HPS := hide hPs
                clear hPs HP10 HB10 HX10
                obtain ⟨x0, hx0⟩ : ∃ x0 : Pl, x0 = ⟨N0, N1, 0, K, N3, 0, 0⟩ := ⟨_, rfl⟩
                rw [← hx0] at HPR HRX
                have HX0 := hide hx0
                clear hx0
                have HB9 := hide (HBAD.out x0 HRX.out)
                have HG9 := hide (HGOOD.out x0)
                clear HBAD HGOOD HRX HN
                obtain ⟨E0, hE0⟩ : ∃ E0, printE x0 = E0 := ⟨_, rfl⟩
                have hE01 : E0 = 0 ∨ E0 = 1 := by rw [← hE0]; unfold printE; split <;> simp
                rw [hE0] at HPR HB9 HG9
                obtain ⟨q, hq⟩ : ∃ q, printS x0 = q := ⟨_, rfl⟩
                rw [hq] at HPR HB9 HG9
                clear hE0 hq
                rcases hE01 with rfl | rfl
                · cases hqs : (q == s) with
                  | false =>
                    have HR := hide (HB9.out (fun h => by rw [h.2] at hqs; simp at hqs))
                    have hpn : (q != s) = true := by rw [bne, hqs]; rfl
                    have hne : ¬ q = s := beq_eq_false_iff_ne.1 hqs
                    clear HB9 HG9
                    go_wp2_with (first | (go_at_call 39; refine (in_any _ _ _ _).mono ?_; rw [HA.out]; rintro e w' ⟨rfl, rfl⟩) | (go_at_call 40; refine (flips_any _ _).mono ?_; rw [HBF.out]; rintro e w' ⟨rfl, rfl⟩) | (go_at_call 10; refine (HPR.out _).mono ?_; rintro e w11 ⟨rfl, hE⟩; have HPT := hide (HPS.out.ext hE); have HBT := hide (HBS.out.ext hE); have HXT := hide (HXS.out.trans hE); have htc := HPT.out.cell; have hrc := HBT.out.cell; have hrf := HBT.out.frozen; clear hE HPR) | (go_at_call 44; refine (HN3.out _).mono ?_; rintro e w' ⟨rfl, rfl⟩))
                    obtain ⟨hset, hxx⟩ := FIN.out ⟨0, 0, 0, 0, 0, 0, 0⟩ w11 HBT.out HXT.out
                    simp only [World.setCells, Nat.zero_add, Nat.reduceAdd] at hset hxx
                    exact bodyPost_ret (v := .tuple #[.agg #[.int .i64 0, .int .i64 0, .int .i64 0, .int .i64 0, .int .i64 0, .int .i64 0, .int .i64 0], .int .i64 3]) (by simp [results, Tryd.results12, go_sem, hset]) rfl ⟨⟨⟨0, 0, 0, 0, 0, 0, 0⟩, 3, rfl, HR.out⟩, hxx⟩
                  | true =>
                    have HR := hide (HG9.out ⟨rfl, beq_iff_eq.1 hqs⟩)
                    rw [HX0.out] at HR
                    have hpn : (q != s) = false := by rw [bne, hqs]; rfl
                    clear HB9 HG9
                    go_wp2_with (first | (go_at_call 39; refine (in_any _ _ _ _).mono ?_; rw [HA.out]; rintro e w' ⟨rfl, rfl⟩) | (go_at_call 40; refine (flips_any _ _).mono ?_; rw [HBF.out]; rintro e w' ⟨rfl, rfl⟩) | (go_at_call 10; refine (HPR.out _).mono ?_; rintro e w11 ⟨rfl, hE⟩; have HPT := hide (HPS.out.ext hE); have HBT := hide (HBS.out.ext hE); have HXT := hide (HXS.out.trans hE); have htc := HPT.out.cell; have hrc := HBT.out.cell; have hrf := HBT.out.frozen; clear hE HPR) | (go_at_call 44; refine (HN3.out _).mono ?_; rintro e w' ⟨rfl, rfl⟩))
                    obtain ⟨hset, hxx⟩ := FIN.out ⟨N0, N1, 0, K, N3, 0, 0⟩ w11 HBT.out HXT.out
                    simp only [World.setCells, Nat.zero_add, Nat.reduceAdd] at hset hxx
                    exact bodyPost_ret (v := .tuple #[.agg #[.int .i64 N0, .int .i64 N1, .int .i64 0, .int .i64 K, .int .i64 N3, .int .i64 0, .int .i64 0], .int .i64 0]) (by simp [results, Tryd.results12, go_sem, hset]) rfl ⟨⟨⟨N0, N1, 0, K, N3, 0, 0⟩, 0, rfl, HR.out⟩, hxx⟩
                · have HR := hide (HB9.out (fun h => absurd h.1 (by decide)))
                  clear HB9 HG9
                  go_wp2_with (first | (go_at_call 39; refine (in_any _ _ _ _).mono ?_; rw [HA.out]; rintro e w' ⟨rfl, rfl⟩) | (go_at_call 40; refine (flips_any _ _).mono ?_; rw [HBF.out]; rintro e w' ⟨rfl, rfl⟩) | (go_at_call 10; refine (HPR.out _).mono ?_; rintro e w11 ⟨rfl, hE⟩; have HPT := hide (HPS.out.ext hE); have HBT := hide (HBS.out.ext hE); have HXT := hide (HXS.out.trans hE); have htc := HPT.out.cell; have hrc := HBT.out.cell; have hrf := HBT.out.frozen; clear hE HPR) | (go_at_call 44; refine (HN3.out _).mono ?_; rintro e w' ⟨rfl, rfl⟩))
                  obtain ⟨hset, hxx⟩ := FIN.out ⟨0, 0, 0, 0, 0, 0, 0⟩ w11 HBT.out HXT.out
                  simp only [World.setCells, Nat.zero_add, Nat.reduceAdd] at hset hxx
                  exact bodyPost_ret (v := .tuple #[.agg #[.int .i64 0, .int .i64 0, .int .i64 0, .int .i64 0, .int .i64 0, .int .i64 0, .int .i64 0], .int .i64 3]) (by simp [results, Tryd.results12, go_sem, hset]) rfl ⟨⟨⟨0, 0, 0, 0, 0, 0, 0⟩, 3, rfl, HR.out⟩, hxx⟩
              · have h8b : (K == 8) = false := beq_eq_false_iff_ne.2 h8
                have H8 := hide h8
                clear h8
                have HPQ := HP
                have HPR := hide (fun w' => rprint_any ⟨N0, N1, 0, K, 0, 0, 0⟩ w')
                simp only at HPR
                have HRX := hide (show refP (splitS s) = ⟨N0, N1, 0, K, 0, 0, 0⟩ from by rw [HRF.out]; rw [if_neg (by rw [HA.out]; simp), if_neg (by rw [HBF.out]; simp), if_neg H8.out])
                clear HRF HPQ
                have HP10 := HP
                have HB10 := HB
                have HX10 := HX
                have f3 := HW.out.2 3 (by omega)
                have hpf := HP10.out.frozen
                clear HP HB HX
                have hPs := HP10.out
                have HBS := hide HB10.out
                have HXS := hide HX10.out
                have HPS := hide hPs
                clear hPs HP10 HB10 HX10
                obtain ⟨x0, hx0⟩ : ∃ x0 : Pl, x0 = ⟨N0, N1, 0, K, 0, 0, 0⟩ := ⟨_, rfl⟩
                rw [← hx0] at HPR HRX
                have HX0 := hide hx0
                clear hx0
                have HB9 := hide (HBAD.out x0 HRX.out)
                have HG9 := hide (HGOOD.out x0)
                clear HBAD HGOOD HRX HN
                obtain ⟨E0, hE0⟩ : ∃ E0, printE x0 = E0 := ⟨_, rfl⟩
                have hE01 : E0 = 0 ∨ E0 = 1 := by rw [← hE0]; unfold printE; split <;> simp
                rw [hE0] at HPR HB9 HG9
                obtain ⟨q, hq⟩ : ∃ q, printS x0 = q := ⟨_, rfl⟩
                rw [hq] at HPR HB9 HG9
                clear hE0 hq
                rcases hE01 with rfl | rfl
                · cases hqs : (q == s) with
                  | false =>
                    have HR := hide (HB9.out (fun h => by rw [h.2] at hqs; simp at hqs))
                    have hpn : (q != s) = true := by rw [bne, hqs]; rfl
                    have hne : ¬ q = s := beq_eq_false_iff_ne.1 hqs
                    clear HB9 HG9
                    go_wp2_with (first | (go_at_call 39; refine (in_any _ _ _ _).mono ?_; rw [HA.out]; rintro e w' ⟨rfl, rfl⟩) | (go_at_call 40; refine (flips_any _ _).mono ?_; rw [HBF.out]; rintro e w' ⟨rfl, rfl⟩) | (go_at_call 10; refine (HPR.out _).mono ?_; rintro e w11 ⟨rfl, hE⟩; have HPT := hide (HPS.out.ext hE); have HBT := hide (HBS.out.ext hE); have HXT := hide (HXS.out.trans hE); have htc := HPT.out.cell; have hrc := HBT.out.cell; have hrf := HBT.out.frozen; clear hE HPR))
                    obtain ⟨hset, hxx⟩ := FIN.out ⟨0, 0, 0, 0, 0, 0, 0⟩ w11 HBT.out HXT.out
                    simp only [World.setCells, Nat.zero_add, Nat.reduceAdd] at hset hxx
                    exact bodyPost_ret (v := .tuple #[.agg #[.int .i64 0, .int .i64 0, .int .i64 0, .int .i64 0, .int .i64 0, .int .i64 0, .int .i64 0], .int .i64 3]) (by simp [results, Tryd.results12, go_sem, hset]) rfl ⟨⟨⟨0, 0, 0, 0, 0, 0, 0⟩, 3, rfl, HR.out⟩, hxx⟩
                  | true =>
                    have HR := hide (HG9.out ⟨rfl, beq_iff_eq.1 hqs⟩)
                    rw [HX0.out] at HR
                    have hpn : (q != s) = false := by rw [bne, hqs]; rfl
                    clear HB9 HG9
                    go_wp2_with (first | (go_at_call 39; refine (in_any _ _ _ _).mono ?_; rw [HA.out]; rintro e w' ⟨rfl, rfl⟩) | (go_at_call 40; refine (flips_any _ _).mono ?_; rw [HBF.out]; rintro e w' ⟨rfl, rfl⟩) | (go_at_call 10; refine (HPR.out _).mono ?_; rintro e w11 ⟨rfl, hE⟩; have HPT := hide (HPS.out.ext hE); have HBT := hide (HBS.out.ext hE); have HXT := hide (HXS.out.trans hE); have htc := HPT.out.cell; have hrc := HBT.out.cell; have hrf := HBT.out.frozen; clear hE HPR))
                    obtain ⟨hset, hxx⟩ := FIN.out ⟨N0, N1, 0, K, 0, 0, 0⟩ w11 HBT.out HXT.out
                    simp only [World.setCells, Nat.zero_add, Nat.reduceAdd] at hset hxx
                    exact bodyPost_ret (v := .tuple #[.agg #[.int .i64 N0, .int .i64 N1, .int .i64 0, .int .i64 K, .int .i64 0, .int .i64 0, .int .i64 0], .int .i64 0]) (by simp [results, Tryd.results12, go_sem, hset]) rfl ⟨⟨⟨N0, N1, 0, K, 0, 0, 0⟩, 0, rfl, HR.out⟩, hxx⟩
                · have HR := hide (HB9.out (fun h => absurd h.1 (by decide)))
                  clear HB9 HG9
                  go_wp2_with (first | (go_at_call 39; refine (in_any _ _ _ _).mono ?_; rw [HA.out]; rintro e w' ⟨rfl, rfl⟩) | (go_at_call 40; refine (flips_any _ _).mono ?_; rw [HBF.out]; rintro e w' ⟨rfl, rfl⟩) | (go_at_call 10; refine (HPR.out _).mono ?_; rintro e w11 ⟨rfl, hE⟩; have HPT := hide (HPS.out.ext hE); have HBT := hide (HBS.out.ext hE); have HXT := hide (HXS.out.trans hE); have htc := HPT.out.cell; have hrc := HBT.out.cell; have hrf := HBT.out.frozen; clear hE HPR))
                  obtain ⟨hset, hxx⟩ := FIN.out ⟨0, 0, 0, 0, 0, 0, 0⟩ w11 HBT.out HXT.out
                  simp only [World.setCells, Nat.zero_add, Nat.reduceAdd] at hset hxx
                  exact bodyPost_ret (v := .tuple #[.agg #[.int .i64 0, .int .i64 0, .int .i64 0, .int .i64 0, .int .i64 0, .int .i64 0, .int .i64 0], .int .i64 3]) (by simp [results, Tryd.results12, go_sem, hset]) rfl ⟨⟨⟨0, 0, 0, 0, 0, 0, 0⟩, 3, rfl, HR.out⟩, hxx⟩
theorem rparse_any (s : List UInt8) (hs : s.length ≤ 100) (w : World) : Calls Tryd.prog 12 #[.string (str s)] w fun e w' => ParseE s e ∧ Ext w w' := by
  by_cases hn : s = [110, 111, 110, 101]
  · exact rparse_none s hn w
  · exact rparse_some s hs hn w
end Go.Proofs.YtfjddphjjhhjpaaDoor
