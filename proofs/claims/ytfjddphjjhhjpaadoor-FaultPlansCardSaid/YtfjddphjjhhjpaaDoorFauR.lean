/-
  The program's read.
-/
import Derived.Test.YtfjddphjjhhjpaaDoorFauC
namespace Go.Proofs.YtfjddphjjhhjpaaDoor
open Go.RowKit
set_option linter.unusedVariables false

def fillL : List Int → List Nat → List Int → List Int
  | l, o :: os, v :: vs => fillL (l.set o v) os vs
  | l, _, _ => l
theorem fillL_length : ∀ (os : List Nat) (l vs : List Int), (fillL l os vs).length = l.length
  | [], l, vs => by cases vs <;> rfl
  | o :: os, l, [] => rfl
  | o :: os, l, v :: vs => by simp only [fillL]; rw [fillL_length os]; simp
theorem fillL_snoc : ∀ (os : List Nat) (l vs : List Int) (v : Int) (h : vs.length < os.length), fillL l os (vs ++ [v]) = (fillL l os vs).set os[vs.length] v
  | [], l, vs, v, h => by simp at h
  | o :: os, l, [], v, h => by cases os <;> rfl
  | o :: os, l, u :: vs, v, h => by
    simp only [List.cons_append, fillL, List.length_cons, List.getElem_cons_succ]
    exact fillL_snoc os _ vs v (by simpa using h)
theorem fill_valid {x : Pl} (h : validPl x = true) (hk : x.k ≠ 0) : fillL [0, 0, 0, x.k, 0, 0, 0] (offs x.k) (x.c :: x.n :: usedL x) = [x.c, x.n, x.e, x.k, x.s, x.p, x.m] := by
  have hv := valid_ways h
  obtain ⟨c, n, e, k, s, p, m⟩ := x
  simp only [Pl.mk.injEq] at hv hk ⊢
  rcases hv with hv | ⟨_, _, hv⟩
  · exact absurd hv.2.2.2.1 hk
  · unfold offs offU usedL
    by_cases k1 : inB k 1 3 = true
    · simp only [if_pos k1]
      rw [inB_iff] at k1
      have a3 : p = 0 := by omega
      have a4 : m = 0 := by omega
      subst a3 a4; rfl
    · by_cases k2 : inB k 4 7 = true
      · simp only [if_neg k1, if_pos k2]
        rw [inB_iff] at k1 k2
        have a4 : s = 0 := by omega
        subst a4; rfl
      · by_cases k3 : k = 8
        · simp only [if_neg k1, if_neg k2, if_pos k3]
          rw [inB_iff] at k1 k2
          have a2 : e = 0 := by omega
          have a3 : p = 0 := by omega
          have a4 : m = 0 := by omega
          subst a2 a3 a4; rfl
        · simp only [if_neg k1, if_neg k2, if_neg k3]
          rw [inB_iff] at k1 k2
          have a1 : e = 0 := by omega
          have a2 : s = 0 := by omega
          have a3 : p = 0 := by omega
          have a4 : m = 0 := by omega
          subst a1 a2 a3 a4; rfl
def planA (l : List Int) : Array Value := (l.map fun n => Value.int .i64 n).toArray
theorem planA_set (l : List Int) (i : Nat) (v : Int) : (planA l).setIfInBounds i (.int .i64 v) = planA (l.set i v) := by
  unfold planA
  rw [List.setIfInBounds_toArray, List.map_set]
theorem list7 {l : List Int} (h : l.length = 7) : ∃ a b c d e f g, l = [a, b, c, d, e, f, g] := by
  match l, h with
  | [a, b, c, d, e, f, g], _ => exact ⟨a, b, c, d, e, f, g, rfl⟩
theorem Blk.put7 {w : World} {g : Nat} {t : TypeId} {x0 x1 x2 x3 x4 x5 x6 : Value} (h : Blk w g t #[x0, x1, x2, x3, x4, x5, x6]) (a b c d e f i : Value) : Blk (w.setCells g 0 [a, b, c, d, e, f, i]) g t #[a, b, c, d, e, f, i] := by
  have := ((((((h.set 0 a).set 1 b).set 2 c).set 3 d).set 4 e).set 5 f).set 6 i
  simpa [World.setCells] using this
/-- What read returns. -/
def ReadP (ws : List (List UInt8)) (e : Ending) : Prop :=
  ∃ (a b c d f g h : Int) (ok : Bool), e = .returned (.tuple #[.agg #[.int .i64 a, .int .i64 b, .int .i64 c, .int .i64 d, .int .i64 f, .int .i64 g, .int .i64 h], .bool ok]) ∧ ∀ x, validPl x = true → ws = wordsF x → ok = true ∧ x = ⟨a, b, c, d, f, g, h⟩
def z7 : Array Value := #[.int .i64 0, .int .i64 0, .int .i64 0, .int .i64 0, .int .i64 0, .int .i64 0, .int .i64 0]
theorem wordsF_length (x : Pl) : (wordsF x).length = 1 ∨ 3 ≤ (wordsF x).length := by
  unfold wordsF wordsP
  split
  · exact .inl rfl
  · exact .inr (by simp)
theorem wordsF_one {x : Pl} (hx : validPl x = true) (h : (wordsF x).length < 3) : (wordsF x).length = 1 ∧ x = ⟨0, 0, 0, 0, 0, 0, 0⟩ := by
  unfold wordsF wordsP at h ⊢
  split at h
  · rename_i hk
    rw [if_pos hk]
    refine ⟨rfl, ?_⟩
    rcases valid_ways hx with h | ⟨_, _, h⟩
    · exact h
    · omega
  · simp at h; omega
theorem vals_bound {x : Pl} (hx : validPl x = true) (hk : x.k ≠ 0) : ∀ u ∈ x.c :: x.n :: usedL x, 0 ≤ u ∧ u ≤ 1000000 := by
  have hv := valid_ways hx
  obtain ⟨c, n, e, k, s, p, m⟩ := x
  simp only [Pl.mk.injEq] at hv hk ⊢
  intro u hu
  unfold usedL at hu
  simp only [List.mem_cons] at hu
  rcases hv with hv | ⟨b1, b2, hv⟩
  · exact absurd hv.2.2.2.1 hk
  · rcases hu with rfl | rfl | hu
    · omega
    · omega
    · by_cases k1 : inB k 1 3 = true
      · rw [if_pos k1] at hu
        simp only [List.mem_cons, List.not_mem_nil, or_false] at hu
        rcases hu with rfl | rfl <;> omega
      · rw [if_neg k1] at hu
        by_cases k2 : inB k 4 7 = true
        · rw [if_pos k2] at hu
          simp only [List.mem_cons, List.not_mem_nil, or_false] at hu
          rcases hu with rfl | rfl | rfl <;> omega
        · rw [if_neg k2] at hu
          by_cases k3 : k = 8
          · rw [if_pos k3] at hu
            simp only [List.mem_cons, List.not_mem_nil, or_false] at hu
            subst hu; omega
          · rw [if_neg k3] at hu
            cases hu
theorem usedL_length (x : Pl) : (usedL x).length = (offU x.k).length := by
  unfold usedL offU
  (repeat' split) <;> rfl
theorem read_facts {x : Pl} {ws : List (List UInt8)} {x2 : List UInt8} {k : Int} (hx : validPl x = true) (he : ws = wordsF x) (h3 : 3 ≤ ws.length) (h2 : ws[2]? = some x2) (hk : ∀ j, 1 ≤ j ∧ j ≤ 9 → x2 = nameK j → k = j) :
    1 ≤ k ∧ x.k = k ∧ ws.length - 1 = (offs k).length ∧ ws.take 2 ++ ws.drop 3 = (x.c :: x.n :: usedL x).map decI := by
  have hk0 : x.k ≠ 0 := fun h0 => by
    unfold wordsF at he
    rw [if_pos h0] at he
    rw [he] at h3
    simp at h3
  have hkk := valid_kind hx hk0
  unfold wordsF wordsP at he
  rw [if_neg hk0] at he
  have h2' : x2 = nameK x.k := by
    rw [he] at h2
    exact (Option.some.inj h2).symm
  have hkx := hk x.k hkk h2'
  refine ⟨by omega, hkx.symm, ?_, ?_⟩
  · rw [he, hkx]
    simp [offs, usedL_length]
  · rw [he]; rfl
set_option maxRecDepth 100000 in
set_option maxHeartbeats 4000000 in
theorem read_any (b c : Nat) (ws : List (List UInt8)) (n : Nat) (hn : ws.length = n) (hnl : n ≤ 100002) (hwl : ∀ x ∈ ws, x.length ≤ 100000) (W0 w : World) (ht : Tabs W0) (hx : Ext W0 w) (hb : W0.heap.size ≤ b) (hw : WsR w b c ws) :
    Calls Tryd.prog 41 #[.slice (some ⟨b, 0, none⟩) n c] w fun e w' => ReadP ws e ∧ Ext W0 w' := by
  have HN := hide hn
  have HT := hide ht
  have HX := hide hx
  have HW := hide hw
  have hbw := hw.lt
  have hwz := hx.size
  clear hn ht hx hw
  by_cases h3 : n < 3
  · have h3' : (n : Int) < 3 := by omega
    have HR := hide (show ∀ x, validPl x = true → ws = wordsF x → (((n : Int) == 1) = true ∧ x = ⟨0, 0, 0, 0, 0, 0, 0⟩) from fun x hx he => by
      have := wordsF_one hx (by rw [← he, HN.out]; exact h3)
      have h1 : n = 1 := by rw [← HN.out, he]; exact this.1
      exact ⟨by rw [h1]; rfl, this.2⟩)
    obtain ⟨q, hq⟩ : ∃ q, ((n : Int) == 1) = q := ⟨_, rfl⟩
    rw [hq] at HR
    go_enter Tryd.func41, Tryd.ntmps41
    go_wp2_with fail
    exact bodyPost_ret (v := .tuple #[.agg z7, .bool q]) (by simp [results, Tryd.results41, go_sem, z7]) rfl ⟨⟨0, 0, 0, 0, 0, 0, 0, q, rfl, HR.out⟩, HX.out.alloc' _⟩
  · have h3' : ¬ (n : Int) < 3 := by omega
    go_enter Tryd.func41, Tryd.ntmps41
    go_wp2_with (go_at_call 33; refine (names_any _).mono ?_; unfold namesV; rintro e w1 ⟨rfl, hE1⟩; have HE1 := hide hE1; clear hE1)
    have HB2 := hide (show Blk (w1.alloc (.cells namesV 71)) w1.heap.size 71 namesV from Blk.new w1 _ _)
    have HE2 := hide (HE1.out.alloc' (.cells namesV 71))
    have HR2 := hide ((Blk.new w 28 z7).ext HE2.out)
    have HW2 := hide (HW.out.ext ((Ext.alloc w (.cells z7 28)).trans HE2.out))
    have HX2 := hide (HX.out.trans ((Ext.alloc w (.cells z7 28)).trans HE2.out))
    have hz1 : w.heap.size + 1 ≤ w1.heap.size := by have := HE1.out.size; rw [World.size_alloc] at this; exact this
    have hz2 : (w1.alloc (.cells namesV 71)).heap.size = w1.heap.size + 1 := World.size_alloc _ _
    unfold namesV at HB2 HE2 HR2 HW2 HX2 hz2
    clear HE1 HX HW HE2
    obtain ⟨nb, hnb⟩ : ∃ nb, w1.heap.size = nb := ⟨_, rfl⟩
    rw [hnb] at HB2 hz1 hz2 ⊢
    generalize hw2 : w1.alloc _ = w2 at *
    clear hw2 hnb
    have h2n : 2 < ws.length := by rw [HN.out]; omega
    have HC2 := hide (HW2.out.cell 2 h2n)
    obtain ⟨x2, hx2⟩ : ∃ x2, ws[2] = x2 := ⟨_, rfl⟩
    rw [hx2] at HC2
    have HX2' := hide (show ws[2]? = some x2 by rw [← hx2]; exact List.getElem?_eq_getElem h2n)
    have h2n' : 2 < n := by omega
    have h2i : (2 : Int) < n := by omega
    have h2e : (Int.toNat 2) = 2 := rfl
    clear hx2 h2n
    refine wp_region_ext 7 4 [(4, fun v => ∃ k, v = .int .i64 k, fun v _ => ∃ k, v = .int .i64 k ∧ ∀ j, 1 ≤ j ∧ j ≤ 9 → x2 = nameK j → k = j),
      (6, fun v => ∃ g, v = .pointer (some ⟨g, 0, none⟩), fun v w' => ∃ g, v = .pointer (some ⟨g, 0, none⟩) ∧ w2.heap.size ≤ g ∧ Blk w' g 28 z7)] mixed (by kernel_rfl)
      ⟨fun _ _ _ h _ => h, fun _ _ _ ⟨g, h1, h2, h3⟩ hx => ⟨g, h1, h2, h3.ext hx⟩, trivial⟩ ?_
    repeat ((refine seq_exact ?_ (by rfl) (by rfl) (fun w1 hU => ?_) ?_); (rotate_left 1); (focus (have h4 := (HW2.out.ext hU.un); have h5 := (HC2.out); have h6 := (hU.un.cell b 2 HW2.out.lt).trans HC2.out; clear hU h4 h5; go_simp <;> with_reducible rfl)); (simp only [Act.put, List.setIfInBounds_toArray, List.set_cons_zero, List.set_cons_succ]))
    refine seq_opaque _ _ (by rfl) rfl ⟨_, 0, rfl⟩ (by simp) (fun w5 hU hp K hK => ?_) ?_
    · have HB5 := hide (HB2.out.ext hU.un)
      go_simp
      refine (index_any nb x2 _ w5 HB5.out).mono ?_
      rintro e w6 ⟨⟨k, rfl, hk⟩, rfl⟩
      exact hK _ _ (Ext.refl _) ⟨k, rfl⟩ ⟨k, rfl, hk⟩
    rintro _ ⟨k, rfl⟩
    simp only [Act.put, List.setIfInBounds_toArray, List.set_cons_zero, List.set_cons_succ]
    repeat ((refine seq_exact ?_ (by rfl) (by rfl) (fun w1 hU => ?_) ?_); (rotate_left 1); (focus (go_simp <;> with_reducible rfl)); (simp only [Act.put, List.setIfInBounds_toArray, List.set_cons_zero, List.set_cons_succ]))
    refine seq_opaque _ _ (by rfl) rfl ⟨_, 0, rfl⟩ (by simp) (fun w5 hU hp K hK => ?_) ?_
    · have hz := Ext.size hU.un
      go_simp
      exact hK _ _ (Ext.alloc w5 _) ⟨_, rfl⟩ ⟨_, rfl, hz, Blk.new w5 _ _⟩
    rintro _ ⟨g, rfl⟩
    simp only [Act.put, List.setIfInBounds_toArray, List.set_cons_zero, List.set_cons_succ]
    intro w7 hw7 hp
    obtain ⟨_, e8, hg8, hb8⟩ := hp _ (.head _)
    injection e8 with e8
    injection e8 with e8
    injection e8 with e8
    subst e8
    obtain ⟨_, e9, hk9⟩ := hp _ (.tail _ (.head _))
    injection e9 with _ e9
    subst e9
    clear hp
    simp only [List.drop_succ_cons, List.drop_zero]
    have hX7 := hw7.un
    have HX7 := hide (HX2.out.trans hX7)
    have HR7 := hide (HR2.out.ext hX7)
    have HW7 := hide (HW2.out.ext hX7)
    have HK := hide hk9
    have HP7 := hide hb8
    have hc8 := hb8.cell
    unfold z7 at hc8
    have hf8 := hb8.frozen
    have hz7 := hX7.size
    clear hw7 hX7 hk9 hb8 HR2 HW2 HX2 HC2 HB2
    go_wp2_with fail
    have HG8 := hide (grown_cells g [.int .i64 0, .int .i64 0, .int .i64 0, .int .i64 k, .int .i64 0, .int .i64 0, .int .i64 0] 0 w7)
    have HP8 := hide (Blk.put7 HP7.out (.int .i64 0) (.int .i64 0) (.int .i64 0) (.int .i64 k) (.int .i64 0) (.int .i64 0) (.int .i64 0))
    have hgr : some w.heap.size ≠ some g := fun e => by injection e with e; omega
    have hgb : some b ≠ some g := fun e => by injection e with e; omega
    have HR8 := hide (HR7.out.grown HG8.out hgr)
    have HW8 := hide (HW7.out.grown HG8.out hgb)
    have HX8 := hide (HX7.out.grown HG8.out (fun j hj => by injection hj with hj; subst hj; omega))
    simp only [World.setCells, Nat.zero_add, Nat.reduceAdd] at HP8 HR8 HW8 HX8
    clear HG8 HX7 HR7 HW7 HP7 hc8 hf8
    have hz8 : w7.heap.size = (((((((w7.setCell ⟨g, 0, none⟩ (.int .i64 0)).setCell ⟨g, 1, none⟩ (.int .i64 0)).setCell ⟨g, 2, none⟩ (.int .i64 0)).setCell ⟨g, 3, none⟩ (.int .i64 k)).setCell ⟨g, 4, none⟩ (.int .i64 0)).setCell ⟨g, 5, none⟩ (.int .i64 0)).setCell ⟨g, 6, none⟩ (.int .i64 0)).heap.size := by simp
    generalize hw8 : (((((((w7.setCell ⟨g, 0, none⟩ (.int .i64 0)).setCell ⟨g, 1, none⟩ (.int .i64 0)).setCell ⟨g, 2, none⟩ (.int .i64 0)).setCell ⟨g, 3, none⟩ (.int .i64 k)).setCell ⟨g, 4, none⟩ (.int .i64 0)).setCell ⟨g, 5, none⟩ (.int .i64 0)).setCell ⟨g, 6, none⟩ (.int .i64 0)) = w8 at *
    rw [hz8] at hz7
    rw [hz8]
    clear hw8 hz8
    have HL8 := hide (show OwnFl (w8.alloc (.cells #[.pointer (some ⟨g, 0, none⟩), .int .i64 0, .int .i64 0, .pointer (some ⟨g, 1, none⟩), .int .i64 0, .int .i64 0] 79)) w8.heap.size (.slice (some ⟨w8.heap.size, 0, none⟩) 2 2) 2 [.pointer (some ⟨g, 0, none⟩), .int .i64 0, .int .i64 0, .pointer (some ⟨g, 1, none⟩), .int .i64 0, .int .i64 0] from
      World.ownsRow_lit w8 #[.pointer (some ⟨g, 0, none⟩), .int .i64 0, .int .i64 0, .pointer (some ⟨g, 1, none⟩), .int .i64 0, .int .i64 0] 2 (Nat.le_refl _) (by simp [maxLen]) (by simp))
    have HE8 := hide (Ext.alloc w8 (.cells #[.pointer (some ⟨g, 0, none⟩), .int .i64 0, .int .i64 0, .pointer (some ⟨g, 1, none⟩), .int .i64 0, .int .i64 0] 79))
    refine (used_any g 0 0 0 k 0 0 0 _ (HP8.out.ext HE8.out)).mono ?_
    rintro e w9 ⟨⟨A, N, cs, rfl, hs9, hp9, hN9, h19, _, _⟩, hE9⟩
    have HS9 := hide hs9
    have HPT := hide hp9
    have H19 := hide h19
    have HE9 := hide (HE8.out.trans hE9)
    have HL9 := hide (HL8.out.ext hE9)
    have HN9 := hide hN9
    have hN3 : N ≤ 3 := by rw [hN9]; exact offU_length k
    clear hs9 hp9 h19 hE9 HL8 HE8 hN9
    go_wp2_with (at_builtin; refine wpList_appendF rfl _ _ rfl w8.heap.size (.slice (some ⟨w8.heap.size, 0, none⟩) 2 2) 2 _ rfl HL9.out A N cs rfl HS9.out H19.out (by omega) (by decide) HE9.out.size ?_; intro fb fc w10 ho10 hfb hg10; have HO10 := hide ho10; have HG10 := hide (show w9.grownBy w10 (some w8.heap.size) from hg10); have hfb10 := hfb; clear ho10 hg10 hfb)
    have HE10 := hide (HE9.out.grown HG10.out (fun j hj => by injection hj with hj; omega))
    have HF10 := hide (FlR.of_own HO10.out (PtsF.lit _ _ _ _ HPT.out))
    have hF : offs k = 0 :: 1 :: offU k := rfl
    rw [← hF] at HF10
    have HP10 := hide (HP8.out.ext HE10.out)
    have HR10 := hide (HR8.out.ext HE10.out)
    have HW10 := hide (HW8.out.ext HE10.out)
    have HX10 := hide (HX8.out.trans HE10.out)
    have hg8l := HP8.out.lt
    obtain ⟨M, hM⟩ : ∃ M, 2 + N = M := ⟨_, rfl⟩
    have HM := hide (show (offs k).length = M by rw [← hM, HN9.out]; simp [offs]; omega)
    have hM5 : M ≤ 5 := by omega
    rw [hM] at HO10 ⊢
    clear hF hM HL9 HS9 HPT H19 HE9 HG10 HP8 HR8 HW8 HX8 HE10 HO10 HN9
    refine (delete_any b c ws n HN.out (by omega) w10 HW10.out).mono ?_
    rintro e w11 ⟨rfl, hw11, hg11⟩
    obtain ⟨n1, hn1⟩ : ∃ n1, n - 1 = n1 := ⟨_, rfl⟩
    have hnn : n = n1 + 1 := by omega
    rw [hn1]
    obtain ⟨vs', hvs⟩ : ∃ vs', ws.take 2 ++ ws.drop 3 = vs' := ⟨_, rfl⟩
    rw [hvs] at hw11
    have HVL := hide (show vs'.length = n1 by rw [← hvs, List.length_append, List.length_take, List.length_drop, HN.out]; omega)
    have HVW := hide (show ∀ x ∈ vs', x.length ≤ 100000 from fun x hx => by
      rw [← hvs] at hx
      rcases List.mem_append.1 hx with hx | hx
      · exact hwl x (List.mem_of_mem_take hx)
      · exact hwl x (List.mem_of_mem_drop hx))
    have HVS := hide hvs
    have HW11 := hide hw11
    have hbg : some g ≠ some b := fun e => hgb e.symm
    have hrb : some w.heap.size ≠ some b := fun e => by injection e with e; omega
    have hfbb : some fb ≠ some b := fun e => by injection e with e; omega
    have HP11 := hide (HP10.out.grown hg11 hbg)
    have HR11 := hide (HR10.out.grown hg11 hrb)
    have HF11 := hide (HF10.out.grown hg11 hfbb)
    have HX11 := hide (HX10.out.grown hg11 (fun j hj => by injection hj with hj; omega))
    have HFACT := hide (fun x (hx : validPl x = true) (he : ws = wordsF x) => read_facts hx he (by rw [HN.out]; omega) HX2'.out HK.out)
    rw [HVS.out, HN.out, hn1] at HFACT
    have hc11 := HP11.out.cell
    have hf11 := HP11.out.frozen
    have hrc := HR11.out.cell
    have hrf := HR11.out.frozen
    unfold z7 at hrc
    clear hw11 hvs hg11 HW10 HP10 HR10 HF10 HX10 hn1 hwl HX2' HK
    by_cases hk0 : k < 0
    · have HRR := hide (show ∀ x, validPl x = true → ws = wordsF x → (false = true ∧ x = ⟨0, 0, 0, 0, 0, 0, 0⟩) from fun x hx he => by
        have := (HFACT.out x hx he).1; omega)
      clear HFACT
      go_wp2_with fail
      have hset := (Blk.put7 (show Blk w11 w.heap.size 28 #[.int .i64 0, .int .i64 0, .int .i64 0, .int .i64 0, .int .i64 0, .int .i64 0, .int .i64 0] from HR11.out) (.int .i64 0) (.int .i64 0) (.int .i64 0) (.int .i64 0) (.int .i64 0) (.int .i64 0) (.int .i64 0)).cell
      have hxx := HX11.out.grown (grown_cells w.heap.size [.int .i64 0, .int .i64 0, .int .i64 0, .int .i64 0, .int .i64 0, .int .i64 0, .int .i64 0] 0 w11) (fun j hj => by injection hj with hj; omega)
      simp only [World.setCells, Nat.zero_add, Nat.reduceAdd] at hset hxx
      exact bodyPost_ret (v := .tuple #[.agg z7, .bool false]) (by simp [results, Tryd.results41, go_sem, z7, hset]) rfl ⟨⟨0, 0, 0, 0, 0, 0, 0, false, rfl, HRR.out⟩, hxx⟩
    · have hk0' : ¬ k < 0 := hk0
      by_cases hm : n1 = M
      · subst hm
        have hnb : ((n1 : Int) != (n1 : Int)) = false := by simp
        have hf3 : Tryd.prog.cellsOf 79 = 3 := by kernel_rfl
        clear hc11 hf11 hrc hrf
        have HP12 := hide (show Blk w11 g 28 (planA (fillL [0, 0, 0, k, 0, 0, 0] (offs k) [])) from by rw [show fillL [0, 0, 0, k, 0, 0, 0] (offs k) [] = [0, 0, 0, k, 0, 0, 0] from rfl]; exact HP11.out)
        have hc11 := HP11.out.cell
        go_wp2_with fail
        clear hc11
        go_loopw [47] (fun vi wr => ∃ (j : Nat) (vs : List Int), vi = .int .i64 (j : Int) ∧ j ≤ n1 ∧ Hid (vs.length = j) ∧ Hid (∀ i, (h : i < vs.length) → ∀ y, vs'[i]? = some y → Lib.atoiAll y = .ok vs[i]) ∧ Hid (Blk wr g 28 (planA (fillL [0, 0, 0, k, 0, 0, 0] (offs k) vs))) ∧
          Hid (Blk wr w.heap.size 28 z7) ∧ Hid (WsR wr b c vs') ∧ Hid (FlR wr fb g (offs k)) ∧ Hid (Ext W0 wr)) (fun vi _ => n1 - (intOf vi).toNat)
        case atStart => exact ⟨0, [], rfl, Nat.zero_le _, hide rfl, hide (fun i h => by cases h), HP12, HR11, HW11, HF11, HX11⟩
        case round =>
          obtain ⟨j, vs, rfl, hj, HVSL, HAT, HP, HR, HW, HF, HX⟩ := hrel
          have hnn1 : ((n1 : Int) < 100003) := by omega
          by_cases hlt : j < n1
          · have hlt' : (j : Int) < n1 := by omega
            have hlv : j < vs'.length := by rw [HVL.out]; exact hlt
            have hlo : j < (offs k).length := by rw [HM.out]; exact hlt
            have hcw := HW.out.cell j hlv
            have hcf := HF.out.cell j hlo
            have ho7 := offs_lt k _ (List.getElem_mem hlo)
            have hyl := HVW.out _ (List.getElem_mem hlv)
            have HYJ := hide (show vs'[j]? = some vs'[j] from List.getElem?_eq_getElem hlv)
            have HOJ := hide (show (offs k)[j]? = some (offs k)[j] from List.getElem?_eq_getElem hlo)
            have HSN := hide (fun v => fillL_snoc (offs k) [0, 0, 0, k, 0, 0, 0] vs v (by rw [HVSL.out]; exact hlo))
            have hgo : (offs k)[vs.length]'(by rw [HVSL.out]; exact hlo) = (offs k)[j] := by congr 1
            rw [hgo] at HSN
            generalize vs'[j] = y at *
            generalize (offs k)[j] = o at *
            have hfl := fillL_length (offs k) [0, 0, 0, k, 0, 0, 0] vs
            have hlen : (planA (fillL [0, 0, 0, k, 0, 0, 0] (offs k) vs)).size = 7 := by simp [planA, hfl]
            obtain ⟨cv, hcv⟩ : ∃ cv, (planA (fillL [0, 0, 0, k, 0, 0, 0] (offs k) vs))[o]? = some cv := ⟨_, Array.getElem?_eq_getElem (by omega)⟩
            have hcp := HP.out.cell o
            rw [hcv] at hcp
            have hcpf := HP.out.frozen o
            have hgl := HP.out.lt
            have hbl := HW.out.lt
            have hfbl := HF.out.lt
            have hgo3 : g ≠ fb := by omega
            clear hgo hcv hlen hfl
            by_cases hok : ∃ v, Lib.atoiAll y = .ok v
            · obtain ⟨v, hv⟩ := hok
              have HV := hide hv
              clear hv
              go_wp2_with (go_at_call 55; refine (atoi_ok y hyl v HV.out wr).mono ?_; rintro e w12 ⟨rfl, hE12⟩; have HE12 := hide hE12; have hcf2 := (hE12.cell fb (j * 3) hfbl).trans hcf; have hcp2 := (hE12.cell g o hgl).trans hcp; have hcpf2 := (hE12.frozen g o hgl).trans hcpf; clear hE12 hcf hcp hcpf hcw)
              have hg13 : w12.grownBy (w12.setCell ⟨g, o, none⟩ (.int .i64 v)) (some g) := grown_cells g [.int .i64 v] o w12
              have HP13 := hide ((HP.out.ext HE12.out).set o (.int .i64 v))
              rw [planA_set, ← HSN.out] at HP13
              have HR13 := hide ((HR.out.ext HE12.out).grown hg13 hgr)
              have HW13 := hide ((HW.out.ext HE12.out).grown hg13 hgb)
              have HF13 := hide ((HF.out.ext HE12.out).grown hg13 (fun e => hgo3 (Option.some.inj e).symm))
              have HX13 := hide ((HX.out.trans HE12.out).grown hg13 (fun j hj => by injection hj with hj; omega))
              have HAT13 := hide (show ∀ i, (h : i < (vs ++ [v]).length) → ∀ y, vs'[i]? = some y → Lib.atoiAll y = .ok (vs ++ [v])[i] from fun i h z hz => by
                by_cases hi : i < vs.length
                · rw [List.getElem_append_left hi]; exact HAT.out i hi z hz
                · have hij : i = vs.length := by simp at h; omega
                  subst hij
                  rw [List.getElem_append_right (Nat.le_refl _)]
                  rw [HVSL.out, HYJ.out] at hz
                  cases hz
                  simpa using HV.out)
              clear hg13
              go_roundw
              case rel => exact ⟨j + 1, vs ++ [v], by go_num, by omega, hide (by rw [List.length_append, HVSL.out]; rfl), HAT13, HP13, HR13, HW13, HF13, HX13⟩
              case measure => simp [intOf]; omega
            · have HOK := hide (fun v h => hok ⟨v, h⟩)
              have HRR := hide (show ∀ x, validPl x = true → ws = wordsF x → (false = true ∧ x = ⟨0, 0, 0, 0, 0, 0, 0⟩) from fun x hx he => by
                obtain ⟨q1, q2, q3, q4⟩ := HFACT.out x hx he
                have hy := HYJ.out
                rw [q4, List.getElem?_map] at hy
                obtain ⟨u, hu1, hu2⟩ := Option.map_eq_some_iff.1 hy
                have hb := vals_bound hx (by omega) u (List.mem_of_getElem? hu1)
                exact absurd ⟨_, by rw [← hu2]; exact atoi_dec u.toNat (by omega)⟩ hok)
              clear hok HFACT
              go_wp2_with (go_at_call 55; refine (atoi_bad y hyl HOK.out wr (HT.out.ext HX.out).ez).mono ?_; rintro e w12 ⟨⟨v, te, pe, rfl⟩, hE12⟩; have HR12 := hide (HR.out.ext hE12); have HX12 := hide (HX.out.trans hE12); clear hE12 hcf hcp hcpf hcw; have hrc := HR12.out.cell; have hrf := HR12.out.frozen; unfold z7 at hrc)
              have hset := (Blk.put7 (show Blk w12 w.heap.size 28 #[.int .i64 0, .int .i64 0, .int .i64 0, .int .i64 0, .int .i64 0, .int .i64 0, .int .i64 0] from HR12.out) (.int .i64 0) (.int .i64 0) (.int .i64 0) (.int .i64 0) (.int .i64 0) (.int .i64 0) (.int .i64 0)).cell
              have hxx := HX12.out.grown (grown_cells w.heap.size [.int .i64 0, .int .i64 0, .int .i64 0, .int .i64 0, .int .i64 0, .int .i64 0, .int .i64 0] 0 w12) (fun j hj => by injection hj with hj; omega)
              simp only [World.setCells, Nat.zero_add, Nat.reduceAdd] at hset hxx
              exact bodyPost_ret (v := .tuple #[.agg z7, .bool false]) (by simp [results, Tryd.results41, go_sem, z7, hset]) rfl ⟨⟨0, 0, 0, 0, 0, 0, 0, false, rfl, HRR.out⟩, hxx⟩
          · have hlt' : ¬ (j : Int) < n1 := by omega
            have hjn : j = n1 := by omega
            obtain ⟨a0, a1, a2, a3, a4, a5, a6, hl7⟩ := list7 ((fillL_length (offs k) [0, 0, 0, k, 0, 0, 0] vs).trans rfl)
            rw [hl7] at HP
            have HRR := hide (show ∀ x, validPl x = true → ws = wordsF x → (true = true ∧ x = ⟨a0, a1, a2, a3, a4, a5, a6⟩) from fun x hx he => by
              refine ⟨rfl, ?_⟩
              obtain ⟨q1, q2, q3, q4⟩ := HFACT.out x hx he
              have hvl : vs = x.c :: x.n :: usedL x := by
                have hlu : (x.c :: x.n :: usedL x).length = n1 := by rw [q3]; simp [offs, usedL_length, q2]
                apply List.ext_getElem
                · rw [HVSL.out, hlu, hjn]
                · intro i h1 h2
                  have hb := vals_bound hx (by omega) _ (List.getElem_mem h2)
                  have h3 := HAT.out i h1 (decI (x.c :: x.n :: usedL x)[i]) (by rw [q4, List.getElem?_map, List.getElem?_eq_getElem h2]; rfl)
                  have h4 := atoi_dec ((x.c :: x.n :: usedL x)[i]).toNat (by omega)
                  unfold decI at h3
                  rw [h3] at h4
                  injection h4 with h4
                  omega
              have hf := fill_valid hx (by omega)
              rw [q2, ← hvl, hl7] at hf
              simp only [List.cons.injEq, and_true] at hf
              obtain ⟨e0, e1, e2, e3, e4, e5, e6⟩ := hf
              obtain ⟨xc, xn, xe, xk, xs, xp, xm⟩ := x
              simp only at e0 e1 e2 e3 e4 e5 e6 q2
              subst e0 e1 e2 e4 e5 e6
              simp only [Pl.mk.injEq, and_true, true_and]
              omega)
            have HP14 := hide (show Blk wr g 28 #[.int .i64 a0, .int .i64 a1, .int .i64 a2, .int .i64 a3, .int .i64 a4, .int .i64 a5, .int .i64 a6] from HP.out)
            have hpc := HP14.out.cell
            have hpf := HP14.out.frozen
            have hrc := HR.out.cell
            have hrf := HR.out.frozen
            unfold z7 at hrc
            clear HFACT hl7 HP hjn
            go_wp2_with fail
            have hset := (Blk.put7 (show Blk wr w.heap.size 28 #[.int .i64 0, .int .i64 0, .int .i64 0, .int .i64 0, .int .i64 0, .int .i64 0, .int .i64 0] from HR.out) (.int .i64 a0) (.int .i64 a1) (.int .i64 a2) (.int .i64 a3) (.int .i64 a4) (.int .i64 a5) (.int .i64 a6)).cell
            have hxx := HX.out.grown (grown_cells w.heap.size [.int .i64 a0, .int .i64 a1, .int .i64 a2, .int .i64 a3, .int .i64 a4, .int .i64 a5, .int .i64 a6] 0 wr) (fun j hj => by injection hj with hj; omega)
            simp only [World.setCells, Nat.zero_add, Nat.reduceAdd] at hset hxx
            exact bodyPost_ret (v := .tuple #[.agg #[.int .i64 a0, .int .i64 a1, .int .i64 a2, .int .i64 a3, .int .i64 a4, .int .i64 a5, .int .i64 a6], .bool true]) (by simp [results, Tryd.results41, go_sem, hset]) rfl ⟨⟨a0, a1, a2, a3, a4, a5, a6, true, rfl, fun x hx he => ⟨rfl, (HRR.out x hx he).2⟩⟩, hxx⟩
      · have hnb : ((n1 : Int) != (M : Int)) = true := by rw [bne_iff_ne]; omega
        have HRR := hide (show ∀ x, validPl x = true → ws = wordsF x → (false = true ∧ x = ⟨0, 0, 0, 0, 0, 0, 0⟩) from fun x hx he => by
          have h1 := (HFACT.out x hx he).2.2.1
          have h2 := HM.out
          omega)
        clear HFACT
        go_wp2_with fail
        have hset := (Blk.put7 (show Blk w11 w.heap.size 28 #[.int .i64 0, .int .i64 0, .int .i64 0, .int .i64 0, .int .i64 0, .int .i64 0, .int .i64 0] from HR11.out) (.int .i64 0) (.int .i64 0) (.int .i64 0) (.int .i64 0) (.int .i64 0) (.int .i64 0) (.int .i64 0)).cell
        have hxx := HX11.out.grown (grown_cells w.heap.size [.int .i64 0, .int .i64 0, .int .i64 0, .int .i64 0, .int .i64 0, .int .i64 0, .int .i64 0] 0 w11) (fun j hj => by injection hj with hj; omega)
        simp only [World.setCells, Nat.zero_add, Nat.reduceAdd] at hset hxx
        exact bodyPost_ret (v := .tuple #[.agg z7, .bool false]) (by simp [results, Tryd.results41, go_sem, z7, hset]) rfl ⟨⟨0, 0, 0, 0, 0, 0, 0, false, rfl, HRR.out⟩, hxx⟩
end Go.Proofs.YtfjddphjjhhjpaaDoor
