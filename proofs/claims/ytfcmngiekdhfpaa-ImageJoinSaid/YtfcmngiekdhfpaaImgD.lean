/-
  Diff of the program: a loop over the pages, which an iterator yields.
-/
import Derived.RangeFuncNested
import Derived.RangeFuncBound
import Derived.RangeFuncCalls
import Derived.RangeFuncLeaves
import Derived.Shelf.Abstract
import Derived.WalkKit
import Derived.OwnWalkIn
import Derived.TacticsInMore
import Derived.LoopNIn
import Derived.LoopIn
import Derived.Test.YtfcmngiekdhfpaaSeqIn
import Derived.Test.YtfcmngiekdhfpaaImgB
namespace Go.Proofs.Ytfcmngiekdhfpaa
open Go.RowKit Go.Shelf
set_option linter.unusedVariables false
attribute [local go_sem] Oper.semAt_some

/-- Pages of an image, by their numbers. -/
abbrev Pg (b : List UInt8) := { k : Nat // k < cntN b.length }
theorem pg_pos (b : List UInt8) (k : Nat) (h : k < cntN b.length) : 0 < (pageL b k).length ∧ k * 128 + (pageL b k).length ≤ b.length := by
  rw [pageL_length]
  unfold cntN cnt at h
  split at h <;> omega
/-- What the iterator yields: the number, and the bytes of the page where they lie. -/
def encP (bl off : Nat) (b : List UInt8) (x : Pg b) : Array Value := #[.int .i64 (x.1 : Int), .slice (some ⟨bl, off + x.1 * 128, none⟩) (pageL b x.1).length (pageL b x.1).length]

set_option maxHeartbeats 400000 in
theorem pages_any (A : Option Addr) (n cap : Nat) (w : World) :
    CallsIn Fence.wide 8 Try.prog 47 #[.slice A n cap] w fun e w' => e = .returned (.func (.func 61) #[] #[.pointer (some ⟨w.heap.size, 0, none⟩)]) ∧ w' = w.alloc (.cells #[.slice A n cap] 22) := by
  refine callsIn_of_wp Try.func47 rfl trivial ?_ rfl
  simp only [Try.ntmps47, List.size_toArray, List.length_cons, List.length_nil, Nat.reduceAdd, Nat.reduceSub, Array.replicate_succ, Array.replicate_zero, List.push_toArray, List.append_toArray, List.nil_append, List.cons_append]
  gi_wp2
  go_ret
  exact ⟨rfl, rfl⟩

/-- What a round keeps: what lay below n₁, and the box of the image. -/
def KpP (n₁ Bs : Nat) (A B : World) : Prop := Below n₁ A B ∧ B.heap[Bs]? = A.heap[Bs]?
theorem KpP.trans {n₁ Bs : Nat} {A B C : World} (h : KpP n₁ Bs A B) (k : KpP n₁ Bs B C) : KpP n₁ Bs A C := ⟨h.1.trans k.1, k.2.trans h.2⟩

set_option maxRecDepth 100000 in
set_option maxHeartbeats 2000000 in
theorem pages1_in (A : Option Addr) (bl off cap Bs n₁ : Nat) (b : List UInt8) (l : Nat) (hlb : b.length ≤ 65536) (hcap : b.length ≤ cap) (hA : b = [] ∨ A = some ⟨bl, off, none⟩ ∧ bl < n₁) (J Jx : List (Pg b) → World → Prop) (W : World)
    (hY : ∀ pre (x : Pg b) W1, J pre W1 → pre.length < cntN b.length → YieldAt Fence.wide 7 Try.prog l (encP bl off b x) W1 fun e W' =>
      (e = .returned (.bool true) ∧ J (pre ++ [x]) W' ∧ KpP n₁ Bs W1 W') ∨ (e = .returned (.bool false) ∧ Jx (pre ++ [x]) W'))
    (hBs : W.cell? ⟨Bs, 0, none⟩ = some (.slice A b.length cap)) (h0 : J [] W) :
    CallsIn Fence.wide 8 Try.prog 61 #[.func (.yield l) #[] #[], .pointer (some ⟨Bs, 0, none⟩)] W fun e W' => (∃ v, e = .returned v) ∧
      ((∃ xs : List (Pg b), xs.map (·.1) = List.range (cntN b.length) ∧ J xs W') ∨ (∃ pre, True ∧ Jx pre W')) := by
  refine callsIn_of_wp Try.func61 rfl trivial ?_ rfl
  simp only [Try.ntmps61, List.size_toArray, List.length_cons, List.length_nil, Nat.reduceAdd, Nat.reduceSub, Array.replicate_succ, Array.replicate_zero, List.push_toArray, List.append_toArray, List.nil_append, List.cons_append]
  have HCN := hide (cntN_cast b.length)
  have hcl := cntN_le b.length
  gi_wp2_with (refine ⟨trivial, ?_⟩; gi_at_call 15; refine (callsIn_wide.2 (count_any _ _ (by omega))).mono ?_; rintro e w' ⟨rfl, rfl⟩)
  gi_loopw [9] (fun i wr => ∃ k : Nat, k ≤ cntN b.length ∧ i = .int .i64 k ∧ (∃ xs : List (Pg b), xs.map (·.1) = List.range k ∧ J xs wr) ∧ KpP n₁ Bs W wr) (fun i _ => cntN b.length - (intOf i).toNat)
  case atStart => exact ⟨0, Nat.zero_le _, rfl, ⟨[], rfl, h0⟩, Below.refl _ _, rfl⟩
  case round =>
    obtain ⟨k, hk, rfl, ⟨xs, hxs, hJs⟩, hnx⟩ := hrel
    have HN := hide hnx
    have hBx : wr.cell? ⟨Bs, 0, none⟩ = some (.slice A b.length cap) := (World.cell?_of_block (w := W) (a := ⟨Bs, 0, none⟩) hnx.2).trans hBs
    clear hnx
    by_cases hlt : k < cntN b.length
    · have hlen : xs.length = k := by have := congrArg List.length hxs; simpa using this
      rcases hA with rfl | ⟨rfl, hbl⟩
      · simp [cntN, cnt] at hlt
      obtain ⟨fn, tmps, assign, body, hy, hR⟩ := hY xs ⟨k, hlt⟩ wr hJs (by omega)
      dsimp only [encP] at hy
      have hp := pg_pos b k hlt
      have hkc : (k : Int) < cnt b.length := by rw [HCN.out]; omega
      have HR := hide hR
      clear hY hR hlen
      have HXS := hide hxs
      clear hxs
      gi_wp2_with (refine ⟨trivial, ?_⟩; gi_at_call 44; refine (callsIn_wide.2 (size_any _ _ _ (by omega))).mono ?_; rw [szI_nat]; rintro e w' ⟨rfl, rfl⟩)
      refine HR.out.mono ?_
      clear hy HR
      rintro e W3 (⟨rfl, hJ3, hk3⟩ | ⟨rfl, hJx3⟩)
      · have HK3 := hide hk3
        clear hk3
        gi_wp2
        go_roundw
        case rel => exact ⟨k + 1, by omega, by go_num, ⟨_, by rw [List.map_append, HXS.out, List.range_succ]; rfl, hJ3⟩, HN.out.trans HK3.out⟩
        case measure => simp [intOf]; omega
      · gi_wp2
        refine bodyPost_ret (results_none rfl _ _ _) rfl ?_
        exact ⟨⟨_, rfl⟩, .inr ⟨_, trivial, hJx3⟩⟩
    · have hkc : ¬ (k : Int) < cnt b.length := by rw [HCN.out]; omega
      have HXS := hide hxs
      clear hxs hY
      gi_wp2
      go_end0
      have hkk : k = cntN b.length := by omega
      exact ⟨⟨_, rfl⟩, .inl ⟨xs, by have h := HXS.out; rw [hkk] at h; exact h, hJs⟩⟩
theorem pages1_stops (A : Option Addr) (bl off cap Bs n₁ : Nat) (b : List UInt8) (hlb : b.length ≤ 65536) (hcap : b.length ≤ cap) (hA : b = [] ∨ A = some ⟨bl, off, none⟩ ∧ bl < n₁) (w : World) (hBs : w.cell? ⟨Bs, 0, none⟩ = some (.slice A b.length cap)) (hBw : Bs < w.heap.size) :
    SeqStopsK Fence.wide 8 Try.prog 61 #[.pointer (some ⟨Bs, 0, none⟩)] (encP bl off b) (KpP n₁ Bs) (fun xs => xs.map (·.1) = List.range (cntN b.length)) (fun _ => True) (cntN b.length) w := fun l J Jx W hW _ _ hY h0 =>
  pages1_in A bl off cap Bs n₁ b l hlb hcap hA J Jx W hY ((hW.cell (p := ⟨Bs, 0, none⟩) hBw).trans hBs) h0

/-! What is no cells may turn. -/
def NoCells (w : World) (row : Option Nat) : Prop := ∀ r, row = some r → ∃ o : Obj, w.heap[r]? = some o ∧ o.isCells = false
theorem NoCells.ne {w : World} {row : Option Nat} (h : NoCells w row) {g : Nat} {cs : Array Value} {t : TypeId} {m : Nat × Nat} (hg : w.heap[g]? = some (.cells cs t m)) : some g ≠ row := fun e => by
  obtain ⟨o, h1, h2⟩ := h g e.symm
  rw [hg] at h1
  injection h1 with h1
  subst h1
  cases h2
theorem NoCells.ne_cell {w : World} {row : Option Nat} (h : NoCells w row) {a : Addr} {v : Value} (hc : w.cell? a = some v) : some a.block ≠ row := fun e => by
  obtain ⟨o, h1, h2⟩ := h a.block e.symm
  unfold World.cell? at hc
  rw [h1] at hc
  cases o <;> simp [Obj.isCells] at h2 hc
theorem Sl.grownN {w w' : World} {A : Option Addr} {cap : Nat} {l : List UInt8} {row : Option Nat} (h : Sl w A cap l) (hg : w.grownBy w' row) (hr : NoCells w row) : Sl w' A cap l := by
  rcases h.rd with h0 | ⟨b, off, ha, hb, hc⟩
  · exact ⟨h.le, h.max, h.nil, .inl h0⟩
  · by_cases hl : l = []
    · exact ⟨h.le, h.max, h.nil, .inl hl⟩
    · refine h.grown hg (.inr fun a ha' => ?_)
      rw [ha] at ha'
      injection ha' with ha'
      subst ha'
      exact hr.ne_cell (hc 0 (List.length_pos_iff.2 hl))
theorem OwnCh.grownN {w w' : World} {base : Nat} {e : TypeId} {v : Value} {cs : List Chg} {row : Option Nat} (h : OwnCh w base e v cs) (hg : w.grownBy w' row) (hr : NoCells w row) : OwnCh w' base e v cs := by
  obtain ⟨xs, h1, h2⟩ := h
  have hv : v.ownBlock = none ∨ v.ownBlock ≠ row := by
    rcases h1.2 with ⟨rfl, _⟩ | ⟨g, cap, cur, rfl, _, hh, _⟩
    · exact .inl rfl
    · exact .inr (hr.ne hh)
  refine ⟨xs, h1.kept hg hv, fun i hi => ?_⟩
  obtain ⟨u, x, a, b, c, A, cap, d, f, g⟩ := h2 i hi
  exact ⟨u, x, a, b, c, A, cap, d, f.grownN hg hr, g⟩
theorem Blk.grownN {w w' : World} {g : Nat} {t : TypeId} {cs : Array Value} {row : Option Nat} (h : Blk w g t cs) (hg : w.grownBy w' row) (hr : NoCells w row) : Blk w' g t cs := h.grown hg (hr.ne h)

/-- What differs on the pages with the numbers ks. -/
def diffOf (a b : List UInt8) (ks : List Nat) : List Chg := ks.filterMap fun k => if pageL a k = pageL b k then none else some ((k : Int), pageL b k)
theorem diffOf_snoc (a b : List UInt8) (ks : List Nat) (k : Nat) : diffOf a b (ks ++ [k]) = diffOf a b ks ++ (if pageL a k = pageL b k then [] else [((k : Int), pageL b k)]) := by
  unfold diffOf
  rw [List.filterMap_append]
  congr 1
  by_cases h : pageL a k = pageL b k <;> simp [h]
theorem diffOf_range (a b : List UInt8) : ∀ n, diffOf a b (List.range n) = diffTo a b n
  | 0 => rfl
  | n + 1 => by
    rw [List.range_succ, diffOf_snoc, diffOf_range a b n]
    simp only [diffTo]
    split <;> simp
theorem diffOf_length (a b : List UInt8) (ks : List Nat) : (diffOf a b ks).length ≤ ks.length := List.length_filterMap_le _ _

def nums {b : List UInt8} (xs : List (Pg b)) : List Nat := xs.map (·.1)
theorem nums_snoc {b : List UInt8} (xs : List (Pg b)) (x : Pg b) : nums (xs ++ [x]) = nums xs ++ [x.1] := by simp [nums]
/-- What the loop holds. -/
def DiffI (w : World) (A : Option Addr) (ca : Nat) (a b : List UInt8) (xs : List (Pg b)) (W : World) : Prop :=
  (∃ C c', Blk W (w.heap.size + 2) 29 #[.int .i64 b.length, .slice C (diffOf a b (nums xs)).length c'] ∧ OwnCh W (w.heap.size + 4) 43 (.slice C (diffOf a b (nums xs)).length c') (diffOf a b (nums xs))) ∧
  Blk W (w.heap.size + 1) 29 #[.int .i64 0, .slice none 0 0] ∧ Blk W w.heap.size 22 #[.slice A a.length ca] ∧ w.heap.size + 4 ≤ W.heap.size ∧ Ext w W
theorem DiffI.own {w : World} {A : Option Addr} {ca : Nat} {a b : List UInt8} {B : Nat} (hB : w.heap.size + 4 ≤ B) : OwnFrom B (DiffI w A ca a b) := by
  rintro xs W W' row ⟨⟨C, c', h1, h2⟩, h3, h4, h5, h6⟩ hg hr
  have hn : NoCells W row := fun r e => (hr r e).2
  exact ⟨⟨C, c', h1.grownN hg hn, h2.grownN hg hn⟩, h3.grownN hg hn, h4.grownN hg hn, Nat.le_trans h5 hg.size, h6.grown hg fun k e => by have := (hr k e).1; omega⟩

set_option maxRecDepth 100000 in
set_option maxHeartbeats 2000000 in
theorem diff_any (A B : Option Addr) (ca cb : Nat) (a b : List UInt8) (w : World) (ha : Sl w A ca a) (hb : Sl w B cb b) (la : a.length ≤ 65536) (lb : b.length ≤ 24000) :
    Calls Try.prog 19 #[.slice A a.length ca, .slice B b.length cb] w fun e w' => ∃ C cap, e = .returned (.tuple #[.agg #[.int .i64 b.length, .slice C (diffL a b).length cap], .int .i64 0]) ∧ Chs w' C cap (diffL a b) ∧ Ext w w' := by
  refine (callsIn_wide (n := 9)).1 ?_
  refine callsIn_of_wp_marks Try.func19 rfl trivial ?_ rfl
  simp only [Try.ntmps19, List.size_toArray, List.length_cons, List.length_nil, Nat.reduceAdd, Nat.reduceSub, Array.replicate_succ, Array.replicate_zero, List.push_toArray, List.append_toArray, List.nil_append, List.cons_append]
  have hlt : ¬ (24000 : Int) < b.length := by omega
  gi_wp2_with (refine ⟨trivial, ?_⟩; gi_at_call 47; refine (pages_any _ _ _ _).mono ?_; rintro e w' ⟨rfl, rfl⟩)
  have hw4 : Ext w ((((w.alloc (.cells #[.slice A a.length ca] 22)).alloc (.cells #[.int .i64 0, .slice none 0 0] 29)).alloc (.cells #[.int .i64 b.length, .slice none 0 0] 29)).alloc (.cells #[.slice B b.length cb] 22)) := (((Ext.alloc w _).alloc' _).alloc' _).alloc' _
  have hb4 : ∃ W4, W4 = ((((w.alloc (.cells #[.slice A a.length ca] 22)).alloc (.cells #[.int .i64 0, .slice none 0 0] 29)).alloc (.cells #[.int .i64 b.length, .slice none 0 0] 29)).alloc (.cells #[.slice B b.length cb] 22)) := ⟨_, rfl⟩
  obtain ⟨W4, hW4⟩ := hb4
  have hz4 : W4.heap.size = w.heap.size + 4 := by rw [hW4]; simp
  have hB1 : Blk W4 w.heap.size 22 #[.slice A a.length ca] := by rw [hW4]; exact (((Blk.new w _ _).alloc _).alloc _).alloc _
  have hB2 : Blk W4 (w.heap.size + 1) 29 #[.int .i64 0, .slice none 0 0] := by
    rw [hW4]; have := ((Blk.new (w.alloc (.cells #[.slice A a.length ca] 22)) 29 #[.int .i64 0, .slice none 0 0]).alloc (.cells #[.int .i64 b.length, .slice none 0 0] 29)).alloc (.cells #[.slice B b.length cb] 22); simpa using this
  have hB3 : Blk W4 (w.heap.size + 2) 29 #[.int .i64 b.length, .slice none 0 0] := by
    rw [hW4]; have := (Blk.new ((w.alloc (.cells #[.slice A a.length ca] 22)).alloc (.cells #[.int .i64 0, .slice none 0 0] 29)) 29 #[.int .i64 b.length, .slice none 0 0]).alloc (.cells #[.slice B b.length cb] 22); simpa using this
  have hB4 : Blk W4 (w.heap.size + 3) 22 #[.slice B b.length cb] := by
    rw [hW4]; have := Blk.new (((w.alloc (.cells #[.slice A a.length ca] 22)).alloc (.cells #[.int .i64 0, .slice none 0 0] 29)).alloc (.cells #[.int .i64 b.length, .slice none 0 0] 29)) 22 #[.slice B b.length cb]; simpa using this
  rw [← hW4] at hw4 ⊢
  obtain ⟨bl, off, hAA⟩ : ∃ bl off, b = [] ∨ B = some ⟨bl, off, none⟩ ∧ bl < w.heap.size := by
    rcases hb.rd with h | ⟨bl, off, h1, h2, _⟩
    · exact ⟨0, 0, .inl h⟩
    · exact ⟨bl, off, .inr ⟨h1, h2⟩⟩
  refine wpIn_rangeFunc_ownG (w0 := W4) rfl (by omega) (gf := 61) (lb := #[.pointer (some ⟨w.heap.size + 1 + 1 + 1, 0, none⟩)]) rfl trivial (enters_of Try.func61 (by kernel_rfl) rfl)
    (pages1_stops B bl off cb (w.heap.size + 3) w.heap.size b (by omega) hb.le hAA W4 (by rw [hB4.cell]; rfl) (by omega)) KpP.trans ?hKb (Below.refl _ _) (fun _ => rfl)
    (DiffI w A ca a b) (fun _ _ _ => False) (DiffI.own (by omega)) (fun _ _ _ _ _ h _ _ => h) ?h0
    (fun x => { tmps := #[.slice A a.length ca, .slice B b.length cb, .pointer (some ⟨w.heap.size, 0, none⟩), undef, .pointer (some ⟨w.heap.size + 1, 0, none⟩), .int .i64 0, .pointer (some ⟨w.heap.size + 1 + 1, 0, none⟩), .int .i64 (x.1 : Int),
      .slice (some ⟨bl, off + x.1 * 128, none⟩) (pageL b x.1).length (pageL b x.1).length, .slice B b.length cb, .int .i64 b.length, .bool false, undef, .slice B b.length cb, .int .i64 b.length, .agg #[.int .i64 b.length, .slice none 0 0],
      .slice B b.length cb, .func (.func 61) #[] #[.pointer (some ⟨w.heap.size + 1 + 1 + 1, 0, none⟩)], .int .i64 (x.1 : Int), .slice (some ⟨bl, off + x.1 * 128, none⟩) (pageL b x.1).length (pageL b x.1).length,
      undef, undef, undef, undef, undef, undef, undef, undef, undef, undef, undef, undef, undef, undef, undef, undef], defers := [] }) ?assign ?body ?done ?stop
  case hKb =>
    intro W l o o' hl _ _ _
    refine ⟨⟨rfl, rfl, rfl, by simp [World.putObj], fun k hk => ?_⟩, ?_⟩
    · simp only [World.putObj, Array.getElem?_setIfInBounds]; rw [if_neg (by omega)]
    · simp only [World.putObj, Array.getElem?_setIfInBounds]; rw [if_neg (by omega)]
  case h0 => exact ⟨⟨none, 0, hB3, OwnCh.nil_ _ _ _⟩, hB2, hB1, by omega, hw4⟩
  case assign =>
    intro l x W K hK
    simp only [encP]
    gi_wp2
    exact hK
  case done =>
    rintro D xs W hD hxs ⟨⟨C, c', h1, h2⟩, h3, h4, h5, h6⟩ hK
    have hd : diffOf a b (nums xs) = diffL a b := by unfold nums; rw [hxs, diffOf_range]; rfl
    rw [hd] at h1 h2
    have hc1 := h1.cell
    have hc3 := h3.cell
    have hf3 := h3.frozen
    have H1 := hide h1
    have H2 := hide h2
    have H3 := hide h3
    have H6 := hide h6
    clear h1 h2 h3 h4 h6 hxs hd hW4 hB1 hB2 hB3 hB4 hw4 ha hb hAA
    have hne : D ≠ w.heap.size + 1 := by omega
    have hK' : ((W.setCell ⟨w.heap.size + 1, 0, none⟩ (.int .i64 b.length)).setCell ⟨w.heap.size + 1, 1, none⟩ (.slice C (diffL a b).length c')).heap[D]? = some (.deferred (some [])) :=
      (Below.heap_setCell _ ⟨w.heap.size + 1, 1, none⟩ _ D hne).trans ((Below.heap_setCell _ ⟨w.heap.size + 1, 0, none⟩ _ D hne).trans hK)
    have HK := hide hK'
    clear hK hK'
    gi_wp2
    refine ⟨by simp, .inl ⟨_, _, rfl, run_takeDeferred HK.out, ?_⟩⟩
    have hn : NoCells ((W.setCell ⟨w.heap.size + 1, 0, none⟩ (.int .i64 b.length)).setCell ⟨w.heap.size + 1, 1, none⟩ (.slice C (diffL a b).length c')) (some D) := fun r e => by injection e with e; subst e; exact ⟨_, HK.out, rfl⟩
    have hg := grownBy_putObj' ((W.setCell ⟨w.heap.size + 1, 0, none⟩ (.int .i64 b.length)).setCell ⟨w.heap.size + 1, 1, none⟩ (.slice C (diffL a b).length c')) D (.deferred none)
    have hset := ((H3.out.set 0 (.int .i64 b.length)).set 1 (.slice C (diffL a b).length c')).grownN hg hn
    have hcc := hset.cell
    refine ⟨.tuple #[.agg #[.int .i64 b.length, .slice C (diffL a b).length c'], .int .i64 0], by simp [results, Try.results19, go_sem, hcc], C, c', rfl, ?_, ?_⟩
    · exact (((H2.out.set (p := ⟨w.heap.size + 1, 0, none⟩) (by simp <;> omega) _).set (p := ⟨w.heap.size + 1, 1, none⟩) (by simp <;> omega) _).grownN hg hn).chs.2
    · exact ((H6.out.set (p := ⟨w.heap.size + 1, 0, none⟩) (by simp <;> omega) _).set (p := ⟨w.heap.size + 1, 1, none⟩) (by simp <;> omega) _).grown hg (fun k e => by injection e with e; omega)
  case stop =>
    rintro D c pre W _ _ h _
    exact h.elim
  case body =>
    rintro l pre ⟨k, hk⟩ W ⟨⟨C, c', h1, h2⟩, h3, h4, h5, h6⟩ hlen
    have hdl : (diffOf a b (nums pre)).length ≤ pre.length := Nat.le_trans (diffOf_length _ _ _) (by simp [nums])
    have hcl := cntN_le b.length
    have hnb : b ≠ [] := fun e => by subst e; simp [cntN, cnt] at hk
    obtain ⟨rfl, hbl⟩ := hAA.resolve_left hnb
    have hp := pg_pos b k hk
    have hpage : Sl w (some ⟨bl, off + k * 128, none⟩) (pageL b k).length (pageL b k) := by
      obtain ⟨b0, off0, e, _, hcut⟩ := hb.cut (k * 128) (pageL b k).length (pageL b k).length hp.1 hp.2 (Nat.le_refl _) (by have := hb.le; omega)
      injection e with e
      injection e with e1 e2
      subst e1 e2
      have : ((b.drop (k * 128)).take (pageL b k).length) = pageL b k := by
        rw [pageL_length]
        unfold pageL
        rw [List.take_eq_take_iff]
        simp
      rw [this] at hcut
      exact hcut
    have hpl : (pageL b k).length ≤ 128 := by rw [pageL_length]; omega
    have HA := hide (ha.ext h6)
    have HP := hide (hpage.ext h6)
    have hc1 := h1.cell
    have hc4 := h4.cell
    have hi1 : Ext w W := h6
    have H1 := hide h1
    have H2 := hide h2
    have H3 := hide h3
    have H4 := hide h4
    have H6 := hide h6
    clear ha hb hpage h1 h2 h3 h4 h6 hW4 hw4 hB1 hB2 hB3 hB4 hi1 hnb
    have hbne : b ≠ [] := fun e => by subst e; simp [cntN, cnt] at hk
    clear hAA
    obtain ⟨pe, hpe⟩ : ∃ pe, (pageL a k == pageL b k) = pe := ⟨_, rfl⟩
    have HPE := hide hpe
    clear hpe
    cases pe
    rotate_left
    · gi_wp2_with (first
        | (refine ⟨trivial, ?_⟩; gi_at_call 16; refine (CallsIn.inRound l (callsIn_wide.2 (page_any _ _ _ _ _ HA.out la))).mono ?_; rw [pageI_nat]; rintro e w1 ⟨A1, c1, rfl, hq1, hq2⟩; have HQ1 := hide hq1.sl.2; have HE1 := hide hq2; have hz1 := hq2.size; clear hq1 hq2)
        | (refine ⟨trivial, ?_⟩; gi_at_call 48; refine (CallsIn.inRound l (callsIn_wide.2 (equal_any _ _ _ _ _ _ _ HQ1.out (HP.out.ext HE1.out)))).mono ?_; rw [HPE.out]; rintro e w2 ⟨rfl, rfl⟩))
      have hd : diffOf a b (nums (pre ++ [⟨k, hk⟩])) = diffOf a b (nums pre) := by
        rw [nums_snoc, diffOf_snoc, if_pos (by simpa using HPE.out), List.append_nil]
      have he := HE1.out
      refine ⟨⟨hz1, fun i o _ hi _ => (he.obj (Array.getElem?_eq_some_iff.1 hi).1).trans hi⟩, ⟨he.mono (by omega), he.obj (by omega)⟩, ⟨C, c', ?_, ?_⟩, H3.out.ext he, H4.out.ext he, by omega, H6.out.trans he⟩
      · rw [hd]; exact H1.out.ext he
      · rw [hd]; exact H2.out.ext he
    · gi_wp2_with (first
        | (refine ⟨trivial, ?_⟩; gi_at_call 16; refine (CallsIn.inRound l (callsIn_wide.2 (page_any _ _ _ _ _ HA.out la))).mono ?_; rw [pageI_nat]; rintro e w1 ⟨A1, c1, rfl, hq1, hq2⟩; have HQ1 := hide hq1.sl.2; have HE1 := hide hq2; have hz1 := hq2.size; clear hq1 hq2)
        | (refine ⟨trivial, ?_⟩; gi_at_call 48; refine (CallsIn.inRound l (callsIn_wide.2 (equal_any _ _ _ _ _ _ _ HQ1.out (HP.out.ext HE1.out)))).mono ?_; rw [HPE.out]; rintro e w2 ⟨rfl, rfl⟩))
      have he := HE1.out
      have hd : diffOf a b (nums (pre ++ [⟨k, hk⟩])) = diffOf a b (nums pre) ++ [((k : Int), pageL b k)] := by
        rw [nums_snoc, diffOf_snoc, if_neg (by simpa using HPE.out)]
      have HD := hide hd
      have G1 := hide (H1.out.ext he)
      have G2 := hide (H2.out.ext he)
      have G3 := hide (H3.out.ext he)
      have G4 := hide (H4.out.ext he)
      have G6 := hide (H6.out.trans he)
      have GP := hide (HP.out.ext he)
      have hrow : ∀ g, Value.ownBlock (.slice C (diffOf a b (nums pre)).length c') = some g → w.heap.size + 4 ≤ g ∧ g < w1.heap.size := fun g hg => by
        obtain ⟨xs, q1, _⟩ := G2.out
        exact q1.lt g hg
      clear HA HQ1 HP H1 H2 H3 H4 H6 hc1 hc4 he hd
      generalize hcs : diffOf a b (nums pre) = cs at *
      generalize hgr : Value.ownBlock (.slice C cs.length c') = row at *
      have HGR := hide hgr
      have HCS := hide hcs
      clear hgr hcs
      have hr1 : some (w.heap.size + 2) ≠ row := fun e => by have := hrow _ e.symm; omega
      have hr3 : some (w.heap.size + 1) ≠ row := fun e => by have := hrow _ e.symm; omega
      have hr4 : some w.heap.size ≠ row := fun e => by have := hrow _ e.symm; omega
      have hrb : some bl ≠ row := fun e => by have := hrow _ e.symm; omega
      refine wpIn_region_app 9 2 [(4, ShSl (pageL b k).length, SlX (w.heap.size + 4) row (pageL b k)),
          (6, fun v => ∃ g, v = .slice (some ⟨g, 0, none⟩) 1 1, OneCh (w.heap.size + 4) row 43 ((k : Int), pageL b k)),
          (7, ShSl (cs.length + 1), fun v w' => OwnCh w' (w.heap.size + 4) 43 v (cs ++ [((k : Int), pageL b k)]))] 7 row
          mixed (by kernel_rfl) ⟨fun _ _ _ h hx => h.grown (hx.grownBy _), fun _ _ _ h hx => h.grown (hx.grownBy _), fun _ _ _ h hx => h.ext hx, trivial⟩
          ⟨.inr fun _ _ _ h hx => h.grown hx, .inr fun _ _ _ h hx => h.grown hx, .inl rfl, trivial⟩ ?_
      repeat ((refine seq_exact ?_ (by rfl) (by rfl) (fun w1 hU => ?_) ?_); (rotate_left 1); (focus (have hbk := (G1.out.grown (grown_un hU) hr1).cell; go_simp <;> with_reducible rfl)); (simp only [Act.put, List.setIfInBounds_toArray, List.set_cons_zero, List.set_cons_succ]))
      refine seq_opaque _ _ (by rfl) rfl ⟨_, none, 0, rfl⟩ (by simp) (fun w3 hU _ K hK => ?_) ?_
      · have hU := grown_un hU
        have hz := hU.size
        have hs := GP.out.grown hU (.inr fun a ha => by injection ha with ha; subst ha; exact hrb)
        clear hU
        go_simp
        refine (clone_any _ _ _ _ hs (by omega)).mono ?_
        rintro e w4 ⟨A', cap', rfl, q1, q2⟩
        exact hK _ _ q2 ⟨A', cap', rfl⟩ (q1.slX (by omega) (fun k e => by have := hrow k e; omega))
      rintro _ ⟨A3, c3, rfl⟩
      simp only [Act.put, List.setIfInBounds_toArray, List.set_cons_zero, List.set_cons_succ]
      repeat ((refine seq_exact ?_ (by rfl) (by rfl) (fun w1 hU => ?_) ?_); (rotate_left 1); (focus (go_simp <;> with_reducible rfl)); (simp only [Act.put, List.setIfInBounds_toArray, List.set_cons_zero, List.set_cons_succ]))
      refine seq_opaque _ _ (by rfl) rfl ⟨_, 0, rfl⟩ (by simp) (fun w3 hU hp K hK => ?_) ?_
      · have hs := hp _ (.head _) (by kernel_rfl)
        have hz := (grown_un hU).size
        clear hp
        go_simp
        exact hK _ _ (Ext.alloc w3 _) ⟨_, rfl⟩ (OneCh.mk_ hs fun k e => by have := hrow k e; omega)
      rintro _ ⟨g, rfl⟩
      simp only [Act.put, List.setIfInBounds_toArray, List.set_cons_zero, List.set_cons_succ]
      refine seq_late _ _ (by rfl) rfl ⟨_, none, 0, rfl⟩ rfl (fun w3 hU hp K hK => ?_) ?_
      · have hs := hp _ (.head _) (by kernel_rfl)
        have hz := Ext.size hU.un
        have ho := G2.out.ext hU.un
        have hgr := HGR.out
        refine wp_appendCh ct _ _ rfl (w.heap.size + 4) _ _ _ rfl ho _ rfl (hgr ▸ hs) (by omega) (by omega) fun A' cap' w' h1 h2 => hK _ _ (hgr ▸ h2) ⟨A', cap', rfl⟩ h1
      rintro _ ⟨C', cap', rfl⟩
      simp only [Act.put, List.setIfInBounds_toArray, List.set_cons_zero, List.set_cons_succ]
      repeat ((refine seq_exact ?_ (by rfl) (by rfl) (fun w1 hU => ?_) ?_); (rotate_left 1); (focus (go_simp <;> with_reducible rfl)); (simp only [Act.put, List.setIfInBounds_toArray, List.set_cons_zero, List.set_cons_succ]))
      intro w8 hw8 hp
      have ho8 := hp _ (.head _)
      clear hp
      simp only [List.drop_succ_cons, List.drop_zero]
      have hw8 := grown_un hw8
      have hb8 := G1.out.grown hw8 hr1
      have hc8 := hb8.cell
      have hf8 := hb8.frozen
      have HB8 := hide hb8
      have HR8 := hide (G3.out.grown hw8 hr3)
      have HP8 := hide (G4.out.grown hw8 hr4)
      have HX8 := hide (Ext.grown G6.out hw8 (fun k e => by have := hrow k e; omega))
      have HO8 := hide ho8
      have he := HE1.out
      have hrc : ∀ g, row = some g → ∃ cs t m, w1.heap[g]? = some (.cells cs t m) := fun g hg => by
        obtain ⟨xs, q1, _⟩ := G2.out
        rcases q1.2 with ⟨q, _⟩ | ⟨g', cap, cur, q, _, hh, _⟩
        · rw [← HGR.out, q] at hg; cases hg
        · rw [← HGR.out, q] at hg; injection hg with hg; subst hg; exact ⟨_, _, _, hh⟩
      have hkf : KeepsFrom (w.heap.size + 4) W (w8.setCell ⟨w.heap.size + 2, 1, none⟩ (.slice C' (cs.length + 1) cap')) := by
        refine ⟨by have := hw8.size; simp [World.setCell]; omega, fun i o hi ho hc => ?_⟩
        have hlt := (Array.getElem?_eq_some_iff.1 ho).1
        rw [Below.heap_setCell _ _ _ _ (by simp; omega)]
        have h1 := (he.obj hlt).trans ho
        rw [hw8.block i (by omega) ?_, h1]
        intro e
        obtain ⟨cs', t, m, q⟩ := hrc i e.symm
        rw [h1] at q
        injection q with q
        subst q
        cases hc
      have hkp : KpP w.heap.size (w.heap.size + 3) W (w8.setCell ⟨w.heap.size + 2, 1, none⟩ (.slice C' (cs.length + 1) cap')) := by
        refine ⟨((he.mono (by omega)).grown hw8 (by omega) (fun k e => by have := hrow k e; omega)).setCell (by simp <;> omega) _, ?_⟩
        rw [Below.heap_setCell _ _ _ _ (by simp <;> omega), hw8.block _ (by omega) (fun e => by have := hrow _ e.symm; omega), he.obj (by omega)]
      have HKF := hide hkf
      have HKP := hide hkp
      have hz8 := hw8.size
      clear hb8 ho8 hw8 G1 G3 G4 G6 hr1 hr3 hr4 hkf hkp he hrc
      gi_wp2
      refine ⟨HKF.out, HKP.out, ⟨C', cap', ?_, ?_⟩, HR8.out.far (by simp <;> omega) _, HP8.out.far (by simp <;> omega) _, ?_, HX8.out.set (by simp <;> omega) _⟩
      · rw [HD.out, List.length_append]
        have := HB8.out.set 1 (.slice C' (cs.length + 1) cap')
        simpa using this
      · rw [HD.out, List.length_append]
        have := OwnCh.set HO8.out (p := ⟨w.heap.size + 2, 1, none⟩) (by simp) (.slice C' (cs.length + 1) cap')
        simpa using this
      · simp [World.setCell]; omega

theorem diff_big (A B : Option Addr) (ca cb : Nat) (n m : Nat) (w : World) (lb : 24000 < m) :
    Calls Try.prog 19 #[.slice A n ca, .slice B m cb] w fun e w' => e = .returned (.tuple #[.agg #[.int .i64 0, .slice none 0 0], .int .i64 6]) ∧ Ext w w' := by
  refine (callsIn_wide (n := 9)).1 ?_
  refine callsIn_of_wp_marks Try.func19 rfl trivial ?_ rfl
  simp only [Try.ntmps19, List.size_toArray, List.length_cons, List.length_nil, Nat.reduceAdd, Nat.reduceSub, Array.replicate_succ, Array.replicate_zero, List.push_toArray, List.append_toArray, List.nil_append, List.cons_append]
  have hlt : (24000 : Int) < m := by omega
  gi_wp2
  refine ⟨.tuple #[.agg #[.int .i64 0, .slice none 0 0], .int .i64 6], by simp [results, Try.results19, go_sem], rfl, (Ext.alloc w _).alloc' _⟩
end Go.Proofs.Ytfcmngiekdhfpaa
