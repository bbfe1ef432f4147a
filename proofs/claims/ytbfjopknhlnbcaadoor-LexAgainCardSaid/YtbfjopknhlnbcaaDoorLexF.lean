/-
  The program's text and mark.
-/
import Derived.Test.YtbfjopknhlnbcaaDoorLexE
namespace Go.Proofs.YtbfjopknhlnbcaaDoor
open Go.RowKit
set_option linter.unusedVariables false

theorem bt : ByteT Tryd.prog 48 5 := ⟨Tryd.underlying48, by kernel_rfl⟩
/-- A byte in a new block of its own. -/
theorem Sl.one (w : World) (v : UInt8) : Sl (w.alloc (.cells #[.int .u8 (v.toNat : Int)] 5)) (some ⟨w.heap.size, 0, none⟩) 1 [v] :=
  ⟨by simp, by simp [maxLen], (fun h => by cases h), .inr ⟨w.heap.size, 0, rfl, by simp, fun i hi => by
    have hi0 : i = 0 := by simp at hi; omega
    subst hi0
    rw [(Blk.new w 5 #[.int .u8 (v.toNat : Int)]).cell]
    rfl⟩⟩
theorem lit_drop_end {m : List UInt8} {j : Nat} (h : j < m.length) (hc : m[j] = 34) : litL (m.drop j) = some ([], 1) := by
  rw [List.drop_eq_getElem_cons h, hc]; exact litL_end _
theorem lit_drop_bad {m : List UInt8} {j : Nat} (h : j < m.length) (hc : m[j] ≠ 34) (h0 : (elemL (m.drop j)).2 = 0) : litL (m.drop j) = none := by
  rw [List.drop_eq_getElem_cons h] at h0 ⊢; exact litL_bad hc h0
theorem lit_drop_step {m : List UInt8} {j : Nat} (h : j < m.length) (hc : m[j] ≠ 34) (h0 : (elemL (m.drop j)).2 ≠ 0) : litL (m.drop j) = (litL (m.drop (j + (elemL (m.drop j)).2))).map fun x => ((elemL (m.drop j)).1 :: x.1, (elemL (m.drop j)).2 + x.2) := by
  have e : m.drop (j + (elemL (m.drop j)).2) = (m.drop j).drop (elemL (m.drop j)).2 := by rw [List.drop_drop]
  rw [e]
  generalize hd : m.drop j = d at *
  rw [List.drop_eq_getElem_cons h] at hd
  subst hd
  exact litL_step hc h0
theorem text_spec (c : UInt8) (m : List UInt8) : textT (c :: m) = match litL m with
  | none => .error 3
  | some (t, n) => if 128 < t.length then .error 6 else .ok ((4, t, 0), n + 1) := rfl
set_option maxRecDepth 100000 in
set_option maxHeartbeats 2000000 in
theorem text_any (c : UInt8) (m : List UInt8) (hl : m.length ≤ 100000) (w : World) : Calls Tryd.prog 38 #[.string (str (c :: m))] w fun e w' => e = .returned (tokV (textT (c :: m))) ∧ Ext w w' := by
  have hsz : (str (c :: m)).size = m.length + 1 := by rw [str_size]; rfl
  have HT := hide (text_spec c m)
  go_enter Tryd.func38, Tryd.ntmps38
  go_wp2_with fail
  go_loopw [5, 6] (fun vb vi wr => ∃ (B : Option Addr) (cap : Nat) (b : List UInt8) (j : Nat), vb = .slice B b.length cap ∧ Own wr (w.heap.size + 1) 5 (.slice B b.length cap) b ∧ vi = .int .i64 ((j + 1 : Nat) : Int) ∧ j ≤ m.length ∧ b.length ≤ j ∧
      Hid (litL m = (litL (m.drop j)).map fun x => (b ++ x.1, j + x.2)) ∧ Blk wr w.heap.size 34 #[.int .i64 0, .string ⟨#[]⟩, .int .i64 0, .int .i64 0] ∧ Ext w wr) (fun _ vi _ => m.length + 1 - (intOf vi).toNat)
  case atStart =>
    refine ⟨none, 0, [], 0, rfl, Own.nil_ _ _ _, rfl, Nat.zero_le _, Nat.zero_le _, hide ?_, Blk.new w _ _, Ext.alloc w _⟩
    cases h : litL m <;> simp [h]
  case round =>
    obtain ⟨B, cap, b, j, rfl, hown, rfl, hj, hbj, HL, hblk, hx⟩ := hrel
    have HO := hide hown
    have HB := hide hblk
    have HX := hide hx
    have hbc := hblk.cell
    have hbf := hblk.frozen
    have hzb := hblk.lt
    clear hown hblk hx
    have hjc : ((j + 1 : Nat) : Int) = (j : Int) + 1 := by omega
    rw [hjc]
    by_cases hlt : j < m.length
    · have hjs : j + 1 < (str (c :: m)).size := by rw [hsz]; omega
      have hg : (str (c :: m))[j + 1] = m[j] := rfl
      have hlt' : (j : Int) + 1 < m.length + 1 := by omega
      by_cases h34 : m[j] = 34
      · have hR : litL m = some (b, j + 1) := by rw [HL.out, lit_drop_end hlt h34]; simp
        rw [h34] at hg
        by_cases h128 : 128 < b.length
        · have HR := hide (show textT (c :: m) = .error 6 by rw [HT.out, hR]; simp only; rw [if_pos h128])
          have h128' : (128 : Int) < b.length := by omega
          clear h34 hR HT HL
          go_wp2_with fail
          have hset := (HB.out.put4 (.int .i64 0) (.string ⟨#[]⟩) (.int .i64 0) (.int .i64 0)).cell
          exact bodyPost_ret (v := tokV (.error 6)) (by simp [results, Tryd.results38, go_sem, tokV, hset]) rfl ⟨by rw [HR.out], HX.out.put4 (Nat.le_refl _) _ _ _ _⟩
        · have HR := hide (show textT (c :: m) = .ok ((4, b, 0), j + 1 + 1) by rw [HT.out, hR]; simp only; rw [if_neg h128])
          have h128' : ¬ (128 : Int) < b.length := by omega
          have hcv := HO.out.sl.2.convert (P := Tryd.prog) (src := 48) (dst := 9) Tryd.underlying48 Tryd.underlying5 Tryd.underlying9
          clear h34 hR HT HL
          go_wp2_with fail
          have hset := (HB.out.put4 (.int .i64 4) (.string (str b)) (.int .i64 0) (.int .i64 0)).cell
          exact bodyPost_ret (v := tokV (.ok ((4, b, 0), j + 1 + 1))) (by simp [results, Tryd.results38, go_sem, tokV, hset]) rfl ⟨by rw [HR.out], HX.out.put4 (Nat.le_refl _) _ _ _ _⟩
      · have hgb : ((m[j].toNat : Int) == 34) = false := (u8_eqI m[j] 34 (by omega)).trans (beq_eq_false_iff_ne.2 h34)
        have hgb2 : ((m[j].toNat : Int) != 34) = true := by rw [bne, hgb]; rfl
        have hex : (str (c :: m)).extract (j + 1) (m.length + 1) = str (m.drop j) := by
          have := str_extract (c :: m) (j + 1) (m.length + 1)
          rw [List.take_of_length_le (by simp)] at this
          exact this
        have HEL := hide (fun w => elem_any (m.drop j) w (by rw [List.length_drop]; omega))
        obtain ⟨hle1, hle2⟩ := elemL_le (m.drop j)
        rw [List.length_drop] at hle1
        have HBD := hide (fun h => lit_drop_bad (m := m) hlt h34 h)
        have HST := hide (fun h => lit_drop_step (m := m) hlt h34 h)
        generalize hv : (elemL (m.drop j)).1 = v at *
        generalize hn : (elemL (m.drop j)).2 = n at *
        generalize m[j] = d at *
        have HN := hide hn
        have hvb := v.toNat_lt
        have hvb' : (v.toNat : Int) < 256 := by omega
        clear hv hn h34
        generalize hdr : m.drop j = mj at *
        have HDR := hide hdr
        clear hdr
        by_cases hn0 : n = 0
        · have HR := hide (show textT (c :: m) = .error 3 by rw [HT.out, HL.out, HBD.out hn0]; rfl)
          subst hn0
          clear HT HL HBD HST
          go_wp2_with (go_at_call 50; refine (HEL.out _).mono ?_; rintro e w1 ⟨rfl, hE⟩; have HB := hide (HB.out.ext hE); have HE := hide (HX.out.trans hE); clear hE hbc hbf; have hbc := HB.out.cell; have hbf := HB.out.frozen)
          have hset := (HB.out.put4 (.int .i64 0) (.string ⟨#[]⟩) (.int .i64 0) (.int .i64 0)).cell
          exact bodyPost_ret (v := tokV (.error 3)) (by simp [results, Tryd.results38, go_sem, tokV, hset]) rfl ⟨by rw [HR.out], HE.out.put4 (Nat.le_refl _) _ _ _ _⟩
        · have hnb : ((n : Int) == 0) = false := by simp [hn0]
          have hn1 : 1 ≤ n := by omega
          have HL2 := hide (show litL m = (litL (m.drop (j + n))).map fun x => ((b ++ [v]) ++ x.1, (j + n) + x.2) by
            rw [HL.out, HST.out hn0, Option.map_map]
            congr 1
            funext x
            simp [Nat.add_assoc])
          clear HT HL HBD HST hn0
          go_wp2_with (first
            | (go_at_call 50; refine (HEL.out _).mono ?_; rintro e w1 ⟨rfl, hE⟩; have HO1 := hide (HO.out.ext (hE.alloc' (.cells #[.int .u8 (v.toNat : Int)] 5))); have HB1 := hide (HB.out.ext (hE.alloc' (.cells #[.int .u8 (v.toNat : Int)] 5))); have HE1 := hide (HX.out.trans (hE.alloc' (.cells #[.int .u8 (v.toNat : Int)] 5))); have hz1 := hE.size; clear hE hbc hbf)
            | (at_builtin; refine wpList_appendB bt rfl _ _ rfl (w.heap.size + 1) (.slice B b.length cap) b rfl HO1.out (some ⟨w1.heap.size, 0, none⟩) 1 [v] rfl (Sl.one w1 v) (by simp; omega) (by simp; omega) ?_; intro A3 c3 w3 ho3 hg3 _; have HO3 := hide ho3; have HG3 := hide hg3; clear ho3 hg3))
          go_roundw
          case rel =>
            have hrow := fun k hk => (World.ownsRow.lt HO1.out k hk).1
            have hx3 := HE1.out.grown HG3.out (fun k hk => by have := hrow k hk; omega)
            have hb3 := HB1.out.grown HG3.out (fun e => by have := hrow _ e.symm; omega)
            refine ⟨A3, c3, b ++ [v], j + n, by rw [List.length_append]; rfl, ?_, by go_num, by omega, by rw [List.length_append]; simp; omega, HL2, hb3, hx3⟩
            rw [List.length_append]
            exact HO3.out
          case measure => simp [intOf]; omega
    · have hmj : m.drop j = [] := List.drop_of_length_le (by omega)
      have HR := hide (show textT (c :: m) = .error 3 by rw [HT.out, HL.out, hmj]; rfl)
      have hlt' : ¬ (j : Int) + 1 < m.length + 1 := by omega
      clear HT HL hmj
      go_wp2_with fail
      have hset := (HB.out.put4 (.int .i64 0) (.string ⟨#[]⟩) (.int .i64 0) (.int .i64 0)).cell
      exact bodyPost_ret (v := tokV (.error 3)) (by simp [results, Tryd.results38, go_sem, tokV, hset]) rfl ⟨by rw [HR.out], HX.out.put4 (Nat.le_refl _) _ _ _ _⟩
theorem ones_idx (c : UInt8) : 0 ≤ Lib.indexByte ones c ↔ ones.contains c = true := by
  rcases idx_mem c ones with ⟨h1, h2⟩ | ⟨h1, h2⟩
  · rw [h1, h2]; simp
  · rw [h2]; simp [h1]
theorem two_take (a b : UInt8) (l : List UInt8) : ([a, b] : List UInt8).isPrefixOf l = (l.take 2 == [a, b]) := by
  match l with
  | [] => rfl
  | [c] => simp [List.isPrefixOf]
  | c :: d :: r =>
    simp only [List.isPrefixOf, Bool.and_true, List.take_succ_cons, List.take_zero]
    rw [show (a == c) = (c == a) from BEq.comm, show (b == d) = (d == b) from BEq.comm]
    simp
def pfx (i : Nat) (l : List UInt8) : Bool := (two.getD i []).isPrefixOf l
theorem two_ways (l : List UInt8) : two.contains (l.take 2) = (pfx 0 l || pfx 1 l || pfx 2 l || pfx 3 l || pfx 4 l || pfx 5 l) := by
  unfold pfx two
  simp only [List.getD_cons_zero, List.getD_cons_succ, two_take, List.contains_cons, List.contains_nil, Bool.or_false, Bool.or_assoc]
theorem pfx_take {i : Nat} {l : List UInt8} (hi : i < 6) (h : pfx i l = true) : l.take 2 = two.getD i [] := by
  unfold pfx two at h
  unfold two
  have hc : i = 0 ∨ i = 1 ∨ i = 2 ∨ i = 3 ∨ i = 4 ∨ i = 5 := by omega
  rcases hc with rfl | rfl | rfl | rfl | rfl | rfl <;> (simp only [List.getD_cons_zero, List.getD_cons_succ, two_take] at h ⊢; exact beq_iff_eq.1 h)
end Go.Proofs.YtbfjopknhlnbcaaDoor
