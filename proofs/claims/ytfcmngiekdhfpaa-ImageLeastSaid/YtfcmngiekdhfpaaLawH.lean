/-
  The walk of ImageLeast.
-/
import Derived.Test.YtfcmngiekdhfpaaLawG
namespace Go.Proofs.Ytfcmngiekdhfpaa
open Go.RowKit
set_option linter.unusedVariables false

theorem ordOk_pair {len : Int} : ∀ {cs : List Chg} {last : Int}, ordOk len last cs = true → cs.Pairwise fun c d => c.1 < d.1
  | [], _, _ => .nil
  | c :: l, last, h => by
    obtain ⟨h1, h2, h3, h4⟩ := ordOk_head h
    exact .cons (fun d hd => (ordOk_above h4 d hd).1) (ordOk_pair h4)
def less (cs : List Chg) (k : Nat) : List Chg := cs.take k ++ cs.drop (k + 1)
theorem less_length (cs : List Chg) (k : Nat) (h : k < cs.length) : (less cs k).length = k + (cs.length - (k + 1)) := by
  unfold less; rw [List.length_append, List.length_take, List.length_drop]; omega
theorem less_at (cs : List Chg) (k : Nat) (h : k < cs.length) (i : Nat) (hi : i < (less cs k).length) : ∃ j, ∃ hj : j < cs.length, (less cs k)[i]? = some cs[j] ∧ j = if i < k then i else i + 1 := by
  rw [less_length cs k h] at hi
  unfold less
  rw [List.getElem?_append, List.length_take]
  split
  · rename_i h1
    exact ⟨i, by omega, by rw [List.getElem?_take, if_pos (by omega), List.getElem?_eq_getElem (by omega)], by rw [if_pos (by omega)]⟩
  · rename_i h1
    refine ⟨i + 1, by omega, ?_, by rw [if_neg (by omega)]⟩
    rw [List.getElem?_drop, show k + 1 + (i - min k cs.length) = i + 1 from by omega, List.getElem?_eq_getElem (by omega)]
theorem less_sub (cs : List Chg) (k : Nat) : ∀ c ∈ less cs k, c ∈ cs := fun c h => by
  rcases List.mem_append.1 h with h | h
  · exact List.mem_of_mem_take h
  · exact List.mem_of_mem_drop h
theorem least_plain (a b : List UInt8) (hb : b.length ≤ 24000) (k : Nat) (hk : k < (diffL a b).length) (hv : validP b.length (less (diffL a b) k) a.length = true) : applied a b.length (less (diffL a b) k) ≠ b := by
  intro e
  have ho : ordOk b.length (-1) (diffL a b) = true := diffTo_ord a b _ (Nat.le_refl _)
  have hp := ordOk_pair ho
  rw [List.pairwise_iff_getElem] at hp
  obtain ⟨q1, q2, q3⟩ := ordOk_above ho _ (List.getElem_mem hk)
  obtain ⟨p, hpp⟩ := Int.eq_ofNat_of_zero_le (show 0 ≤ (diffL a b)[k].1 by omega)
  have hpc : p < cntN b.length := by have := cntN_cast b.length; omega
  have hfalse : fb (less (diffL a b) k) p = false := fb_none _ _ fun c hc => by
    obtain ⟨i, hi, rfl⟩ := List.mem_iff_getElem.1 hc
    obtain ⟨j, hj, e1, e2⟩ := less_at _ _ hk i hi
    rw [List.getElem?_eq_getElem hi] at e1
    injection e1 with e1
    rw [e1]
    split at e2
    · have := hp j k (by omega) hk (by omega); omega
    · have := hp k j hk (by omega) (by omega); omega
  obtain ⟨v1, v2, v3, v4, v5⟩ := validP_parts hv
  rw [show (cnt b.length).toNat = cntN b.length from rfl] at v5
  have hpage := applied_page a b.length _ v4 v5 p hpc
  rw [hfalse, e] at hpage
  simp only [Bool.false_eq_true, if_false] at hpage
  have hmem : fb (diffL a b) p = true := by
    cases hf : fb (diffL a b) p with
    | true => rfl
    | false =>
      exfalso
      have : ∀ cs : List Chg, fb cs p = false → ∀ c ∈ cs, c.1 ≠ (p : Int) := by
        intro cs
        induction cs with
        | nil => intro _ c hc; cases hc
        | cons d l ih =>
          intro h c hc
          simp only [fb] at h
          split at h
          · cases h
          · rename_i hne
            rcases List.mem_cons.1 hc with rfl | hc
            · exact hne
            · exact ih h c hc
      exact this _ hf _ (List.getElem_mem hk) hpp
  unfold diffL at hmem
  rw [fb_diffTo] at hmem
  simp [hpage] at hmem

theorem wp_region_keep {P : Program} {ops : Array Oper} {id : Nat} {Q : Exit → Act → World → Prop} {a : Act} {w : World} (m f : Nat) (l : List Ent) (x c : Nat) (e : TypeId) (hm : P.follows .mixedOrders = true) (hok : okB ops m a.tmps.size = true)
    (hs : stabL Ext l) (hx : stabX x (KeepTo c w.heap.size e) l)
    (h : SeqW P ops f (tabOf l) (some x) (fun a b => Ext a b ∧ KeepTo c w.heap.size e a b) (KeepTo c w.heap.size e) w.drew (fun a Φ => ∀ w', KeepTo c w.heap.size e w.drew w' → (∀ p ∈ Φ, p.2 w') → wpList P ops Q (ops.toList.drop m) a w') (ops.toList.take m) 0 a []) : (Code.region id ops true).wp P Q a w :=
  wp_region_late m f (tabOf l) (some x) (fun a b => Ext a b ∧ KeepTo c w.heap.size e a b) (KeepTo c w.heap.size e) hm hok (fun a => ⟨Ext.refl a, Below.refl _ _, fun g cur hg => ⟨cur, hg, rfl, rfl⟩, fun g cur t _ hg => hg⟩) (fun _ _ _ => KeepTo.trans) (fun _ _ h => h.2)
    (fun _ _ _ h k => ⟨h.1.trans k.1, h.2.trans k.2⟩) (fun i Sh F ht v w w' hF hT => hs.out i Sh F ht v w w' hF hT.1) hx.out h

set_option maxRecDepth 100000 in
set_option maxHeartbeats 1000000 in
theorem least_law (A B : Option Addr) (ca cb : Nat) (a b : List UInt8) (t : Int) (w : World) (ha : Sl w A ca a) (hb : Sl w B cb b) (ht : 0 ≤ t ∧ t ≤ 255) :
    Calls Try.prog 8 #[.slice A a.length ca, .slice B b.length cb, .int .u8 t] w fun e w' => e = .returned (.bool true) ∧ Ext w w' := by
  have HA := hide ha
  have HB := hide hb
  have hma := ha.max
  have hla := ha.le
  have hmb := hb.max
  have hlb := hb.le
  unfold maxLen at hma hmb
  clear ha hb
  by_cases hl : 2000 < a.length
  · have hl' : (2000 : Int) < a.length := by omega
    go_enter Try.func8, Try.ntmps8
    go_wp2_with (go_at_call 14; refine (awake_any _).mono ?_; rintro e w1 ⟨rfl, hE1⟩)
    go_ret
    exact ⟨rfl, hE1⟩
  by_cases hm : 2000 < b.length
  · have hl' : ¬ (2000 : Int) < a.length := by omega
    have hm' : (2000 : Int) < b.length := by omega
    go_enter Try.func8, Try.ntmps8
    go_wp2_with (go_at_call 14; refine (awake_any _).mono ?_; rintro e w1 ⟨rfl, hE1⟩)
    go_ret
    exact ⟨rfl, hE1⟩
  have hl' : ¬ (2000 : Int) < a.length := by omega
  have hm' : ¬ (2000 : Int) < b.length := by omega
  obtain ⟨ht1, ht2⟩ := ht
  obtain ⟨q, rfl⟩ := Int.eq_ofNat_of_zero_le ht1
  have hdl := diffL_length a b
  have HDD := hide (diffL_data a b)
  have HLP := hide (least_plain a b (by omega))
  go_enter Try.func8, Try.ntmps8
  go_wp2_with (go_at_call 14; refine (awake_any _).mono ?_; rintro e w1 ⟨rfl, hE1⟩; have HE1 := hide hE1; clear hE1)
  refine (diff_any _ _ _ _ _ _ _ (HA.out.ext HE1.out) (HB.out.ext HE1.out) (by omega) (by omega)).mono ?_
  rintro e w2 ⟨C, c, rfl, hc, he⟩
  have HC := hide hc
  have HE2 := hide (HE1.out.trans he)
  clear hc he
  generalize diffL a b = cs at *
  by_cases h0 : cs.length = 0
  · have h0' : ((cs.length : Int) == 0) = true := by simp [h0]
    clear h0
    have hp := (Blk.new w2 29 #[.int .i64 b.length, .slice C cs.length c]).cell
    go_wp2_with fail
    go_ret
    exact ⟨rfl, HE2.out.trans (Ext.alloc w2 _)⟩
  have h0' : ((cs.length : Int) == 0) = false := by rw [beq_eq_false_iff_ne]; omega
  have hp := (Blk.new w2 29 #[.int .i64 b.length, .slice C cs.length c]).cell
  have hk : q % cs.length < cs.length := Nat.mod_lt _ (by omega)
  have hpos : 0 < cs.length := by omega
  go_wp2_with fail
  rw [show (q : Int) % (cs.length : Int) = ((q % cs.length : Nat) : Int) from by omega]
  generalize q % cs.length = k at *
  have hE3 := Ext.alloc w2 (.cells #[.int .i64 b.length, .slice C cs.length c] 29)
  have HP3 := hide (Blk.new w2 29 #[.int .i64 b.length, .slice C cs.length c])
  have HC3 := hide (HC.out.ext hE3)
  have HE3 := hide (HE2.out.trans hE3)
  clear hE3 hp HC HE1 HE2
  generalize hw3 : w2.alloc (.cells #[.int .i64 b.length, .slice C cs.length c] 29) = w3 at *
  have hz3 : w3.heap.size = w2.heap.size + 1 := by rw [← hw3]; exact World.size_alloc _ _
  clear hw3
  obtain ⟨bl, off, vs, rfl, hbl, hvl, hvc, hvs⟩ := HC3.out.vals (by intro e; rw [e] at hpos; simp at hpos)
  have hcc := HC3.out.le
  have hcm := HC3.out.max
  have HVC := hide hvc
  have HVS := hide hvs
  obtain ⟨ad, hX⟩ : ∃ ad, (if c = k + 1 then some (⟨bl, off, none⟩ : Addr) else some ⟨bl, off + (k + 1) * 2, none⟩) = some ad := by split <;> exact ⟨_, rfl⟩
  have HX := hide hX
  have HAD := hide (show 0 < cs.length - (k + 1) → ad = ⟨bl, off + (k + 1) * 2, none⟩ from fun h => by
    rw [if_neg (by omega)] at hX
    injection hX with hX
    exact hX.symm)
  have HW := hide (show IntKind.i64.wrap ((k : Int) + 1) = (k : Int) + 1 from by simp only [IntKind.wrap, IntKind.signed, IntKind.bits]; simp; omega)
  clear hvc hvs hX
  refine wp_region_keep 16 3 [(2, fun v => ∃ g, v = .slice (some ⟨g, 0, none⟩) 0 0, fun v w => w.ownsRow w3.heap.size 43 2 v 0 []),
    (7, fun v => ∃ g c, v = .slice (some ⟨g, 0, none⟩) k c, fun v w => w.ownsRow w3.heap.size 43 2 v k (vs.take (k * 2))),
    (13, ShSl (k + (cs.length - (k + 1))), fun v w => w.ownsRow w3.heap.size 43 2 v (k + (cs.length - (k + 1))) (vs.take (k * 2) ++ vs.drop ((k + 1) * 2))),
    (15, fun v => ∃ g, v = .pointer (some ⟨g, 0, none⟩), fun v w => ∃ g, v = .pointer (some ⟨g, 0, none⟩) ∧ w3.heap.size ≤ g ∧ Blk w g 29 #[.int .i64 0, .slice none 0 0])] 13 (k * 2) 43 mixed (by kernel_rfl)
    ⟨fun v w w' h hx => h.kept (hx.grownBy none) (by cases v.ownBlock <;> simp), fun v w w' h hx => h.kept (hx.grownBy none) (by cases v.ownBlock <;> simp), fun v w w' h hx => h.kept (hx.grownBy none) (by cases v.ownBlock <;> simp), fun v w w' ⟨g, h1, h2, h3⟩ hx => ⟨g, h1, h2, h3.ext hx⟩, trivial⟩
    ⟨.inr fun v w w' h hx => hx.row h (by omega), .inr fun v w w' h hx => hx.row h (by omega), .inl rfl, .inr fun v w w' ⟨g, h1, h2, h3⟩ hx => ⟨g, h1, h2, hx.blk (by decide) h3⟩, trivial⟩ ?_
  repeat ((refine seq_exact ?_ (by rfl) (by rfl) (fun w1 hU => ?_) ?_); (rotate_left 1); (focus (have h4 := (HP3.out.ext (Ext.un hU.1)).cell; have hw := HW.out; clear hU; go_simp; with_reducible rfl)); (simp only [Act.put, List.setIfInBounds_toArray, List.set_cons_zero, List.set_cons_succ]))
  refine seq_opaque _ _ (by rfl) rfl ⟨_, 0, rfl⟩ (by simp) (fun w5 hU _ K hK => ?_) ?_
  · go_simp
    have hz := Below.size hU.1
    have he := Ext.alloc w5 (.cells #[] 43)
    exact hK _ _ ⟨he, KeepTo.ofExt he hz⟩ ⟨_, rfl⟩ (World.ownsRow_made w5 #[] 0 (Nat.le_refl _) (by simp [maxLen]) (by simp) |> fun h => ⟨h.1, h.2.imp id fun ⟨g, cap, cur, h1, h2, h3⟩ => ⟨g, cap, cur, h1, Nat.le_trans hz h2, h3⟩⟩)
  rintro _ ⟨g5, rfl⟩
  simp only [Act.put, List.setIfInBounds_toArray, List.set_cons_zero, List.set_cons_succ]
  repeat ((refine seq_exact ?_ (by rfl) (by rfl) (fun w1 hU => ?_) ?_); (rotate_left 1); (focus (have h4 := (HP3.out.ext (Ext.un hU.1)).cell; have hw := HW.out; clear hU; go_simp; with_reducible rfl)); (simp only [Act.put, List.setIfInBounds_toArray, List.set_cons_zero, List.set_cons_succ]))
  refine seq_exact (.slice (some ⟨bl, off, none⟩) k c) (by rfl) (by rfl) (fun w5 hU => ?_) ?_
  · clear hU
    go_simp
    intro h
    omega
  simp only [Act.put, List.setIfInBounds_toArray, List.set_cons_zero, List.set_cons_succ]
  refine seq_opaque _ _ (by rfl) rfl ⟨_, 0, 0, rfl⟩ (by simp) (fun w5 hU hp K hK => ?_) ?_
  · have hs := hp _ (.head _) (by kernel_rfl)
    have hz := Below.size hU.1
    refine wp_appendRow ct _ _ rfl w3.heap.size _ 0 0 [] rfl hs ⟨bl, off, none⟩ k c (vs.take (k * 2)) rfl (by rw [List.length_take]; omega) (fun j u hj => ?_) (fun u hu => ?_) (by omega) hz fun g' cap' w' h1 h2 h3 => ?_
    · rw [Addr.add_lit]
      rw [List.getElem?_take] at hj
      split at hj
      · exact ((Ext.un hU.1).cell _ _ hbl).trans (HVC.out j u hj).1
      · cases hj
    · obtain ⟨j, hj⟩ := List.mem_iff_getElem?.1 (List.mem_of_mem_take hu)
      exact (HVC.out j u hj).2
    · rw [Nat.zero_add] at h1 ⊢
      have he := h3 rfl
      exact hK _ _ ⟨he, KeepTo.ofExt he hz⟩ ⟨g', cap', rfl⟩ h1
  rintro _ ⟨g6, c6, rfl⟩
  simp only [Act.put, List.setIfInBounds_toArray, List.set_cons_zero, List.set_cons_succ]
  repeat ((refine seq_exact ?_ (by rfl) (by rfl) (fun w1 hU => ?_) ?_); (rotate_left 1); (focus (have h4 := (HP3.out.ext (Ext.un hU.1)).cell; have hw := HW.out; clear hU; go_simp; with_reducible rfl)); (simp only [Act.put, List.setIfInBounds_toArray, List.set_cons_zero, List.set_cons_succ]))
  refine seq_exact (.slice (some ad) (cs.length - (k + 1)) (c - (k + 1))) (by rfl) (by rfl) (fun w5 hU => ?_) ?_
  · clear hU
    go_simp
    rw [if_pos ⟨by omega, by omega⟩, HX.out]
  simp only [Act.put, List.setIfInBounds_toArray, List.set_cons_zero, List.set_cons_succ]
  refine seq_late _ _ (by rfl) rfl ⟨_, none, 0, rfl⟩ rfl (fun w5 hT hp K hK => ?_) ?_
  · have hs := hp _ (.head _) (by kernel_rfl)
    have hz := Below.size hT.2.1
    refine wp_appendRow ct _ _ rfl w3.heap.size _ k c6 _ rfl hs ad _ _ (vs.drop ((k + 1) * 2)) rfl (by rw [List.length_drop]; omega) (fun j u hj => ?_) (fun u hu => ?_) (by omega) hz fun g' cap' w' h1 h2 h3 => ?_
    · have hm : 0 < cs.length - (k + 1) := by
        have := (List.getElem?_eq_some_iff.1 hj).1
        rw [List.length_drop] at this
        omega
      rw [HAD.out hm, Addr.add_lit]
      rw [List.getElem?_drop] at hj
      rw [show off + (k + 1) * 2 + j = off + ((k + 1) * 2 + j) from by omega]
      exact (((Ext.un hT.2.1).cell) _ _ hbl).trans (HVC.out _ u hj).1
    · obtain ⟨j, hj⟩ := List.mem_iff_getElem?.1 (List.mem_of_mem_drop hu)
      exact (HVC.out j u hj).2
    · exact hK _ _ h2 ⟨_, cap', rfl⟩ h1
  rintro _ ⟨C6, c7, rfl⟩
  simp only [Act.put, List.setIfInBounds_toArray, List.set_cons_zero, List.set_cons_succ]
  repeat ((refine seq_exact ?_ (by rfl) (by rfl) (fun w1 hU => ?_) ?_); (rotate_left 1); (focus (have h4 := (HP3.out.ext (Ext.un hU.1)).cell; have hw := HW.out; clear hU; go_simp; with_reducible rfl)); (simp only [Act.put, List.setIfInBounds_toArray, List.set_cons_zero, List.set_cons_succ]))
  refine seq_opaque _ _ (by rfl) rfl ⟨_, 0, rfl⟩ (by simp) (fun w5 hU _ K hK => ?_) ?_
  · have hz := Below.size hU.1
    go_simp
    have he := Ext.alloc w5 (.cells #[.int .i64 0, .slice none 0 0] 29)
    exact hK _ _ ⟨he, KeepTo.ofExt he hz⟩ ⟨_, rfl⟩ ⟨_, rfl, hz, Blk.new w5 _ _⟩
  rintro _ ⟨g8, rfl⟩
  simp only [Act.put, List.setIfInBounds_toArray, List.set_cons_zero, List.set_cons_succ]
  intro w9 hw9 hp
  obtain ⟨_, e8, hg8, hb8⟩ := hp _ (.head _)
  injection e8 with e8
  injection e8 with e8
  injection e8 with e8
  subst e8
  have ho9 := hp _ (.tail _ (.head _))
  simp only [List.drop_succ_cons, List.drop_zero]
  have hb9 := hw9.blk (t := 29) (by decide) (show Blk w3.drew w2.heap.size 29 _ from HP3.out)
  have hc8 := hb8.cell
  have hf8 := hb8.frozen
  have he9 := Ext.un hw9.1
  have HE9 := hide he9
  have HO9 := hide ho9
  have HB8 := hide hb8
  have hz9 := hb8.lt
  clear hp he9 ho9 hb8 hb9 hw9
  go_wp2_with fail
  have HVL : Hid (∀ i, (hi : i < (less cs k).length) → ∃ Ai ci, (vs.take (k * 2) ++ vs.drop ((k + 1) * 2))[i * 2]? = some (.int .i64 (less cs k)[i].1) ∧
      (vs.take (k * 2) ++ vs.drop ((k + 1) * 2))[i * 2 + 1]? = some (.slice Ai (less cs k)[i].2.length ci) ∧ Sl w3 Ai ci (less cs k)[i].2) := hide fun i hi => by
    obtain ⟨j, hj, e1, e2⟩ := less_at cs k hk i hi
    rw [List.getElem?_eq_getElem hi] at e1
    injection e1 with e1
    rw [e1]
    obtain ⟨Ai, ci, h1, h2, h3⟩ := HVS.out j hj
    have lk : ∀ x, x < 2 → (vs.take (k * 2) ++ vs.drop ((k + 1) * 2))[i * 2 + x]? = vs[j * 2 + x]? := fun x hx => by
      rw [List.getElem?_append, List.length_take, Nat.min_eq_left (by omega)]
      split
      · rename_i hlt
        rw [if_pos (by omega)] at e2
        rw [List.getElem?_take, if_pos hlt, e2]
      · rename_i hlt
        rw [if_neg (by omega)] at e2
        rw [List.getElem?_drop]
        congr 1
        omega
    exact ⟨Ai, ci, (lk 0 (by omega)).trans h1, (lk 1 (by omega)).trans h2, h3⟩
  have grown_set : ∀ (w : World) (p : Addr) (u : Value), w.grownBy (w.setCell p u) (some p.block) := fun w p u => ⟨rfl, rfl, rfl, by simp [World.setCell], fun k _ hk => Below.heap_setCell w p u k (fun e => hk (by rw [e]))⟩
  have hne : Value.ownBlock (.slice C6 (k + (cs.length - (k + 1))) c7) = none ∨ Value.ownBlock (.slice C6 (k + (cs.length - (k + 1))) c7) ≠ some g8 := by
    rcases HO9.out.2 with ⟨h1, _⟩ | ⟨g, _, _, h1, _, h3, _⟩
    · rw [h1]; exact .inl rfl
    · refine .inr fun e => ?_
      rw [h1] at e
      injection e with e
      simp only at e
      subst e
      have := HB8.out
      unfold Blk at this
      rw [this] at h3
      injection h3 with h3
      injection h3 with _ h3
      exact absurd h3 (by decide)
  have ho10 := (HO9.out.kept (grown_set w9 ⟨g8, 0, none⟩ (.int .i64 b.length)) hne).kept (grown_set _ ⟨g8, 1, none⟩ (.slice C6 (k + (cs.length - (k + 1))) c7)) hne
  have hx10 := (HE9.out.set (p := ⟨g8, 0, none⟩) hg8 (.int .i64 b.length)).set (p := ⟨g8, 1, none⟩) hg8 (.slice C6 (k + (cs.length - (k + 1))) c7)
  have hch := chs_of_row ho10 hx10 (less_length cs k hk).symm HVL.out
  have hll := less_length cs k hk
  rw [← hll] at hch hx10 ⊢
  have hdd : ∀ c ∈ less cs k, c.2.length ≤ 65536 := fun c hc => HDD.out c (less_sub cs k c hc)
  have hx := HE3.out.trans hx10
  by_cases hv : validP b.length (less cs k) a.length = true
  · refine (apply_good b.length A ca a C6 c7 (less cs k) _ (HA.out.ext hx) hch (by omega) hdd hv).mono ?_
    rintro e w11 ⟨D, rfl, hd, he⟩
    have hne := HLP.out k hk hv
    obtain ⟨r, hr⟩ : ∃ r, applied a b.length (less cs k) = r := ⟨_, rfl⟩
    rw [hr] at hd hne
    have HX := hide (hx.trans he)
    have HR := hide hd.le
    have hrl := applied_length a b.length (less cs k) (validP_parts hv).2.2.2.1
    rw [hr] at hrl
    have H2 := (HB.out.ext HX.out).convert (P := Try.prog) (src := 22) (dst := 9) Try.underlying22 Try.underlying5 Try.underlying9
    have H3 := hd.convert (P := Try.prog) (src := 22) (dst := 9) Try.underlying22 Try.underlying5 Try.underlying9
    rw [hrl] at H3
    have hbe : (r == b) = false := by simp [hne]
    have hbn : (r != b) = true := by simp [hne]
    clear hd he hv hdd hx hch hx10 ho10 hne grown_set HVL HLP hc8 hf8 hrl hr
    go_wp2_with fail
    go_ret
    exact ⟨ret_bool (by simp), HX.out⟩
  · refine (apply_bad b.length A ca a C6 c7 (less cs k) _ (HA.out.ext hx) hch (by omega) hdd (by simpa using hv)).mono ?_
    rintro e w11 ⟨rfl, he⟩
    have HX := hide (hx.trans he)
    clear he hv hdd hx hch hx10 ho10 grown_set HVL HLP hc8 hf8
    go_wp2_with fail
    go_ret
    exact ⟨rfl, HX.out⟩
end Go.Proofs.Ytfcmngiekdhfpaa
