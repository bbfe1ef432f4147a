/-
  Input of the program and of the reference; FaultInput.
-/
import Derived.Test.YtfjddphjjhhjpaaDoorFauG
namespace Go.Proofs.YtfjddphjjhhjpaaDoor
open Go.RowKit
set_option linter.unusedVariables false

/-- What Input returns. -/
def inA (x : Pl) (ex : Int) (a b : List UInt8) : List UInt8 := if validPl x = true ∧ x.e = ex ∧ x.k = 4 then changeL a x.p x.m else a
def inB' (x : Pl) (ex : Int) (a b : List UInt8) : List UInt8 := if validPl x = true ∧ x.e = ex ∧ x.k = 5 then changeL b x.p x.m else b
theorem inA_length (x : Pl) (ex : Int) (a b : List UInt8) : (inA x ex a b).length = a.length := by unfold inA; split <;> simp [changeL_length]
theorem inB_length (x : Pl) (ex : Int) (a b : List UInt8) : (inB' x ex a b).length = b.length := by unfold inB'; split <;> simp [changeL_length]
theorem flip_place {x : Pl} (h : validPl x = true) (hk : x.k = 4 ∨ x.k = 5) : x.p ≤ 9223372036854775807 := by
  rcases valid_ways h with h | ⟨_, _, h⟩
  · subst h; decide
  · omega
theorem clone_at (A : Option Addr) (cap : Nat) (l : List UInt8) (n : Nat) (hn : l.length = n) (w : World) (h : Sl w A cap l) (hl : n ≤ 1048576) :
    Calls Tryd.prog 46 #[.slice A n cap] w fun e w' => (∃ A' c', e = .returned (.slice A' n c') ∧ Sl w' A' c' l) ∧ Ext w w' := by
  subst hn
  refine (clone_any A cap l w h hl).mono ?_
  rintro e w' ⟨A', c', rfl, h, he⟩
  exact ⟨⟨A', c', rfl, h.sl.2⟩, he⟩
/-- The ending of Input. -/
def InP (n k : Nat) (a b : List UInt8) (e : Ending) (w' : World) : Prop := ∃ A c B d, e = .returned (.tuple #[.slice A n c, .slice B k d]) ∧ Sl w' A c a ∧ Sl w' B d b
set_option maxRecDepth 100000 in
set_option maxHeartbeats 4000000 in
theorem input_any (x : Pl) (ex : Int) (A B : Option Addr) (ca cb : Nat) (a b : List UInt8) (n k : Nat) (hn : a.length = n) (hk : b.length = k) (w : World) (ha : Sl w A ca a) (hb : Sl w B cb b) (hn1 : n ≤ 1048576) (hk1 : k ≤ 1048576) :
    Calls Tryd.prog 19 #[.agg #[.int .i64 x.c, .int .i64 x.n, .int .i64 x.e, .int .i64 x.k, .int .i64 x.s, .int .i64 x.p, .int .i64 x.m], .int .i64 ex, .slice A n ca, .slice B k cb] w fun e w' => InP n k (inA x ex a b) (inB' x ex a b) e w' ∧ Ext w w' := by
  have HV := hide (fvalid_any x)
  have HBL := hide (Blk.new w 28 #[.int .i64 x.c, .int .i64 x.n, .int .i64 x.e, .int .i64 x.k, .int .i64 x.s, .int .i64 x.p, .int .i64 x.m])
  have HX := hide (Ext.alloc w (.cells #[.int .i64 x.c, .int .i64 x.n, .int .i64 x.e, .int .i64 x.k, .int .i64 x.s, .int .i64 x.p, .int .i64 x.m] 28))
  have HEM := hide (show EmB (w.heap.size + 1) 5 (.slice (some ⟨w.heap.size + 1, 0, none⟩) 0 0) ((w.alloc (.cells #[.int .i64 x.c, .int .i64 x.n, .int .i64 x.e, .int .i64 x.k, .int .i64 x.s, .int .i64 x.p, .int .i64 x.m] 28)).alloc (.cells #[] 5)) from by have := EmB.new (w.alloc (.cells #[.int .i64 x.c, .int .i64 x.n, .int .i64 x.e, .int .i64 x.k, .int .i64 x.s, .int .i64 x.p, .int .i64 x.m] 28)) 5 (Nat.le_refl _); rwa [World.size_alloc] at this)
  have HN := hide hn
  have HK := hide hk
  have HA := hide (ha.ext HX.out)
  have HB := hide (hb.ext HX.out)
  clear hn hk ha hb
  have HI := hide (show ¬ (validPl x = true ∧ x.e = ex ∧ (x.k = 4 ∨ x.k = 5)) → inA x ex a b = a ∧ inB' x ex a b = b from fun h => by
    unfold inA inB'
    exact ⟨if_neg fun g => h ⟨g.1, g.2.1, .inl g.2.2⟩, if_neg fun g => h ⟨g.1, g.2.1, .inr g.2.2⟩⟩)
  cases hv : validPl x with
  | false =>
    have HF := hide (HI.out (by rw [hv]; simp))
    rw [hv] at HV
    clear hv HI
    go_enter Tryd.func19, Tryd.ntmps19
    go_wp2_with (first
      | (go_at_call 46; refine (clone_at A ca a n HN.out _ HA.out hn1).mono ?_; rintro e w1 ⟨⟨A1, c1, rfl, h1⟩, hE1⟩; have HA1 := hide h1; have HX1 := hide (HX.out.trans hE1); have HB1 := hide (HB.out.ext hE1); have HL1 := hide (HBL.out.ext hE1); clear h1 hE1 HA HBL)
      | (go_at_call 46; refine (clone_at B cb b k HK.out _ HB1.out hk1).mono ?_; rintro e w2 ⟨⟨A2, c2, rfl, h2⟩, hE2⟩; have HB2 := hide h2; have HX2 := hide (HX1.out.trans hE2); have HA2 := hide (HA1.out.ext hE2); have HL2 := hide (HL1.out.ext hE2); have hbc := HL2.out.cell; clear h2 hE2 HB1 HL1)
      | (go_at_call 13; refine (HV.out _).mono ?_; rintro e w3 ⟨rfl, hE3⟩; have HA3 := hide (HA2.out.ext hE3); have HB3 := hide (HB2.out.ext hE3); have HX3 := hide (HX2.out.trans hE3); clear hbc; have hbc := (HL2.out.ext hE3).cell; clear hE3))
    go_ret2
    exact ⟨⟨_, _, _, _, rfl, by rw [HF.out.1]; exact HA3.out, by rw [HF.out.2]; exact HB3.out⟩, HX3.out⟩
  | true =>
    rw [hv] at HV
    cases he : (x.e == ex) with
    | false =>
      have hen : (x.e != ex) = true := by rw [bne, he]; rfl
      have HF := hide (HI.out (by rintro ⟨_, h, _⟩; rw [h] at he; simp at he))
      clear hv HI
      go_enter Tryd.func19, Tryd.ntmps19
      go_wp2_with (first
        | (go_at_call 46; refine (clone_at A ca a n HN.out _ HA.out hn1).mono ?_; rintro e w1 ⟨⟨A1, c1, rfl, h1⟩, hE1⟩; have HA1 := hide h1; have HX1 := hide (HX.out.trans hE1); have HB1 := hide (HB.out.ext hE1); have HL1 := hide (HBL.out.ext hE1); clear h1 hE1 HA HBL)
        | (go_at_call 46; refine (clone_at B cb b k HK.out _ HB1.out hk1).mono ?_; rintro e w2 ⟨⟨A2, c2, rfl, h2⟩, hE2⟩; have HB2 := hide h2; have HX2 := hide (HX1.out.trans hE2); have HA2 := hide (HA1.out.ext hE2); have HL2 := hide (HL1.out.ext hE2); have hbc := HL2.out.cell; clear h2 hE2 HB1 HL1)
        | (go_at_call 13; refine (HV.out _).mono ?_; rintro e w3 ⟨rfl, hE3⟩; have HA3 := hide (HA2.out.ext hE3); have HB3 := hide (HB2.out.ext hE3); have HX3 := hide (HX2.out.trans hE3); clear hbc; have hbc := (HL2.out.ext hE3).cell; clear hE3))
      go_ret2
      exact ⟨⟨_, _, _, _, rfl, by rw [HF.out.1]; exact HA3.out, by rw [HF.out.2]; exact HB3.out⟩, HX3.out⟩
    | true =>
      have hen : (x.e != ex) = false := by rw [bne, he]; rfl
      by_cases h4 : x.k = 4
      · have h4b : (x.k == 4) = true := by simp [h4]
        have h5b : (x.k == 5) = false := by simp [h4]
        have HPL := hide (flip_place hv (.inl h4))
        have HF := hide (show inA x ex a b = changeL a x.p x.m ∧ inB' x ex a b = b from ⟨by unfold inA; rw [if_pos ⟨hv, beq_iff_eq.1 he, h4⟩], by unfold inB'; rw [if_neg (by rintro ⟨_, _, h⟩; omega)]⟩)
        clear hv h4 HI
        go_enter Tryd.func19, Tryd.ntmps19
        go_wp2_with (first
          | (go_at_call 46; refine (clone_at A ca a n HN.out _ HA.out hn1).mono ?_; rintro e w1 ⟨⟨A1, c1, rfl, h1⟩, hE1⟩; have HA1 := hide h1; have HX1 := hide (HX.out.trans hE1); have HB1 := hide (HB.out.ext hE1); have HL1 := hide (HBL.out.ext hE1); clear h1 hE1 HA HBL)
          | (go_at_call 46; refine (clone_at B cb b k HK.out _ HB1.out hk1).mono ?_; rintro e w2 ⟨⟨A2, c2, rfl, h2⟩, hE2⟩; have HB2 := hide h2; have HX2 := hide (HX1.out.trans hE2); have HA2 := hide (HA1.out.ext hE2); have HL2 := hide (HL1.out.ext hE2); have hbc := HL2.out.cell; clear h2 hE2 HB1 HL1)
          | (go_at_call 13; refine (HV.out _).mono ?_; rintro e w3 ⟨rfl, hE3⟩; have HA3 := hide (HA2.out.ext hE3); have HB3 := hide (HB2.out.ext hE3); have HX3 := hide (HX2.out.trans hE3); clear hbc; have hbc := (HL2.out.ext hE3).cell; clear hE3)
          | (go_at_call 17; refine (change_at A1 c1 a n HN.out x.p x.m _ HA3.out hn1 HPL.out).mono ?_; rintro e w4 ⟨⟨A4, c4, rfl, h4⟩, hE4⟩; have HA4 := hide h4; have HB4 := hide (HB3.out.ext hE4); have HX4 := hide (HX3.out.trans hE4); clear h4 hE4))
        go_ret2
        exact ⟨⟨_, _, _, _, rfl, by rw [HF.out.1]; exact HA4.out, by rw [HF.out.2]; exact HB4.out⟩, HX4.out⟩
      · have h4b : (x.k == 4) = false := by simp [h4]
        by_cases h5 : x.k = 5
        · have h5b : (x.k == 5) = true := by simp [h5]
          have HPL := hide (flip_place hv (.inr h5))
          have HF := hide (show inA x ex a b = a ∧ inB' x ex a b = changeL b x.p x.m from ⟨by unfold inA; rw [if_neg (by rintro ⟨_, _, h⟩; omega)], by unfold inB'; rw [if_pos ⟨hv, beq_iff_eq.1 he, h5⟩]⟩)
          clear hv h4 h5 HI
          go_enter Tryd.func19, Tryd.ntmps19
          go_wp2_with (first
            | (go_at_call 46; refine (clone_at A ca a n HN.out _ HA.out hn1).mono ?_; rintro e w1 ⟨⟨A1, c1, rfl, h1⟩, hE1⟩; have HA1 := hide h1; have HX1 := hide (HX.out.trans hE1); have HB1 := hide (HB.out.ext hE1); have HL1 := hide (HBL.out.ext hE1); clear h1 hE1 HA HBL)
            | (go_at_call 46; refine (clone_at B cb b k HK.out _ HB1.out hk1).mono ?_; rintro e w2 ⟨⟨A2, c2, rfl, h2⟩, hE2⟩; have HB2 := hide h2; have HX2 := hide (HX1.out.trans hE2); have HA2 := hide (HA1.out.ext hE2); have HL2 := hide (HL1.out.ext hE2); have hbc := HL2.out.cell; clear h2 hE2 HB1 HL1)
            | (go_at_call 13; refine (HV.out _).mono ?_; rintro e w3 ⟨rfl, hE3⟩; have HA3 := hide (HA2.out.ext hE3); have HB3 := hide (HB2.out.ext hE3); have HX3 := hide (HX2.out.trans hE3); clear hbc; have hbc := (HL2.out.ext hE3).cell; clear hE3)
            | (go_at_call 17; refine (change_at A2 c2 b k HK.out x.p x.m _ HB3.out hk1 HPL.out).mono ?_; rintro e w4 ⟨⟨A4, c4, rfl, h4⟩, hE4⟩; have HB4 := hide h4; have HA4 := hide (HA3.out.ext hE4); have HX4 := hide (HX3.out.trans hE4); clear h4 hE4))
          go_ret2
          exact ⟨⟨_, _, _, _, rfl, by rw [HF.out.1]; exact HA4.out, by rw [HF.out.2]; exact HB4.out⟩, HX4.out⟩
        · have h5b : (x.k == 5) = false := by simp [h5]
          have HF := hide (HI.out (by rintro ⟨_, _, h | h⟩ <;> omega))
          clear hv h4 h5 HI
          go_enter Tryd.func19, Tryd.ntmps19
          go_wp2_with (first
            | (go_at_call 46; refine (clone_at A ca a n HN.out _ HA.out hn1).mono ?_; rintro e w1 ⟨⟨A1, c1, rfl, h1⟩, hE1⟩; have HA1 := hide h1; have HX1 := hide (HX.out.trans hE1); have HB1 := hide (HB.out.ext hE1); have HL1 := hide (HBL.out.ext hE1); clear h1 hE1 HA HBL)
            | (go_at_call 46; refine (clone_at B cb b k HK.out _ HB1.out hk1).mono ?_; rintro e w2 ⟨⟨A2, c2, rfl, h2⟩, hE2⟩; have HB2 := hide h2; have HX2 := hide (HX1.out.trans hE2); have HA2 := hide (HA1.out.ext hE2); have HL2 := hide (HL1.out.ext hE2); have hbc := HL2.out.cell; clear h2 hE2 HB1 HL1)
            | (go_at_call 13; refine (HV.out _).mono ?_; rintro e w3 ⟨rfl, hE3⟩; have HA3 := hide (HA2.out.ext hE3); have HB3 := hide (HB2.out.ext hE3); have HX3 := hide (HX2.out.trans hE3); clear hbc; have hbc := (HL2.out.ext hE3).cell; clear hE3))
          go_ret2
          exact ⟨⟨_, _, _, _, rfl, by rw [HF.out.1]; exact HA3.out, by rw [HF.out.2]; exact HB3.out⟩, HX3.out⟩
set_option maxRecDepth 100000 in
set_option maxHeartbeats 4000000 in
theorem rinput_any (x : Pl) (ex : Int) (A B : Option Addr) (ca cb : Nat) (a b : List UInt8) (n k : Nat) (hn : a.length = n) (hk : b.length = k) (w : World) (ha : Sl w A ca a) (hb : Sl w B cb b) (hn1 : n ≤ 1048576) (hk1 : k ≤ 1048576) :
    Calls Tryd.prog 20 #[.agg #[.int .i64 x.c, .int .i64 x.n, .int .i64 x.e, .int .i64 x.k, .int .i64 x.s, .int .i64 x.p, .int .i64 x.m], .int .i64 ex, .slice A n ca, .slice B k cb] w fun e w' => InP n k (inA x ex a b) (inB' x ex a b) e w' ∧ Ext w w' := by
  have HV := hide (rvalid_any x)
  have HBL := hide (Blk.new w 23 #[.int .i64 x.c, .int .i64 x.n, .int .i64 x.e, .int .i64 x.k, .int .i64 x.s, .int .i64 x.p, .int .i64 x.m])
  have HX := hide (Ext.alloc w (.cells #[.int .i64 x.c, .int .i64 x.n, .int .i64 x.e, .int .i64 x.k, .int .i64 x.s, .int .i64 x.p, .int .i64 x.m] 23))
  have HEM := hide (show EmB (w.heap.size + 1) 5 (.slice (some ⟨w.heap.size + 1, 0, none⟩) 0 0) ((w.alloc (.cells #[.int .i64 x.c, .int .i64 x.n, .int .i64 x.e, .int .i64 x.k, .int .i64 x.s, .int .i64 x.p, .int .i64 x.m] 23)).alloc (.cells #[] 5)) from by have := EmB.new (w.alloc (.cells #[.int .i64 x.c, .int .i64 x.n, .int .i64 x.e, .int .i64 x.k, .int .i64 x.s, .int .i64 x.p, .int .i64 x.m] 23)) 5 (Nat.le_refl _); rwa [World.size_alloc] at this)
  have HN := hide hn
  have HK := hide hk
  have HA := hide (ha.ext HX.out)
  have HB := hide (hb.ext HX.out)
  clear hn hk ha hb
  have HI := hide (show ¬ (validPl x = true ∧ x.e = ex ∧ (x.k = 4 ∨ x.k = 5)) → inA x ex a b = a ∧ inB' x ex a b = b from fun h => by
    unfold inA inB'
    exact ⟨if_neg fun g => h ⟨g.1, g.2.1, .inl g.2.2⟩, if_neg fun g => h ⟨g.1, g.2.1, .inr g.2.2⟩⟩)
  cases hv : validPl x with
  | false =>
    have HF := hide (HI.out (by rw [hv]; simp))
    rw [hv] at HV
    clear hv HI
    go_enter Tryd.func20, Tryd.ntmps20
    go_wp2_with (first
      | (at_builtin; refine wpList_appendEN rfl _ _ rfl (w.heap.size + 1) _ rfl HEM.out A ca n a HN.out rfl (HA.out.ext (Ext.alloc _ _)) hn1 (by simp) ?_; intro A1 c1 w1 h1 hE1; have hE1 := (Ext.alloc _ _).trans hE1; have HA1 := hide h1; have HX1 := hide (HX.out.trans hE1); have HB1 := hide (HB.out.ext hE1); have HL1 := hide (HBL.out.ext hE1); clear h1 hE1 HA HBL)
      | (at_builtin; refine wpList_appendEN rfl _ _ rfl w1.heap.size _ rfl (EmB.new w1 5 (Nat.le_refl _)) B cb k b HK.out rfl (HB1.out.ext (Ext.alloc w1 _)) hk1 (by simp) ?_; intro A2 c2 w2 h2 hE2; have hE2 := (Ext.alloc w1 _).trans hE2; have HB2 := hide h2; have HX2 := hide (HX1.out.trans hE2); have HA2 := hide (HA1.out.ext hE2); have HL2 := hide (HL1.out.ext hE2); have hbc := HL2.out.cell; clear h2 hE2 HB1 HL1)
      | (go_at_call 14; refine (HV.out _).mono ?_; rintro e w3 ⟨rfl, hE3⟩; have HA3 := hide (HA2.out.ext hE3); have HB3 := hide (HB2.out.ext hE3); have HX3 := hide (HX2.out.trans hE3); clear hbc; have HL3 := hide (HL2.out.ext hE3); have hbc := HL3.out.cell; clear hE3))
    go_ret2
    exact ⟨⟨_, _, _, _, rfl, by rw [HF.out.1]; exact HA3.out, by rw [HF.out.2]; exact HB3.out⟩, HX3.out⟩
  | true =>
    rw [hv] at HV
    cases he : (x.e == ex) with
    | false =>
      have hen : (x.e != ex) = true := by rw [bne, he]; rfl
      have HF := hide (HI.out (by rintro ⟨_, h, _⟩; rw [h] at he; simp at he))
      clear hv HI
      go_enter Tryd.func20, Tryd.ntmps20
      go_wp2_with (first
        | (at_builtin; refine wpList_appendEN rfl _ _ rfl (w.heap.size + 1) _ rfl HEM.out A ca n a HN.out rfl (HA.out.ext (Ext.alloc _ _)) hn1 (by simp) ?_; intro A1 c1 w1 h1 hE1; have hE1 := (Ext.alloc _ _).trans hE1; have HA1 := hide h1; have HX1 := hide (HX.out.trans hE1); have HB1 := hide (HB.out.ext hE1); have HL1 := hide (HBL.out.ext hE1); clear h1 hE1 HA HBL)
        | (at_builtin; refine wpList_appendEN rfl _ _ rfl w1.heap.size _ rfl (EmB.new w1 5 (Nat.le_refl _)) B cb k b HK.out rfl (HB1.out.ext (Ext.alloc w1 _)) hk1 (by simp) ?_; intro A2 c2 w2 h2 hE2; have hE2 := (Ext.alloc w1 _).trans hE2; have HB2 := hide h2; have HX2 := hide (HX1.out.trans hE2); have HA2 := hide (HA1.out.ext hE2); have HL2 := hide (HL1.out.ext hE2); have hbc := HL2.out.cell; clear h2 hE2 HB1 HL1)
        | (go_at_call 14; refine (HV.out _).mono ?_; rintro e w3 ⟨rfl, hE3⟩; have HA3 := hide (HA2.out.ext hE3); have HB3 := hide (HB2.out.ext hE3); have HX3 := hide (HX2.out.trans hE3); clear hbc; have HL3 := hide (HL2.out.ext hE3); have hbc := HL3.out.cell; clear hE3))
      go_ret2
      exact ⟨⟨_, _, _, _, rfl, by rw [HF.out.1]; exact HA3.out, by rw [HF.out.2]; exact HB3.out⟩, HX3.out⟩
    | true =>
      have hen : (x.e != ex) = false := by rw [bne, he]; rfl
      by_cases h4 : x.k = 4
      · have h4b : (x.k == 4) = true := by simp [h4]
        have h5b : (x.k == 5) = false := by simp [h4]
        have HPL := hide (flip_place hv (.inl h4))
        have HF := hide (show inA x ex a b = changeL a x.p x.m ∧ inB' x ex a b = b from ⟨by unfold inA; rw [if_pos ⟨hv, beq_iff_eq.1 he, h4⟩], by unfold inB'; rw [if_neg (by rintro ⟨_, _, h⟩; omega)]⟩)
        clear hv h4 HI
        go_enter Tryd.func20, Tryd.ntmps20
        go_wp2_with (first
          | (at_builtin; refine wpList_appendEN rfl _ _ rfl (w.heap.size + 1) _ rfl HEM.out A ca n a HN.out rfl (HA.out.ext (Ext.alloc _ _)) hn1 (by simp) ?_; intro A1 c1 w1 h1 hE1; have hE1 := (Ext.alloc _ _).trans hE1; have HA1 := hide h1; have HX1 := hide (HX.out.trans hE1); have HB1 := hide (HB.out.ext hE1); have HL1 := hide (HBL.out.ext hE1); clear h1 hE1 HA HBL)
          | (at_builtin; refine wpList_appendEN rfl _ _ rfl w1.heap.size _ rfl (EmB.new w1 5 (Nat.le_refl _)) B cb k b HK.out rfl (HB1.out.ext (Ext.alloc w1 _)) hk1 (by simp) ?_; intro A2 c2 w2 h2 hE2; have hE2 := (Ext.alloc w1 _).trans hE2; have HB2 := hide h2; have HX2 := hide (HX1.out.trans hE2); have HA2 := hide (HA1.out.ext hE2); have HL2 := hide (HL1.out.ext hE2); have hbc := HL2.out.cell; clear h2 hE2 HB1 HL1)
          | (go_at_call 14; refine (HV.out _).mono ?_; rintro e w3 ⟨rfl, hE3⟩; have HA3 := hide (HA2.out.ext hE3); have HB3 := hide (HB2.out.ext hE3); have HX3 := hide (HX2.out.trans hE3); clear hbc; have HL3 := hide (HL2.out.ext hE3); have hbc := HL3.out.cell; clear hE3)
          | (go_at_call 18; refine (rchange_at A1 c1 a n HN.out x.p x.m _ HA3.out hn1 HPL.out).mono ?_; rintro e w4 ⟨⟨A4, c4, rfl, h4⟩, hE4⟩; have HA4 := hide h4; have HB4 := hide (HB3.out.ext hE4); have HX4 := hide (HX3.out.trans hE4); clear hbc; have hbc := (HL3.out.ext hE4).cell; clear h4 hE4))
        go_ret2
        exact ⟨⟨_, _, _, _, rfl, by rw [HF.out.1]; exact HA4.out, by rw [HF.out.2]; exact HB4.out⟩, HX4.out⟩
      · have h4b : (x.k == 4) = false := by simp [h4]
        by_cases h5 : x.k = 5
        · have h5b : (x.k == 5) = true := by simp [h5]
          have HPL := hide (flip_place hv (.inr h5))
          have HF := hide (show inA x ex a b = a ∧ inB' x ex a b = changeL b x.p x.m from ⟨by unfold inA; rw [if_neg (by rintro ⟨_, _, h⟩; omega)], by unfold inB'; rw [if_pos ⟨hv, beq_iff_eq.1 he, h5⟩]⟩)
          clear hv h4 h5 HI
          go_enter Tryd.func20, Tryd.ntmps20
          go_wp2_with (first
            | (at_builtin; refine wpList_appendEN rfl _ _ rfl (w.heap.size + 1) _ rfl HEM.out A ca n a HN.out rfl (HA.out.ext (Ext.alloc _ _)) hn1 (by simp) ?_; intro A1 c1 w1 h1 hE1; have hE1 := (Ext.alloc _ _).trans hE1; have HA1 := hide h1; have HX1 := hide (HX.out.trans hE1); have HB1 := hide (HB.out.ext hE1); have HL1 := hide (HBL.out.ext hE1); clear h1 hE1 HA HBL)
            | (at_builtin; refine wpList_appendEN rfl _ _ rfl w1.heap.size _ rfl (EmB.new w1 5 (Nat.le_refl _)) B cb k b HK.out rfl (HB1.out.ext (Ext.alloc w1 _)) hk1 (by simp) ?_; intro A2 c2 w2 h2 hE2; have hE2 := (Ext.alloc w1 _).trans hE2; have HB2 := hide h2; have HX2 := hide (HX1.out.trans hE2); have HA2 := hide (HA1.out.ext hE2); have HL2 := hide (HL1.out.ext hE2); have hbc := HL2.out.cell; clear h2 hE2 HB1 HL1)
            | (go_at_call 14; refine (HV.out _).mono ?_; rintro e w3 ⟨rfl, hE3⟩; have HA3 := hide (HA2.out.ext hE3); have HB3 := hide (HB2.out.ext hE3); have HX3 := hide (HX2.out.trans hE3); clear hbc; have HL3 := hide (HL2.out.ext hE3); have hbc := HL3.out.cell; clear hE3)
            | (go_at_call 18; refine (rchange_at A2 c2 b k HK.out x.p x.m _ HB3.out hk1 HPL.out).mono ?_; rintro e w4 ⟨⟨A4, c4, rfl, h4⟩, hE4⟩; have HB4 := hide h4; have HA4 := hide (HA3.out.ext hE4); have HX4 := hide (HX3.out.trans hE4); clear h4 hE4))
          go_ret2
          exact ⟨⟨_, _, _, _, rfl, by rw [HF.out.1]; exact HA4.out, by rw [HF.out.2]; exact HB4.out⟩, HX4.out⟩
        · have h5b : (x.k == 5) = false := by simp [h5]
          have HF := hide (HI.out (by rintro ⟨_, _, h | h⟩ <;> omega))
          clear hv h4 h5 HI
          go_enter Tryd.func20, Tryd.ntmps20
          go_wp2_with (first
            | (at_builtin; refine wpList_appendEN rfl _ _ rfl (w.heap.size + 1) _ rfl HEM.out A ca n a HN.out rfl (HA.out.ext (Ext.alloc _ _)) hn1 (by simp) ?_; intro A1 c1 w1 h1 hE1; have hE1 := (Ext.alloc _ _).trans hE1; have HA1 := hide h1; have HX1 := hide (HX.out.trans hE1); have HB1 := hide (HB.out.ext hE1); have HL1 := hide (HBL.out.ext hE1); clear h1 hE1 HA HBL)
            | (at_builtin; refine wpList_appendEN rfl _ _ rfl w1.heap.size _ rfl (EmB.new w1 5 (Nat.le_refl _)) B cb k b HK.out rfl (HB1.out.ext (Ext.alloc w1 _)) hk1 (by simp) ?_; intro A2 c2 w2 h2 hE2; have hE2 := (Ext.alloc w1 _).trans hE2; have HB2 := hide h2; have HX2 := hide (HX1.out.trans hE2); have HA2 := hide (HA1.out.ext hE2); have HL2 := hide (HL1.out.ext hE2); have hbc := HL2.out.cell; clear h2 hE2 HB1 HL1)
            | (go_at_call 14; refine (HV.out _).mono ?_; rintro e w3 ⟨rfl, hE3⟩; have HA3 := hide (HA2.out.ext hE3); have HB3 := hide (HB2.out.ext hE3); have HX3 := hide (HX2.out.trans hE3); clear hbc; have HL3 := hide (HL2.out.ext hE3); have hbc := HL3.out.cell; clear hE3))
          go_ret2
          exact ⟨⟨_, _, _, _, rfl, by rw [HF.out.1]; exact HA3.out, by rw [HF.out.2]; exact HB3.out⟩, HX3.out⟩
end Go.Proofs.YtfjddphjjhhjpaaDoor
