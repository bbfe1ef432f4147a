/-
  Change of the reference; FaultChange.
-/
import Derived.Test.YtfjddphjjhhjpaaDoorFauF
namespace Go.Proofs.YtfjddphjjhhjpaaDoor
open Go.RowKit
set_option linter.unusedVariables false

set_option maxRecDepth 100000 in
set_option maxHeartbeats 1000000 in
theorem rchange_any (A : Option Addr) (ca : Nat) (l : List UInt8) (p m : Int) (w : World) (hs : Sl w A ca l) (hl : l.length ≤ 1048576) (hp : p ≤ 9223372036854775807) :
    Calls Tryd.prog 18 #[.slice A l.length ca, .int .i64 p, .int .i64 m] w fun e w' => ∃ A' c', e = .returned (.slice A' l.length c') ∧ Own w' w.heap.size 5 (.slice A' l.length c') (changeL l p m) ∧ Ext w w' := by
  have HS := hide hs
  clear hs
  by_cases h0 : l.length = 0
  · have h0' : ¬ (0 : Int) < l.length := by omega
    have hcl : changeL l p m = l := by unfold changeL; rw [if_neg (by omega)]
    rw [hcl]
    clear h0
    go_enter Tryd.func18, Tryd.ntmps18
    go_wp2_with (at_builtin; refine wpList_appendE bt rfl _ _ rfl w.heap.size _ rfl (EmB.new w 5 (Nat.le_refl _)) A ca l rfl (HS.out.ext (Ext.alloc w _)) (by omega) (by simp) ?_; intro A2 c2 w2 q1 q2; have HQ := hide q1; have HX := hide (Ext.trans (Ext.alloc w _) q2); clear q1 q2)
    go_ret
    exact ⟨_, _, rfl, HQ.out, HX.out⟩
  have h0' : (0 : Int) < l.length := by omega
  by_cases hp0 : p < 0
  · have hcl : changeL l p m = l := by unfold changeL; rw [if_neg (by omega)]
    rw [hcl]
    clear h0
    go_enter Tryd.func18, Tryd.ntmps18
    go_wp2_with (at_builtin; refine wpList_appendE bt rfl _ _ rfl w.heap.size _ rfl (EmB.new w 5 (Nat.le_refl _)) A ca l rfl (HS.out.ext (Ext.alloc w _)) (by omega) (by simp) ?_; intro A2 c2 w2 q1 q2; have HQ := hide q1; have HX := hide (Ext.trans (Ext.alloc w _) q2); clear q1 q2)
    go_ret
    exact ⟨_, _, rfl, HQ.out, HX.out⟩
  obtain ⟨q, rfl⟩ := Int.eq_ofNat_of_zero_le (show 0 ≤ p by omega)
  have hk : q % l.length < l.length := Nat.mod_lt _ (by omega)
  have hne : l ≠ [] := fun e => h0 (by rw [e]; rfl)
  have HC := hide (show changeL l q m = l.set (q % l.length) (l[q % l.length] ^^^ mb m) by
    unfold changeL
    rw [if_pos ⟨by omega, by omega⟩, Int.toNat_natCast, List.getElem?_eq_getElem hk, Option.getD_some])
  rw [HC.out]
  have HXR := hide (u8_xor l[q % l.length] (mb m))
  have HW := hide (wrap_u8 m)
  go_enter Tryd.func18, Tryd.ntmps18
  go_wp2_with (at_builtin; refine wpList_appendE bt rfl _ _ rfl w.heap.size _ rfl (EmB.new w 5 (Nat.le_refl _)) A ca l rfl (HS.out.ext (Ext.alloc w _)) (by omega) (by simp) ?_; intro A2 c2 w2 q1 q2; have q2 := Ext.trans (Ext.alloc w _) q2; obtain ⟨g2, rfl, hb2, hg2, hcap2, hcell2, hfr2⟩ := q1.at_ hne; have hc2 := hcell2 _ hk; have hw := HW.out; have HQ := hide q1; have HX := hide q2; clear q1 q2 hcell2)
  rw [HXR.out]
  go_ret
  exact ⟨_, _, rfl, HQ.out.set _ _, HX.out.set (p := ⟨g2, q % l.length, none⟩) hb2 _⟩
/-- The contracts once more, the lengths by a name. -/
theorem change_at (A : Option Addr) (ca : Nat) (l : List UInt8) (n : Nat) (hn : l.length = n) (p m : Int) (w : World) (hs : Sl w A ca l) (hl : n ≤ 1048576) (hp : p ≤ 9223372036854775807) :
    Calls Tryd.prog 17 #[.slice A n ca, .int .i64 p, .int .i64 m] w fun e w' => (∃ A' c', e = .returned (.slice A' n c') ∧ Sl w' A' c' (changeL l p m)) ∧ Ext w w' := by
  subst hn
  refine (change_any A ca l p m w hs hl hp).mono ?_
  rintro e w' ⟨A', c', rfl, h, he⟩
  exact ⟨⟨A', c', rfl, h.sl.2⟩, he⟩
theorem rchange_at (A : Option Addr) (ca : Nat) (l : List UInt8) (n : Nat) (hn : l.length = n) (p m : Int) (w : World) (hs : Sl w A ca l) (hl : n ≤ 1048576) (hp : p ≤ 9223372036854775807) :
    Calls Tryd.prog 18 #[.slice A n ca, .int .i64 p, .int .i64 m] w fun e w' => (∃ A' c', e = .returned (.slice A' n c') ∧ Sl w' A' c' (changeL l p m)) ∧ Ext w w' := by
  subst hn
  refine (rchange_any A ca l p m w hs hl hp).mono ?_
  rintro e w' ⟨A', c', rfl, h, he⟩
  exact ⟨⟨A', c', rfl, h.sl.2⟩, he⟩
theorem conv_at {w : World} {A : Option Addr} {cap n : Nat} {l : List UInt8} (hn : l.length = n) (h : Sl w A cap l) : (Go.convert 39 9 (.slice A n cap)).run Tryd.prog w = .ok (.string (str l)) w := by
  subst hn
  exact h.convert Tryd.underlying39 Tryd.underlying5 Tryd.underlying9
theorem wpList_appendEN {w : World} {ops : Array Oper} {rest : List Oper} {o : Oper} {a : Act} {Q : Exit → Act → World → Prop} (hgd : o.guard = none) (s x : Operand)
    (ho : o.op = .call { callee := .builtin .append, args := #[s, x], argTypes := #[39, 39] }) (base : Nat) (v : Value) (hv : a.eval s = v) (hown : EmB base 5 v w)
    (A : Option Addr) (cap n : Nat) (m : List UInt8) (hn : m.length = n) (hx : a.eval x = .slice A n cap) (hs : Sl w A cap m) (hb : n ≤ 1048576) (hbase : base ≤ w.heap.size)
    (h : ∀ A' cap' w', Sl w' A' cap' m → Ext w w' → wpList Tryd.prog ops Q rest (a.put o.dst (.slice A' n cap')) w') : wpList Tryd.prog ops Q (o :: rest) a w := by
  subst hn
  exact wpList_appendE bt hgd s x ho base v hv hown A cap m hx hs (by omega) hbase fun A' cap' w' h1 h2 => h A' cap' w' h1.sl.2 h2
def SlN (n : Nat) (q : List UInt8) (v : Value) (w : World) : Prop := ∃ A c, v = .slice A n c ∧ Sl w A c q
theorem SlN.ext {n : Nat} {q : List UInt8} {v : Value} {w w' : World} (h : SlN n q v w) (he : Ext w w') : SlN n q v w' := let ⟨A, c, h1, h2⟩ := h; ⟨A, c, h1, h2.ext he⟩
theorem SlN.sl {n k : Nat} {q : List UInt8} {A : Option Addr} {c : Nat} {w : World} (h : SlN n q (.slice A k c) w) : Sl w A c q := by
  obtain ⟨A', c', h1, h2⟩ := h
  injection h1 with e1 e2 e3
  subst e1 e3
  exact h2

/-! ### plain -/
theorem changeL_at {l : List UInt8} {p m : Int} (h : 0 < l.length ∧ 0 ≤ p) : changeL l p m = l.set (p.toNat % l.length) ((l[p.toNat % l.length]'(Nat.mod_lt _ h.1)) ^^^ mb m) := by
  unfold changeL
  rw [if_pos h, List.getElem?_eq_getElem (Nat.mod_lt _ h.1), Option.getD_some]
theorem changeL_back (l : List UInt8) (p m : Int) : changeL (changeL l p m) p m = l := by
  by_cases h : 0 < l.length ∧ 0 ≤ p
  · have hl := changeL_length l p m
    have hk : p.toNat % l.length < l.length := Nat.mod_lt _ h.1
    rw [changeL_at h, changeL_at (by rw [List.length_set]; exact h)]
    simp only [List.length_set, List.getElem_set_self, List.set_set, UInt8.xor_assoc, UInt8.xor_self, UInt8.xor_zero, List.set_getElem_self]
  · have h1 : changeL l p m = l := by unfold changeL; rw [if_neg h]
    rw [h1, h1]
theorem changeL_vis (l : List UInt8) (p m : Int) : (changeL l p m == l) = !(decide (0 < l.length) && decide (0 ≤ p) && (mb m != 0)) := by
  by_cases h : 0 < l.length ∧ 0 ≤ p
  · have hk : p.toNat % l.length < l.length := Nat.mod_lt _ h.1
    rw [changeL_at h, decide_eq_true h.1, decide_eq_true h.2]
    simp only [Bool.true_and]
    by_cases hm : mb m = 0
    · rw [hm]; simp
    · have : (mb m != 0) = true := by simp [hm]
      rw [this, Bool.not_true, beq_eq_false_iff_ne]
      intro e
      have e1 := congrArg (fun x => x[p.toNat % l.length]?) e
      simp only [List.getElem?_set_self hk, List.getElem?_eq_getElem hk] at e1
      injection e1 with e1
      have e2 : l[p.toNat % l.length] ^^^ (l[p.toNat % l.length] ^^^ mb m) = l[p.toNat % l.length] ^^^ l[p.toNat % l.length] := by rw [e1]
      rw [← UInt8.xor_assoc, UInt8.xor_self, UInt8.zero_xor] at e2
      exact hm e2
  · have h1 : changeL l p m = l := by unfold changeL; rw [if_neg h]
    rw [h1]
    have : (decide (0 < l.length) && decide (0 ≤ p)) = false := by
      rw [Bool.and_eq_false_iff]
      by_cases h0 : 0 < l.length
      · exact .inr (decide_eq_false fun hp => h ⟨h0, hp⟩)
      · exact .inl (decide_eq_false h0)
    rw [this]
    simp
theorem mb_ne (m : Int) : (((mb m).toNat : Int) != 0) = (mb m != 0) := by
  by_cases h : mb m = 0
  · rw [h]; rfl
  · have h1 : (mb m).toNat ≠ 0 := fun e => h (UInt8.toNat_inj.1 (by rw [e]; rfl))
    have h2 : (mb m != 0) = true := by simp [h]
    rw [h2, bne_iff_ne]
    omega
set_option maxRecDepth 100000 in
set_option maxHeartbeats 4000000 in
theorem fchange_law (A : Option Addr) (ca : Nat) (l : List UInt8) (p m : Int) (w : World) (hs : Sl w A ca l) (hp : p ≤ 9223372036854775807) (ht : Tabs w) :
    Calls Tryd.prog 4 #[.slice A l.length ca, .int .i64 p, .int .i64 m] w fun e w' => e = .returned (.bool true) ∧ Ext w w' := by
  obtain ⟨n, hn⟩ : ∃ n, l.length = n := ⟨_, rfl⟩
  rw [hn]
  have HN := hide hn
  have HS := hide hs
  have HT := hide ht
  have hsm : n ≤ 9223372036854775807 := by have := hs.le; have := hs.max; unfold maxLen at this; omega
  clear hn hs ht
  by_cases hbig : 400 < n
  · have hbig' : (400 : Int) < n := by omega
    go_enter Tryd.func4, Tryd.ntmps4
    go_wp2_with (go_at_call 8; refine (awake27_any _ HT.out).mono ?_; rintro e w1 ⟨rfl, hE1⟩; have HE1 := hide hE1; clear hE1)
    go_ret
    exact ⟨rfl, HE1.out⟩
  · have hbig' : ¬ (400 : Int) < n := by omega
    have HQ := hide (show (changeL l p m).length = n by rw [changeL_length]; exact HN.out)
    have HBK := hide (changeL_back l p m)
    have HVS := hide (changeL_vis l p m)
    have HC1 := hide (fun A ca w h => change_at A ca l n HN.out p m w h (by omega) hp)
    have HC2 := hide (fun A ca w h => rchange_at A ca l n HN.out p m w h (by omega) hp)
    have HC3 := hide (fun A ca w h => change_at A ca (changeL l p m) n HQ.out p m w h (by omega) hp)
    rw [HBK.out] at HC3
    generalize changeL l p m = q at *
    have hqq : (q != q) = false := by simp
    have hll : (l != l) = false := by simp
    have hll2 : (l == l) = true := by simp
    have hnn : ((n : Int) != (n : Int)) = false := by simp
    go_enter Tryd.func4, Tryd.ntmps4
    go_wp2_with (first
      | (go_at_call 8; refine (awake27_any _ HT.out).mono ?_; rintro e w1 ⟨rfl, hE1⟩; have HE1 := hide hE1; clear hE1)
      | (at_builtin; refine wpList_appendEN rfl _ _ rfl w1.heap.size _ rfl (EmB.new w1 5 (Nat.le_refl _)) A ca n l HN.out rfl ((HS.out.ext HE1.out).ext (Ext.alloc w1 _)) (by omega) (by simp) ?_; intro A2 c2 w2 q1 q2; have HI2 := hide q1; have HE2 := hide (HE1.out.trans ((Ext.alloc w1 _).trans q2)); clear q1 q2)
      | (go_at_call 17; refine (HC1.out A2 c2 w2 HI2.out).mono ?_; rintro e w3 ⟨⟨A3, c3, rfl, q3⟩, hE3⟩; have HX3 := hide q3; have HI3 := hide (HI2.out.ext hE3); have HS3 := hide (HS.out.ext (HE2.out.trans hE3)); have HE3 := hide (HE2.out.trans hE3); clear q3 hE3 HI2))
    refine wp_region_ext 22 6 [(5, fun v => ∃ A c, v = .slice A n c, SlN n q), (6, fun v => v = .string (str q), fun _ _ => True)] mixed (by kernel_rfl)
      ⟨fun _ _ _ h hx => h.ext hx, fun _ _ _ _ _ => trivial, trivial⟩ ?_
    repeat ((refine seq_exact ?_ (by rfl) (by rfl) (fun w1 hU => ?_) ?_); (rotate_left 1); (focus (have h4 := conv_at HQ.out (HX3.out.ext hU.un); clear hU; go_simp <;> with_reducible rfl)); (simp only [Act.put, List.setIfInBounds_toArray, List.set_cons_zero, List.set_cons_succ]))
    refine seq_opaque _ _ (by rfl) rfl ⟨_, none, 0, rfl⟩ (by simp) (fun w5 hU hp K hK => ?_) ?_
    · have hc := HC2.out A ca w5 (HS3.out.ext hU.un)
      go_simp
      refine hc.mono ?_
      rintro e w6 ⟨⟨A6, c6, rfl, q6⟩, hE⟩
      exact hK _ _ hE ⟨_, _, rfl⟩ ⟨_, _, rfl, q6⟩
    rintro _ ⟨A5, c5, rfl⟩
    simp only [Act.put, List.setIfInBounds_toArray, List.set_cons_zero, List.set_cons_succ]
    refine seq_opaque _ _ (by rfl) rfl ⟨_, rfl⟩ (by simp) (fun w5 hU hp K hK => ?_) ?_
    · have hc := conv_at HQ.out (SlN.sl (hp _ (.head _) (by kernel_rfl)))
      clear hp
      go_simp
      exact hK _ _ (Ext.refl _) rfl trivial
    rintro _ rfl
    simp only [Act.put, List.setIfInBounds_toArray, List.set_cons_zero, List.set_cons_succ]
    repeat ((refine seq_exact ?_ (by rfl) (by rfl) (fun w1 hU => ?_) ?_); (rotate_left 1); (focus (have h4 := conv_at HN.out (HI3.out.ext hU.un); have h5 := conv_at HN.out (HS3.out.ext hU.un); clear hU; go_simp <;> with_reducible rfl)); (simp only [Act.put, List.setIfInBounds_toArray, List.set_cons_zero, List.set_cons_succ]))
    intro w7 hw7 _
    simp only [List.drop_succ_cons, List.drop_nil]
    have HE7 := hide (HE3.out.trans hw7.un)
    have HX7 := hide (HX3.out.ext hw7.un)
    have HS7 := hide (HS3.out.ext hw7.un)
    clear hw7
    have HW := hide (wrap_u8 m)
    have HMB := hide (mb_ne m)
    rw [HN.out] at HVS
    generalize mb m = mm at *
    by_cases h0 : 0 < n
    · have h0' : (0 : Int) < n := by omega
      by_cases hp0 : 0 ≤ p
      · have hw := HW.out
        cases hm : (mm != 0) with
        | false =>
          have hmb := HMB.out
          rw [hm] at hmb
          have hv : (q == l) = true := HVS.out.trans (by rw [hm, decide_eq_true h0, decide_eq_true hp0]; rfl)
          have hvn : (q != l) = false := by rw [bne, hv]; rfl
          clear hm
          clear HVS HW HMB
          go_wp2_with (go_at_call 17; refine (HC3.out A3 c3 w7 HX7.out).mono ?_; rintro e w8 ⟨⟨A8, c8, rfl, q8⟩, hE8⟩; have HE8 := hide (HE7.out.trans hE8); have k1 := conv_at HN.out q8; have k2 := conv_at HN.out (HS7.out.ext hE8); have k3 := conv_at HQ.out (HX7.out.ext hE8); clear q8 hE8)
          go_ret
          exact ⟨rfl, HE8.out⟩
        | true =>
          have hmb := HMB.out
          rw [hm] at hmb
          have hv : (q == l) = false := HVS.out.trans (by rw [hm, decide_eq_true h0, decide_eq_true hp0]; rfl)
          have hvn : (q != l) = true := by rw [bne, hv]; rfl
          clear hm
          clear HVS HW HMB
          go_wp2_with (go_at_call 17; refine (HC3.out A3 c3 w7 HX7.out).mono ?_; rintro e w8 ⟨⟨A8, c8, rfl, q8⟩, hE8⟩; have HE8 := hide (HE7.out.trans hE8); have k1 := conv_at HN.out q8; have k2 := conv_at HN.out (HS7.out.ext hE8); have k3 := conv_at HQ.out (HX7.out.ext hE8); clear q8 hE8)
          go_ret
          exact ⟨rfl, HE8.out⟩
      · have hp0' : ¬ 0 ≤ p := hp0
        have hv : (q == l) = true := HVS.out.trans (by rw [decide_eq_false hp0, Bool.and_false]; rfl)
        have hvn : (q != l) = false := by rw [bne, hv]; rfl
        clear HVS HW HMB
        go_wp2_with (go_at_call 17; refine (HC3.out A3 c3 w7 HX7.out).mono ?_; rintro e w8 ⟨⟨A8, c8, rfl, q8⟩, hE8⟩; have HE8 := hide (HE7.out.trans hE8); have k1 := conv_at HN.out q8; have k2 := conv_at HN.out (HS7.out.ext hE8); have k3 := conv_at HQ.out (HX7.out.ext hE8); clear q8 hE8)
        go_ret
        exact ⟨rfl, HE8.out⟩
    · have h0' : ¬ (0 : Int) < n := by omega
      have hv : (q == l) = true := HVS.out.trans (by rw [decide_eq_false h0, Bool.false_and]; rfl)
      have hvn : (q != l) = false := by rw [bne, hv]; rfl
      clear HVS HW HMB
      go_wp2_with (go_at_call 17; refine (HC3.out A3 c3 w7 HX7.out).mono ?_; rintro e w8 ⟨⟨A8, c8, rfl, q8⟩, hE8⟩; have HE8 := hide (HE7.out.trans hE8); have k1 := conv_at HN.out q8; have k2 := conv_at HN.out (HS7.out.ext hE8); have k3 := conv_at HQ.out (HX7.out.ext hE8); clear q8 hE8)
      go_ret
      exact ⟨rfl, HE8.out⟩
end Go.Proofs.YtfjddphjjhhjpaaDoor
