/-
  element of the program and of the reference.
-/
import Derived.Test.YtbfjopknhlnbcaaDoorLexB
namespace Go.Proofs.YtbfjopknhlnbcaaDoor
open Go.RowKit
set_option linter.unusedVariables false

def escL : List (UInt8 × UInt8) := [(110, 10), (116, 9), (48, 0), (92, 92), (39, 39), (34, 34)]
def escF : List (UInt8 × UInt8) → UInt8 → Option UInt8
  | [], _ => none
  | x :: l, d => if d = x.1 then some x.2 else escF l d
theorem escV_eq (d : UInt8) : escV d = escF escL d := by unfold escV escL; simp only [escF]
theorem ret_el {a b : Int} {c d : Int} (h : a = b) (h2 : c = d) : Ending.returned (.tuple #[.int .u8 a, .int .i64 c]) = .returned (.tuple #[.int .u8 b, .int .i64 d]) := by rw [h, h2]

set_option maxRecDepth 100000 in
set_option maxHeartbeats 2000000 in
theorem elem_esc (d : UInt8) (r : List UInt8) (w : World) (hl : r.length ≤ 100000) :
    Calls Tryd.prog 50 #[.string (str (92 :: d :: r))] w fun e w' => e = .returned (.tuple #[.int .u8 ((elemL (92 :: d :: r)).1.toNat : Int), .int .i64 ((elemL (92 :: d :: r)).2 : Int)]) ∧ Ext w w' := by
  have hsz : (str (92 :: d :: r)).size = r.length + 2 := by rw [str_size]; rfl
  have h0 : (0 : Nat) < (str (92 :: d :: r)).size := by rw [hsz]; omega
  have h1 : (1 : Nat) < (str (92 :: d :: r)).size := by rw [hsz]; omega
  have g0 : (str (92 :: d :: r))[0] = 92 := rfl
  have g1 : (str (92 :: d :: r))[1] = d := rfl
  have hlp : (1 : Int) < (r.length : Int) + 2 := by omega
  have HV := hide (escV_eq d)
  go_enter Tryd.func50, Tryd.ntmps50
  go_wp2_with fail
  go_loopw [4] (fun vi wr => ((vi = .int .i64 1 ∧ Hid (escV d = escF (escL.drop 0) d)) ∨ (vi = .int .i64 3 ∧ Hid (escV d = escF (escL.drop 1) d)) ∨ (vi = .int .i64 5 ∧ Hid (escV d = escF (escL.drop 2) d)) ∨ (vi = .int .i64 7 ∧ Hid (escV d = escF (escL.drop 3) d)) ∨ (vi = .int .i64 9 ∧ Hid (escV d = escF (escL.drop 4) d)) ∨ (vi = .int .i64 11 ∧ Hid (escV d = escF (escL.drop 5) d)) ∨ (vi = .int .i64 13 ∧ Hid (escV d = escF (escL.drop 6) d))) ∧ Hid (Ext w wr)) (fun vi _ => 14 - (intOf vi).toNat)
  case atStart => exact ⟨.inl ⟨rfl, hide rfl⟩, hide (Ext.refl w)⟩
  case round =>
    obtain ⟨hv, HX⟩ := hrel
    rcases hv with ⟨rfl, HT⟩ | ⟨rfl, HT⟩ | ⟨rfl, HT⟩ | ⟨rfl, HT⟩ | ⟨rfl, HT⟩ | ⟨rfl, HT⟩ | ⟨rfl, HT⟩

    · have k1 : ∀ h, (⟨#[10, 110, 9, 116, 0, 48, 92, 92, 39, 39, 34, 34]⟩ : ByteArray)[1]'h = 110 := fun _ => rfl
      have k2 : ∀ h, (⟨#[10, 110, 9, 116, 0, 48, 92, 92, 39, 39, 34, 34]⟩ : ByteArray)[0]'h = 10 := fun _ => rfl
      by_cases hd : d = 110
      · subst hd
        have HR := hide (show elemL (92 :: 110 :: r) = (10, 2) from rfl)
        clear HT HV
        go_wp2_with fail
        refine wp_region_ext 5 1 [] mixed (by kernel_rfl) trivial ?_
        repeat ((refine seq_exact ?_ (by rfl) (by rfl) (fun w1 hU => ?_) ?_); (rotate_left 1); (focus (clear hU; go_simp <;> with_reducible rfl)); (simp only [Act.put, List.setIfInBounds_toArray, List.set_cons_zero, List.set_cons_succ]))
        intro w7 hw7 _
        simp only [List.drop_succ_cons, List.drop_nil]
        have HK := hide (HX.out.trans hw7.un)
        clear hw7
        go_wp2_with fail
        go_ret2
        exact ⟨ret_el (by rw [HR.out]; rfl) (by rw [HR.out]; rfl), HK.out⟩
      · have hde : ((d.toNat : Int) == 110) = false := (u8_eqI d 110 (by omega)).trans (beq_eq_false_iff_ne.2 hd)
        have hde2 : ((110 : Int) == (d.toNat : Int)) = false := by rw [beq_eq_false_iff_ne] at hde ⊢; exact fun e => hde e.symm
        have HN := hide (show escV d = escF (escL.drop 1) d by rw [HT.out]; unfold escL; simp only [List.drop_succ_cons, List.drop_zero, escF]; rw [if_neg hd])
        clear hd
        go_wp2_with fail
        refine wp_region_ext 5 1 [] mixed (by kernel_rfl) trivial ?_
        repeat ((refine seq_exact ?_ (by rfl) (by rfl) (fun w1 hU => ?_) ?_); (rotate_left 1); (focus (clear hU; go_simp <;> with_reducible rfl)); (simp only [Act.put, List.setIfInBounds_toArray, List.set_cons_zero, List.set_cons_succ]))
        intro w7 hw7 _
        simp only [List.drop_succ_cons, List.drop_nil]
        have HK := hide (HX.out.trans hw7.un)
        clear hw7
        go_wp2_with fail
        go_roundw
        case rel => exact ⟨.inr (.inl ⟨rfl, HN⟩), HK⟩
        case measure => simp [intOf]

    · have k1 : ∀ h, (⟨#[10, 110, 9, 116, 0, 48, 92, 92, 39, 39, 34, 34]⟩ : ByteArray)[3]'h = 116 := fun _ => rfl
      have k2 : ∀ h, (⟨#[10, 110, 9, 116, 0, 48, 92, 92, 39, 39, 34, 34]⟩ : ByteArray)[2]'h = 9 := fun _ => rfl
      by_cases hd : d = 116
      · subst hd
        have HR := hide (show elemL (92 :: 116 :: r) = (9, 2) from rfl)
        clear HT HV
        go_wp2_with fail
        refine wp_region_ext 5 1 [] mixed (by kernel_rfl) trivial ?_
        repeat ((refine seq_exact ?_ (by rfl) (by rfl) (fun w1 hU => ?_) ?_); (rotate_left 1); (focus (clear hU; go_simp <;> with_reducible rfl)); (simp only [Act.put, List.setIfInBounds_toArray, List.set_cons_zero, List.set_cons_succ]))
        intro w7 hw7 _
        simp only [List.drop_succ_cons, List.drop_nil]
        have HK := hide (HX.out.trans hw7.un)
        clear hw7
        go_wp2_with fail
        go_ret2
        exact ⟨ret_el (by rw [HR.out]; rfl) (by rw [HR.out]; rfl), HK.out⟩
      · have hde : ((d.toNat : Int) == 116) = false := (u8_eqI d 116 (by omega)).trans (beq_eq_false_iff_ne.2 hd)
        have hde2 : ((116 : Int) == (d.toNat : Int)) = false := by rw [beq_eq_false_iff_ne] at hde ⊢; exact fun e => hde e.symm
        have HN := hide (show escV d = escF (escL.drop 2) d by rw [HT.out]; unfold escL; simp only [List.drop_succ_cons, List.drop_zero, escF]; rw [if_neg hd])
        clear hd
        go_wp2_with fail
        refine wp_region_ext 5 1 [] mixed (by kernel_rfl) trivial ?_
        repeat ((refine seq_exact ?_ (by rfl) (by rfl) (fun w1 hU => ?_) ?_); (rotate_left 1); (focus (clear hU; go_simp <;> with_reducible rfl)); (simp only [Act.put, List.setIfInBounds_toArray, List.set_cons_zero, List.set_cons_succ]))
        intro w7 hw7 _
        simp only [List.drop_succ_cons, List.drop_nil]
        have HK := hide (HX.out.trans hw7.un)
        clear hw7
        go_wp2_with fail
        go_roundw
        case rel => exact ⟨.inr (.inr (.inl ⟨rfl, HN⟩)), HK⟩
        case measure => simp [intOf]

    · have k1 : ∀ h, (⟨#[10, 110, 9, 116, 0, 48, 92, 92, 39, 39, 34, 34]⟩ : ByteArray)[5]'h = 48 := fun _ => rfl
      have k2 : ∀ h, (⟨#[10, 110, 9, 116, 0, 48, 92, 92, 39, 39, 34, 34]⟩ : ByteArray)[4]'h = 0 := fun _ => rfl
      by_cases hd : d = 48
      · subst hd
        have HR := hide (show elemL (92 :: 48 :: r) = (0, 2) from rfl)
        clear HT HV
        go_wp2_with fail
        refine wp_region_ext 5 1 [] mixed (by kernel_rfl) trivial ?_
        repeat ((refine seq_exact ?_ (by rfl) (by rfl) (fun w1 hU => ?_) ?_); (rotate_left 1); (focus (clear hU; go_simp <;> with_reducible rfl)); (simp only [Act.put, List.setIfInBounds_toArray, List.set_cons_zero, List.set_cons_succ]))
        intro w7 hw7 _
        simp only [List.drop_succ_cons, List.drop_nil]
        have HK := hide (HX.out.trans hw7.un)
        clear hw7
        go_wp2_with fail
        go_ret2
        exact ⟨ret_el (by rw [HR.out]; rfl) (by rw [HR.out]; rfl), HK.out⟩
      · have hde : ((d.toNat : Int) == 48) = false := (u8_eqI d 48 (by omega)).trans (beq_eq_false_iff_ne.2 hd)
        have hde2 : ((48 : Int) == (d.toNat : Int)) = false := by rw [beq_eq_false_iff_ne] at hde ⊢; exact fun e => hde e.symm
        have HN := hide (show escV d = escF (escL.drop 3) d by rw [HT.out]; unfold escL; simp only [List.drop_succ_cons, List.drop_zero, escF]; rw [if_neg hd])
        clear hd
        go_wp2_with fail
        refine wp_region_ext 5 1 [] mixed (by kernel_rfl) trivial ?_
        repeat ((refine seq_exact ?_ (by rfl) (by rfl) (fun w1 hU => ?_) ?_); (rotate_left 1); (focus (clear hU; go_simp <;> with_reducible rfl)); (simp only [Act.put, List.setIfInBounds_toArray, List.set_cons_zero, List.set_cons_succ]))
        intro w7 hw7 _
        simp only [List.drop_succ_cons, List.drop_nil]
        have HK := hide (HX.out.trans hw7.un)
        clear hw7
        go_wp2_with fail
        go_roundw
        case rel => exact ⟨.inr (.inr (.inr (.inl ⟨rfl, HN⟩))), HK⟩
        case measure => simp [intOf]

    · have k1 : ∀ h, (⟨#[10, 110, 9, 116, 0, 48, 92, 92, 39, 39, 34, 34]⟩ : ByteArray)[7]'h = 92 := fun _ => rfl
      have k2 : ∀ h, (⟨#[10, 110, 9, 116, 0, 48, 92, 92, 39, 39, 34, 34]⟩ : ByteArray)[6]'h = 92 := fun _ => rfl
      by_cases hd : d = 92
      · subst hd
        have HR := hide (show elemL (92 :: 92 :: r) = (92, 2) from rfl)
        clear HT HV
        go_wp2_with fail
        refine wp_region_ext 5 1 [] mixed (by kernel_rfl) trivial ?_
        repeat ((refine seq_exact ?_ (by rfl) (by rfl) (fun w1 hU => ?_) ?_); (rotate_left 1); (focus (clear hU; go_simp <;> with_reducible rfl)); (simp only [Act.put, List.setIfInBounds_toArray, List.set_cons_zero, List.set_cons_succ]))
        intro w7 hw7 _
        simp only [List.drop_succ_cons, List.drop_nil]
        have HK := hide (HX.out.trans hw7.un)
        clear hw7
        go_wp2_with fail
        go_ret2
        exact ⟨ret_el (by rw [HR.out]; rfl) (by rw [HR.out]; rfl), HK.out⟩
      · have hde : ((d.toNat : Int) == 92) = false := (u8_eqI d 92 (by omega)).trans (beq_eq_false_iff_ne.2 hd)
        have hde2 : ((92 : Int) == (d.toNat : Int)) = false := by rw [beq_eq_false_iff_ne] at hde ⊢; exact fun e => hde e.symm
        have HN := hide (show escV d = escF (escL.drop 4) d by rw [HT.out]; unfold escL; simp only [List.drop_succ_cons, List.drop_zero, escF]; rw [if_neg hd])
        clear hd
        go_wp2_with fail
        refine wp_region_ext 5 1 [] mixed (by kernel_rfl) trivial ?_
        repeat ((refine seq_exact ?_ (by rfl) (by rfl) (fun w1 hU => ?_) ?_); (rotate_left 1); (focus (clear hU; go_simp <;> with_reducible rfl)); (simp only [Act.put, List.setIfInBounds_toArray, List.set_cons_zero, List.set_cons_succ]))
        intro w7 hw7 _
        simp only [List.drop_succ_cons, List.drop_nil]
        have HK := hide (HX.out.trans hw7.un)
        clear hw7
        go_wp2_with fail
        go_roundw
        case rel => exact ⟨.inr (.inr (.inr (.inr (.inl ⟨rfl, HN⟩)))), HK⟩
        case measure => simp [intOf]

    · have k1 : ∀ h, (⟨#[10, 110, 9, 116, 0, 48, 92, 92, 39, 39, 34, 34]⟩ : ByteArray)[9]'h = 39 := fun _ => rfl
      have k2 : ∀ h, (⟨#[10, 110, 9, 116, 0, 48, 92, 92, 39, 39, 34, 34]⟩ : ByteArray)[8]'h = 39 := fun _ => rfl
      by_cases hd : d = 39
      · subst hd
        have HR := hide (show elemL (92 :: 39 :: r) = (39, 2) from rfl)
        clear HT HV
        go_wp2_with fail
        refine wp_region_ext 5 1 [] mixed (by kernel_rfl) trivial ?_
        repeat ((refine seq_exact ?_ (by rfl) (by rfl) (fun w1 hU => ?_) ?_); (rotate_left 1); (focus (clear hU; go_simp <;> with_reducible rfl)); (simp only [Act.put, List.setIfInBounds_toArray, List.set_cons_zero, List.set_cons_succ]))
        intro w7 hw7 _
        simp only [List.drop_succ_cons, List.drop_nil]
        have HK := hide (HX.out.trans hw7.un)
        clear hw7
        go_wp2_with fail
        go_ret2
        exact ⟨ret_el (by rw [HR.out]; rfl) (by rw [HR.out]; rfl), HK.out⟩
      · have hde : ((d.toNat : Int) == 39) = false := (u8_eqI d 39 (by omega)).trans (beq_eq_false_iff_ne.2 hd)
        have hde2 : ((39 : Int) == (d.toNat : Int)) = false := by rw [beq_eq_false_iff_ne] at hde ⊢; exact fun e => hde e.symm
        have HN := hide (show escV d = escF (escL.drop 5) d by rw [HT.out]; unfold escL; simp only [List.drop_succ_cons, List.drop_zero, escF]; rw [if_neg hd])
        clear hd
        go_wp2_with fail
        refine wp_region_ext 5 1 [] mixed (by kernel_rfl) trivial ?_
        repeat ((refine seq_exact ?_ (by rfl) (by rfl) (fun w1 hU => ?_) ?_); (rotate_left 1); (focus (clear hU; go_simp <;> with_reducible rfl)); (simp only [Act.put, List.setIfInBounds_toArray, List.set_cons_zero, List.set_cons_succ]))
        intro w7 hw7 _
        simp only [List.drop_succ_cons, List.drop_nil]
        have HK := hide (HX.out.trans hw7.un)
        clear hw7
        go_wp2_with fail
        go_roundw
        case rel => exact ⟨.inr (.inr (.inr (.inr (.inr (.inl ⟨rfl, HN⟩))))), HK⟩
        case measure => simp [intOf]

    · have k1 : ∀ h, (⟨#[10, 110, 9, 116, 0, 48, 92, 92, 39, 39, 34, 34]⟩ : ByteArray)[11]'h = 34 := fun _ => rfl
      have k2 : ∀ h, (⟨#[10, 110, 9, 116, 0, 48, 92, 92, 39, 39, 34, 34]⟩ : ByteArray)[10]'h = 34 := fun _ => rfl
      by_cases hd : d = 34
      · subst hd
        have HR := hide (show elemL (92 :: 34 :: r) = (34, 2) from rfl)
        clear HT HV
        go_wp2_with fail
        refine wp_region_ext 5 1 [] mixed (by kernel_rfl) trivial ?_
        repeat ((refine seq_exact ?_ (by rfl) (by rfl) (fun w1 hU => ?_) ?_); (rotate_left 1); (focus (clear hU; go_simp <;> with_reducible rfl)); (simp only [Act.put, List.setIfInBounds_toArray, List.set_cons_zero, List.set_cons_succ]))
        intro w7 hw7 _
        simp only [List.drop_succ_cons, List.drop_nil]
        have HK := hide (HX.out.trans hw7.un)
        clear hw7
        go_wp2_with fail
        go_ret2
        exact ⟨ret_el (by rw [HR.out]; rfl) (by rw [HR.out]; rfl), HK.out⟩
      · have hde : ((d.toNat : Int) == 34) = false := (u8_eqI d 34 (by omega)).trans (beq_eq_false_iff_ne.2 hd)
        have hde2 : ((34 : Int) == (d.toNat : Int)) = false := by rw [beq_eq_false_iff_ne] at hde ⊢; exact fun e => hde e.symm
        have HN := hide (show escV d = escF (escL.drop 6) d by rw [HT.out]; unfold escL; simp only [List.drop_succ_cons, List.drop_zero, escF]; rw [if_neg hd])
        clear hd
        go_wp2_with fail
        refine wp_region_ext 5 1 [] mixed (by kernel_rfl) trivial ?_
        repeat ((refine seq_exact ?_ (by rfl) (by rfl) (fun w1 hU => ?_) ?_); (rotate_left 1); (focus (clear hU; go_simp <;> with_reducible rfl)); (simp only [Act.put, List.setIfInBounds_toArray, List.set_cons_zero, List.set_cons_succ]))
        intro w7 hw7 _
        simp only [List.drop_succ_cons, List.drop_nil]
        have HK := hide (HX.out.trans hw7.un)
        clear hw7
        go_wp2_with fail
        go_roundw
        case rel => exact ⟨.inr (.inr (.inr (.inr (.inr (.inr (⟨rfl, HN⟩)))))), HK⟩
        case measure => simp [intOf]

    · have HR := hide (show elemL (92 :: d :: r) = (0, 0) by have h : escV d = none := HT.out; simp [elemL, h])
      clear HT HV
      go_wp2_with fail
      go_ret2
      exact ⟨ret_el (by rw [HR.out]; rfl) (by rw [HR.out]; rfl), HX.out⟩

set_option maxRecDepth 100000 in
theorem elem_any (l : List UInt8) (w : World) (hl : l.length ≤ 100000) :
    Calls Tryd.prog 50 #[.string (str l)] w fun e w' => e = .returned (.tuple #[.int .u8 ((elemL l).1.toNat : Int), .int .i64 ((elemL l).2 : Int)]) ∧ Ext w w' := by
  match l with
  | [] =>
    go_enter Tryd.func50, Tryd.ntmps50
    go_wp2_with fail
    go_ret2
    exact ⟨rfl, Ext.refl w⟩
  | c :: r =>
    have hsz : (str (c :: r)).size = r.length + 1 := by rw [str_size]; rfl
    have h0 : (0 : Nat) < (str (c :: r)).size := by rw [hsz]; omega
    have g0 : (str (c :: r))[0] = c := rfl
    by_cases h1 : c.toNat < 32
    · have HR := hide (show elemL (c :: r) = (0, 0) by simp [elemL, h1])
      have h1' : (c.toNat : Int) < 32 := by omega
      go_enter Tryd.func50, Tryd.ntmps50
      go_wp2_with fail
      go_ret2
      exact ⟨ret_el (by rw [HR.out]; rfl) (by rw [HR.out]; rfl), Ext.refl w⟩
    by_cases h2 : 126 < c.toNat
    · have HR := hide (show elemL (c :: r) = (0, 0) by simp [elemL, h2])
      have h1' : ¬ (c.toNat : Int) < 32 := by omega
      have h2' : (126 : Int) < c.toNat := by omega
      go_enter Tryd.func50, Tryd.ntmps50
      go_wp2_with fail
      go_ret2
      exact ⟨ret_el (by rw [HR.out]; rfl) (by rw [HR.out]; rfl), Ext.refl w⟩
    have h1' : decide ((c.toNat : Int) < 32) = false := by simp; omega
    have h2' : decide ((126 : Int) < c.toNat) = false := by simp; omega
    by_cases h3 : c = 92
    · subst h3
      match r with
      | [] =>
        clear h1' h2'
        go_enter Tryd.func50, Tryd.ntmps50
        go_wp2_with fail
        go_loopw [4] (fun vi wr => vi = .int .i64 1 ∧ wr = w) (fun vi _ => 0)
        case atStart => exact ⟨rfl, rfl⟩
        case round =>
          obtain ⟨rfl, rfl⟩ := hrel
          go_wp2_with fail
          go_ret2
          exact ⟨rfl, Ext.refl _⟩
      | d :: r' => exact elem_esc d r' w (by simp at hl; omega)
    · have HR := hide (show elemL (c :: r) = (c, 1) by simp only [elemL]; rw [if_neg (by omega), if_pos h3])
      have h3' : ((c.toNat : Int) != 92) = true := by
        have h4 : ((c.toNat : Int) == 92) = false := (u8_eqI c 92 (by omega)).trans (beq_eq_false_iff_ne.2 h3)
        rw [bne, h4]; rfl
      have h5 : ¬ (c.toNat : Int) < 32 := by omega
      have h6 : ¬ (126 : Int) < c.toNat := by omega
      clear h3
      go_enter Tryd.func50, Tryd.ntmps50
      go_wp2_with fail
      go_ret2
      exact ⟨ret_el (by rw [HR.out]) (by rw [HR.out]; rfl), Ext.refl w⟩

set_option maxRecDepth 100000 in
set_option maxHeartbeats 2000000 in
theorem relem_esc (d : UInt8) (r : List UInt8) (w : World) (hl : r.length ≤ 100000) :
    Calls Tryd.prog 42 #[.string (str (92 :: d :: r))] w fun e w' => e = .returned (.tuple #[.int .u8 ((elemL (92 :: d :: r)).1.toNat : Int), .int .i64 ((elemL (92 :: d :: r)).2 : Int)]) ∧ Ext w w' := by
  have hsz : (str (92 :: d :: r)).size = r.length + 2 := by rw [str_size]; rfl
  have h0 : (0 : Nat) < (str (92 :: d :: r)).size := by rw [hsz]; omega
  have h1 : (1 : Nat) < (str (92 :: d :: r)).size := by rw [hsz]; omega
  have g0 : (str (92 :: d :: r))[0] = 92 := rfl
  have g1 : (str (92 :: d :: r))[1] = d := rfl
  have hlp : (1 : Int) < (r.length : Int) + 2 := by omega
  have HV := hide (escV_eq d)
  go_enter Tryd.func42, Tryd.ntmps42
  go_wp2_with fail
  go_loopw [6] (fun vi wr => ((vi = .int .i64 0 ∧ Hid (escV d = escF (escL.drop 0) d)) ∨ (vi = .int .i64 1 ∧ Hid (escV d = escF (escL.drop 1) d)) ∨ (vi = .int .i64 2 ∧ Hid (escV d = escF (escL.drop 2) d)) ∨ (vi = .int .i64 3 ∧ Hid (escV d = escF (escL.drop 3) d)) ∨ (vi = .int .i64 4 ∧ Hid (escV d = escF (escL.drop 4) d)) ∨ (vi = .int .i64 5 ∧ Hid (escV d = escF (escL.drop 5) d)) ∨ (vi = .int .i64 6 ∧ Hid (escV d = escF (escL.drop 6) d))) ∧ Hid (Ext w wr)) (fun vi _ => 7 - (intOf vi).toNat)
  case atStart => exact ⟨.inl ⟨rfl, hide rfl⟩, hide (Ext.refl w)⟩
  case round =>
    obtain ⟨hv, HX⟩ := hrel
    rcases hv with ⟨rfl, HT⟩ | ⟨rfl, HT⟩ | ⟨rfl, HT⟩ | ⟨rfl, HT⟩ | ⟨rfl, HT⟩ | ⟨rfl, HT⟩ | ⟨rfl, HT⟩

    · have k1 : ∀ h, (⟨#[110, 116, 48, 92, 39, 34]⟩ : ByteArray)[0]'h = 110 := fun _ => rfl
      have k2 : ∀ h, (⟨#[10, 9, 0, 92, 39, 34]⟩ : ByteArray)[0]'h = 10 := fun _ => rfl
      by_cases hd : d = 110
      · subst hd
        have HR := hide (show elemL (92 :: 110 :: r) = (10, 2) from rfl)
        clear HT HV
        go_wp2_with fail
        refine wp_region_ext 6 1 [] mixed (by kernel_rfl) trivial ?_
        repeat ((refine seq_exact ?_ (by rfl) (by rfl) (fun w1 hU => ?_) ?_); (rotate_left 1); (focus (clear hU; go_simp <;> with_reducible rfl)); (simp only [Act.put, List.setIfInBounds_toArray, List.set_cons_zero, List.set_cons_succ]))
        intro w7 hw7 _
        simp only [List.drop_succ_cons, List.drop_nil]
        have HK := hide (HX.out.trans hw7.un)
        clear hw7
        go_wp2_with fail
        go_ret2
        exact ⟨ret_el (by rw [HR.out]; rfl) (by rw [HR.out]; rfl), HK.out⟩
      · have hde : ((d.toNat : Int) == 110) = false := (u8_eqI d 110 (by omega)).trans (beq_eq_false_iff_ne.2 hd)
        have hde2 : ((110 : Int) == (d.toNat : Int)) = false := by rw [beq_eq_false_iff_ne] at hde ⊢; exact fun e => hde e.symm
        have HN := hide (show escV d = escF (escL.drop 1) d by rw [HT.out]; unfold escL; simp only [List.drop_succ_cons, List.drop_zero, escF]; rw [if_neg hd])
        clear hd
        go_wp2_with fail
        refine wp_region_ext 6 1 [] mixed (by kernel_rfl) trivial ?_
        repeat ((refine seq_exact ?_ (by rfl) (by rfl) (fun w1 hU => ?_) ?_); (rotate_left 1); (focus (clear hU; go_simp <;> with_reducible rfl)); (simp only [Act.put, List.setIfInBounds_toArray, List.set_cons_zero, List.set_cons_succ]))
        intro w7 hw7 _
        simp only [List.drop_succ_cons, List.drop_nil]
        have HK := hide (HX.out.trans hw7.un)
        clear hw7
        go_wp2_with fail
        go_roundw
        case rel => exact ⟨.inr (.inl ⟨rfl, HN⟩), HK⟩
        case measure => simp [intOf]

    · have k1 : ∀ h, (⟨#[110, 116, 48, 92, 39, 34]⟩ : ByteArray)[1]'h = 116 := fun _ => rfl
      have k2 : ∀ h, (⟨#[10, 9, 0, 92, 39, 34]⟩ : ByteArray)[1]'h = 9 := fun _ => rfl
      by_cases hd : d = 116
      · subst hd
        have HR := hide (show elemL (92 :: 116 :: r) = (9, 2) from rfl)
        clear HT HV
        go_wp2_with fail
        refine wp_region_ext 6 1 [] mixed (by kernel_rfl) trivial ?_
        repeat ((refine seq_exact ?_ (by rfl) (by rfl) (fun w1 hU => ?_) ?_); (rotate_left 1); (focus (clear hU; go_simp <;> with_reducible rfl)); (simp only [Act.put, List.setIfInBounds_toArray, List.set_cons_zero, List.set_cons_succ]))
        intro w7 hw7 _
        simp only [List.drop_succ_cons, List.drop_nil]
        have HK := hide (HX.out.trans hw7.un)
        clear hw7
        go_wp2_with fail
        go_ret2
        exact ⟨ret_el (by rw [HR.out]; rfl) (by rw [HR.out]; rfl), HK.out⟩
      · have hde : ((d.toNat : Int) == 116) = false := (u8_eqI d 116 (by omega)).trans (beq_eq_false_iff_ne.2 hd)
        have hde2 : ((116 : Int) == (d.toNat : Int)) = false := by rw [beq_eq_false_iff_ne] at hde ⊢; exact fun e => hde e.symm
        have HN := hide (show escV d = escF (escL.drop 2) d by rw [HT.out]; unfold escL; simp only [List.drop_succ_cons, List.drop_zero, escF]; rw [if_neg hd])
        clear hd
        go_wp2_with fail
        refine wp_region_ext 6 1 [] mixed (by kernel_rfl) trivial ?_
        repeat ((refine seq_exact ?_ (by rfl) (by rfl) (fun w1 hU => ?_) ?_); (rotate_left 1); (focus (clear hU; go_simp <;> with_reducible rfl)); (simp only [Act.put, List.setIfInBounds_toArray, List.set_cons_zero, List.set_cons_succ]))
        intro w7 hw7 _
        simp only [List.drop_succ_cons, List.drop_nil]
        have HK := hide (HX.out.trans hw7.un)
        clear hw7
        go_wp2_with fail
        go_roundw
        case rel => exact ⟨.inr (.inr (.inl ⟨rfl, HN⟩)), HK⟩
        case measure => simp [intOf]

    · have k1 : ∀ h, (⟨#[110, 116, 48, 92, 39, 34]⟩ : ByteArray)[2]'h = 48 := fun _ => rfl
      have k2 : ∀ h, (⟨#[10, 9, 0, 92, 39, 34]⟩ : ByteArray)[2]'h = 0 := fun _ => rfl
      by_cases hd : d = 48
      · subst hd
        have HR := hide (show elemL (92 :: 48 :: r) = (0, 2) from rfl)
        clear HT HV
        go_wp2_with fail
        refine wp_region_ext 6 1 [] mixed (by kernel_rfl) trivial ?_
        repeat ((refine seq_exact ?_ (by rfl) (by rfl) (fun w1 hU => ?_) ?_); (rotate_left 1); (focus (clear hU; go_simp <;> with_reducible rfl)); (simp only [Act.put, List.setIfInBounds_toArray, List.set_cons_zero, List.set_cons_succ]))
        intro w7 hw7 _
        simp only [List.drop_succ_cons, List.drop_nil]
        have HK := hide (HX.out.trans hw7.un)
        clear hw7
        go_wp2_with fail
        go_ret2
        exact ⟨ret_el (by rw [HR.out]; rfl) (by rw [HR.out]; rfl), HK.out⟩
      · have hde : ((d.toNat : Int) == 48) = false := (u8_eqI d 48 (by omega)).trans (beq_eq_false_iff_ne.2 hd)
        have hde2 : ((48 : Int) == (d.toNat : Int)) = false := by rw [beq_eq_false_iff_ne] at hde ⊢; exact fun e => hde e.symm
        have HN := hide (show escV d = escF (escL.drop 3) d by rw [HT.out]; unfold escL; simp only [List.drop_succ_cons, List.drop_zero, escF]; rw [if_neg hd])
        clear hd
        go_wp2_with fail
        refine wp_region_ext 6 1 [] mixed (by kernel_rfl) trivial ?_
        repeat ((refine seq_exact ?_ (by rfl) (by rfl) (fun w1 hU => ?_) ?_); (rotate_left 1); (focus (clear hU; go_simp <;> with_reducible rfl)); (simp only [Act.put, List.setIfInBounds_toArray, List.set_cons_zero, List.set_cons_succ]))
        intro w7 hw7 _
        simp only [List.drop_succ_cons, List.drop_nil]
        have HK := hide (HX.out.trans hw7.un)
        clear hw7
        go_wp2_with fail
        go_roundw
        case rel => exact ⟨.inr (.inr (.inr (.inl ⟨rfl, HN⟩))), HK⟩
        case measure => simp [intOf]

    · have k1 : ∀ h, (⟨#[110, 116, 48, 92, 39, 34]⟩ : ByteArray)[3]'h = 92 := fun _ => rfl
      have k2 : ∀ h, (⟨#[10, 9, 0, 92, 39, 34]⟩ : ByteArray)[3]'h = 92 := fun _ => rfl
      by_cases hd : d = 92
      · subst hd
        have HR := hide (show elemL (92 :: 92 :: r) = (92, 2) from rfl)
        clear HT HV
        go_wp2_with fail
        refine wp_region_ext 6 1 [] mixed (by kernel_rfl) trivial ?_
        repeat ((refine seq_exact ?_ (by rfl) (by rfl) (fun w1 hU => ?_) ?_); (rotate_left 1); (focus (clear hU; go_simp <;> with_reducible rfl)); (simp only [Act.put, List.setIfInBounds_toArray, List.set_cons_zero, List.set_cons_succ]))
        intro w7 hw7 _
        simp only [List.drop_succ_cons, List.drop_nil]
        have HK := hide (HX.out.trans hw7.un)
        clear hw7
        go_wp2_with fail
        go_ret2
        exact ⟨ret_el (by rw [HR.out]; rfl) (by rw [HR.out]; rfl), HK.out⟩
      · have hde : ((d.toNat : Int) == 92) = false := (u8_eqI d 92 (by omega)).trans (beq_eq_false_iff_ne.2 hd)
        have hde2 : ((92 : Int) == (d.toNat : Int)) = false := by rw [beq_eq_false_iff_ne] at hde ⊢; exact fun e => hde e.symm
        have HN := hide (show escV d = escF (escL.drop 4) d by rw [HT.out]; unfold escL; simp only [List.drop_succ_cons, List.drop_zero, escF]; rw [if_neg hd])
        clear hd
        go_wp2_with fail
        refine wp_region_ext 6 1 [] mixed (by kernel_rfl) trivial ?_
        repeat ((refine seq_exact ?_ (by rfl) (by rfl) (fun w1 hU => ?_) ?_); (rotate_left 1); (focus (clear hU; go_simp <;> with_reducible rfl)); (simp only [Act.put, List.setIfInBounds_toArray, List.set_cons_zero, List.set_cons_succ]))
        intro w7 hw7 _
        simp only [List.drop_succ_cons, List.drop_nil]
        have HK := hide (HX.out.trans hw7.un)
        clear hw7
        go_wp2_with fail
        go_roundw
        case rel => exact ⟨.inr (.inr (.inr (.inr (.inl ⟨rfl, HN⟩)))), HK⟩
        case measure => simp [intOf]

    · have k1 : ∀ h, (⟨#[110, 116, 48, 92, 39, 34]⟩ : ByteArray)[4]'h = 39 := fun _ => rfl
      have k2 : ∀ h, (⟨#[10, 9, 0, 92, 39, 34]⟩ : ByteArray)[4]'h = 39 := fun _ => rfl
      by_cases hd : d = 39
      · subst hd
        have HR := hide (show elemL (92 :: 39 :: r) = (39, 2) from rfl)
        clear HT HV
        go_wp2_with fail
        refine wp_region_ext 6 1 [] mixed (by kernel_rfl) trivial ?_
        repeat ((refine seq_exact ?_ (by rfl) (by rfl) (fun w1 hU => ?_) ?_); (rotate_left 1); (focus (clear hU; go_simp <;> with_reducible rfl)); (simp only [Act.put, List.setIfInBounds_toArray, List.set_cons_zero, List.set_cons_succ]))
        intro w7 hw7 _
        simp only [List.drop_succ_cons, List.drop_nil]
        have HK := hide (HX.out.trans hw7.un)
        clear hw7
        go_wp2_with fail
        go_ret2
        exact ⟨ret_el (by rw [HR.out]; rfl) (by rw [HR.out]; rfl), HK.out⟩
      · have hde : ((d.toNat : Int) == 39) = false := (u8_eqI d 39 (by omega)).trans (beq_eq_false_iff_ne.2 hd)
        have hde2 : ((39 : Int) == (d.toNat : Int)) = false := by rw [beq_eq_false_iff_ne] at hde ⊢; exact fun e => hde e.symm
        have HN := hide (show escV d = escF (escL.drop 5) d by rw [HT.out]; unfold escL; simp only [List.drop_succ_cons, List.drop_zero, escF]; rw [if_neg hd])
        clear hd
        go_wp2_with fail
        refine wp_region_ext 6 1 [] mixed (by kernel_rfl) trivial ?_
        repeat ((refine seq_exact ?_ (by rfl) (by rfl) (fun w1 hU => ?_) ?_); (rotate_left 1); (focus (clear hU; go_simp <;> with_reducible rfl)); (simp only [Act.put, List.setIfInBounds_toArray, List.set_cons_zero, List.set_cons_succ]))
        intro w7 hw7 _
        simp only [List.drop_succ_cons, List.drop_nil]
        have HK := hide (HX.out.trans hw7.un)
        clear hw7
        go_wp2_with fail
        go_roundw
        case rel => exact ⟨.inr (.inr (.inr (.inr (.inr (.inl ⟨rfl, HN⟩))))), HK⟩
        case measure => simp [intOf]

    · have k1 : ∀ h, (⟨#[110, 116, 48, 92, 39, 34]⟩ : ByteArray)[5]'h = 34 := fun _ => rfl
      have k2 : ∀ h, (⟨#[10, 9, 0, 92, 39, 34]⟩ : ByteArray)[5]'h = 34 := fun _ => rfl
      by_cases hd : d = 34
      · subst hd
        have HR := hide (show elemL (92 :: 34 :: r) = (34, 2) from rfl)
        clear HT HV
        go_wp2_with fail
        refine wp_region_ext 6 1 [] mixed (by kernel_rfl) trivial ?_
        repeat ((refine seq_exact ?_ (by rfl) (by rfl) (fun w1 hU => ?_) ?_); (rotate_left 1); (focus (clear hU; go_simp <;> with_reducible rfl)); (simp only [Act.put, List.setIfInBounds_toArray, List.set_cons_zero, List.set_cons_succ]))
        intro w7 hw7 _
        simp only [List.drop_succ_cons, List.drop_nil]
        have HK := hide (HX.out.trans hw7.un)
        clear hw7
        go_wp2_with fail
        go_ret2
        exact ⟨ret_el (by rw [HR.out]; rfl) (by rw [HR.out]; rfl), HK.out⟩
      · have hde : ((d.toNat : Int) == 34) = false := (u8_eqI d 34 (by omega)).trans (beq_eq_false_iff_ne.2 hd)
        have hde2 : ((34 : Int) == (d.toNat : Int)) = false := by rw [beq_eq_false_iff_ne] at hde ⊢; exact fun e => hde e.symm
        have HN := hide (show escV d = escF (escL.drop 6) d by rw [HT.out]; unfold escL; simp only [List.drop_succ_cons, List.drop_zero, escF]; rw [if_neg hd])
        clear hd
        go_wp2_with fail
        refine wp_region_ext 6 1 [] mixed (by kernel_rfl) trivial ?_
        repeat ((refine seq_exact ?_ (by rfl) (by rfl) (fun w1 hU => ?_) ?_); (rotate_left 1); (focus (clear hU; go_simp <;> with_reducible rfl)); (simp only [Act.put, List.setIfInBounds_toArray, List.set_cons_zero, List.set_cons_succ]))
        intro w7 hw7 _
        simp only [List.drop_succ_cons, List.drop_nil]
        have HK := hide (HX.out.trans hw7.un)
        clear hw7
        go_wp2_with fail
        go_roundw
        case rel => exact ⟨.inr (.inr (.inr (.inr (.inr (.inr (⟨rfl, HN⟩)))))), HK⟩
        case measure => simp [intOf]

    · have HR := hide (show elemL (92 :: d :: r) = (0, 0) by have h : escV d = none := HT.out; simp [elemL, h])
      clear HT HV
      go_wp2_with fail
      go_ret2
      exact ⟨ret_el (by rw [HR.out]; rfl) (by rw [HR.out]; rfl), HX.out⟩

set_option maxRecDepth 100000 in
theorem relem_any (l : List UInt8) (w : World) (hl : l.length ≤ 100000) :
    Calls Tryd.prog 42 #[.string (str l)] w fun e w' => e = .returned (.tuple #[.int .u8 ((elemL l).1.toNat : Int), .int .i64 ((elemL l).2 : Int)]) ∧ Ext w w' := by
  match l with
  | [] =>
    go_enter Tryd.func42, Tryd.ntmps42
    go_wp2_with fail
    go_ret2
    exact ⟨rfl, Ext.refl w⟩
  | c :: r =>
    have hsz : (str (c :: r)).size = r.length + 1 := by rw [str_size]; rfl
    have h0 : (0 : Nat) < (str (c :: r)).size := by rw [hsz]; omega
    have g0 : (str (c :: r))[0] = c := rfl
    by_cases h1 : c.toNat < 32
    · have HR := hide (show elemL (c :: r) = (0, 0) by simp [elemL, h1])
      have h1' : (c.toNat : Int) < 32 := by omega
      go_enter Tryd.func42, Tryd.ntmps42
      go_wp2_with fail
      go_ret2
      exact ⟨ret_el (by rw [HR.out]; rfl) (by rw [HR.out]; rfl), Ext.refl w⟩
    by_cases h2 : 126 < c.toNat
    · have HR := hide (show elemL (c :: r) = (0, 0) by simp [elemL, h2])
      have h1' : ¬ (c.toNat : Int) < 32 := by omega
      have h2' : (126 : Int) < c.toNat := by omega
      go_enter Tryd.func42, Tryd.ntmps42
      go_wp2_with fail
      go_ret2
      exact ⟨ret_el (by rw [HR.out]; rfl) (by rw [HR.out]; rfl), Ext.refl w⟩
    have h1' : decide ((c.toNat : Int) < 32) = false := by simp; omega
    have h2' : decide ((126 : Int) < c.toNat) = false := by simp; omega
    by_cases h3 : c = 92
    · subst h3
      match r with
      | [] =>
        clear h1' h2'
        go_enter Tryd.func42, Tryd.ntmps42
        go_wp2_with fail
        go_loopw [6] (fun vi wr => vi = .int .i64 0 ∧ wr = w) (fun vi _ => 0)
        case atStart => exact ⟨rfl, rfl⟩
        case round =>
          obtain ⟨rfl, rfl⟩ := hrel
          go_wp2_with fail
          go_ret2
          exact ⟨rfl, Ext.refl _⟩
      | d :: r' => exact relem_esc d r' w (by simp at hl; omega)
    · have HR := hide (show elemL (c :: r) = (c, 1) by simp only [elemL]; rw [if_neg (by omega), if_pos h3])
      have h3' : ((c.toNat : Int) != 92) = true := by
        have h4 : ((c.toNat : Int) == 92) = false := (u8_eqI c 92 (by omega)).trans (beq_eq_false_iff_ne.2 h3)
        rw [bne, h4]; rfl
      have h5 : ¬ (c.toNat : Int) < 32 := by omega
      have h6 : ¬ (126 : Int) < c.toNat := by omega
      clear h3
      go_enter Tryd.func42, Tryd.ntmps42
      go_wp2_with fail
      go_ret2
      exact ⟨ret_el (by rw [HR.out]) (by rw [HR.out]; rfl), Ext.refl w⟩

end Go.Proofs.YtbfjopknhlnbcaaDoor
