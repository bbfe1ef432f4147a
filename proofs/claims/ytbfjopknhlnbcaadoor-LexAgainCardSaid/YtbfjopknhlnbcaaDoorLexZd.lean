/-
  Quote of the reference; LexNames.
-/
import Derived.Test.YtbfjopknhlnbcaaDoorLexZc
namespace Go.Proofs.YtbfjopknhlnbcaaDoor
open Go.RowKit
set_option linter.unusedVariables false

def qAt (c : UInt8) (j : Nat) : List UInt8 := (escAt c j).1 ++ [(escAt c j).2]
def RRel (c : UInt8) (w0 : World) (j : Nat) (vc : Value) (wr : World) : Prop := vc = .string (str (qAt c j)) ∧ Ext w0 wr
set_option maxRecDepth 100000 in
set_option maxHeartbeats 4000000 in
theorem rquote_any (l : List UInt8) (hl : l.length ≤ 100000) (w : World) : Calls Tryd.prog 18 #[.string (str l)] w fun e w' => e = .returned (.string (str (quoteL l))) ∧ Ext w w' := by
  have hsz : (str l).size = l.length := str_size l
  have hs92 : (⟨#[92]⟩ : ByteArray).size = 1 := rfl
  have hs34 : (⟨#[34]⟩ : ByteArray).size = 1 := rfl
  have hsm : (⟨#[110, 116, 48, 92, 39, 34]⟩ : ByteArray).size = 6 := rfl
  have hsv : (⟨#[10, 9, 0, 92, 39, 34]⟩ : ByteArray).size = 6 := rfl
  go_enter Tryd.func18, Tryd.ntmps18
  go_wp2_with fail
  go_loopw [3, 6] (fun vo vi wr => ∃ j : Nat, vo = .string (str (34 :: qescL (l.take j))) ∧ vi = .int .i64 (j : Int) ∧ j ≤ l.length ∧ Hid (Ext w wr)) (fun _ vi _ => l.length - (intOf vi).toNat)
  case atStart => exact ⟨0, rfl, rfl, Nat.zero_le _, hide (Ext.refl _)⟩
  case round =>
    obtain ⟨j, rfl, rfl, hj, HX⟩ := hrel
    by_cases hlt : j < l.length
    · have hjs : j < (str l).size := by rw [str_size]; exact hlt
      have hg := str_get l j hjs
      have hlt' : (j : Int) < l.length := by omega
      have HS := hide (qesc_succ hlt)
      have hex : (str l).extract j (j + 1) = str [l[j]] := by
        rw [str_extract]
        congr 1
        rw [List.take_succ_eq_append_getElem hlt, List.drop_append, List.length_take, Nat.min_eq_left (by omega), Nat.sub_self, List.drop_of_length_le (by rw [List.length_take]; omega)]
        rfl
      have hb2 : ((34 :: qescL (l.take j)) : List UInt8).length ≤ 200001 := by have := qescL_length (l.take j); rw [List.length_take] at this; simp only [List.length_cons]; omega
      generalize l[j]'hlt = c at *
      generalize hbq : 34 :: qescL (l.take j) = b at *
      have hsb : (str b).size = b.length := str_size b
      have HS2 := hide (show 34 :: qescL (l.take (j + 1)) = b ++ escQ c by rw [HS.out, ← hbq]; rfl)
      clear hbq HS
      have HQ := hide (show RRel c w 0 (.string (str [c])) wr from ⟨rfl, HX.out⟩)
      clear HX
      go_wp2_with fail
      go_loopw [7, 8] (fun vc vk wi => (vk = .int .i64 0 ∧ RRel c w 0 vc wi) ∨ (vk = .int .i64 1 ∧ RRel c w 1 vc wi) ∨ (vk = .int .i64 2 ∧ RRel c w 2 vc wi) ∨ (vk = .int .i64 3 ∧ RRel c w 3 vc wi) ∨ (vk = .int .i64 4 ∧ RRel c w 4 vc wi) ∨ (vk = .int .i64 5 ∧ RRel c w 5 vc wi) ∨ (vk = .int .i64 6 ∧ RRel c w 6 vc wi)) (fun _ vk _ => 7 - (intOf vk).toNat)
      case atStart => exact .inl ⟨rfl, HQ.out⟩
      case round =>
        rcases hrel with ⟨rfl, HR⟩ | ⟨rfl, HR⟩ | ⟨rfl, HR⟩ | ⟨rfl, HR⟩ | ⟨rfl, HR⟩ | ⟨rfl, HR⟩ | ⟨rfl, HR⟩
        · obtain ⟨rfl, hE⟩ := HR
          have k2 : ∀ h, (⟨#[10, 9, 0, 92, 39, 34]⟩ : ByteArray)[0]'h = 10 := fun _ => rfl
          have HX := hide hE
          clear hE
          by_cases hd : c = 10
          · have hde : ((c.toNat : Int) == 10) = true := by rw [hd]; rfl
            have hde2 : ((10 : Int) == (c.toNat : Int)) = true := by rw [hd]; rfl
            have E1 := hide (show qAt c 1 = [92, 110] by rw [hd]; rfl)
            have hx1 : (⟨#[110, 116, 48, 92, 39, 34]⟩ : ByteArray).extract 0 1 = str [110] := str_extract [110, 116, 48, 92, 39, 34] 0 1
            have hx2 : (⟨#[92]⟩ : ByteArray) ++ str [110] = str [92, 110] := str_app [92] [110]
            have hx3 : (str [110]).size = 1 := rfl
            generalize qAt c 0 = q at *
            clear hd
            go_wp2_with fail
            refine wp_region_ext 7 1 [] mixed (by kernel_rfl) trivial ?_
            repeat ((refine seq_exact ?_ (by rfl) (by rfl) (fun w1 hU => ?_) ?_); (rotate_left 1); (focus (clear hU; go_simp <;> with_reducible rfl)); (simp only [Act.put, List.setIfInBounds_toArray, List.set_cons_zero, List.set_cons_succ]))
            intro w7 hw7 _
            simp only [List.drop_succ_cons, List.drop_nil]
            have HX7 := hide (HX.out.trans hw7.un)
            clear hw7 HX
            go_wp2_with fail
            go_roundw
            case rel => exact .inr (.inl ⟨rfl, ⟨by rw [E1.out], HX7.out⟩⟩)
            case measure => simp [intOf]
          · have hde : ((c.toNat : Int) == 10) = false := (u8_eqI c 10 (by omega)).trans (beq_eq_false_iff_ne.2 hd)
            have hde2 : ((10 : Int) == (c.toNat : Int)) = false := by rw [beq_eq_false_iff_ne] at hde ⊢; exact fun e => hde e.symm
            have E1 := hide (show qAt c 1 = qAt c 0 by unfold qAt; rw [show escAt c 1 = escAt c 0 from if_neg hd])
            generalize qAt c 0 = q at *
            clear hd
            go_wp2_with fail
            refine wp_region_ext 7 1 [] mixed (by kernel_rfl) trivial ?_
            repeat ((refine seq_exact ?_ (by rfl) (by rfl) (fun w1 hU => ?_) ?_); (rotate_left 1); (focus (clear hU; go_simp <;> with_reducible rfl)); (simp only [Act.put, List.setIfInBounds_toArray, List.set_cons_zero, List.set_cons_succ]))
            intro w7 hw7 _
            simp only [List.drop_succ_cons, List.drop_nil]
            have HX7 := hide (HX.out.trans hw7.un)
            clear hw7 HX
            go_wp2_with fail
            go_roundw
            case rel => exact .inr (.inl ⟨rfl, ⟨by rw [E1.out], HX7.out⟩⟩)
            case measure => simp [intOf]
        · obtain ⟨rfl, hE⟩ := HR
          have k2 : ∀ h, (⟨#[10, 9, 0, 92, 39, 34]⟩ : ByteArray)[1]'h = 9 := fun _ => rfl
          have HX := hide hE
          clear hE
          by_cases hd : c = 9
          · have hde : ((c.toNat : Int) == 9) = true := by rw [hd]; rfl
            have hde2 : ((9 : Int) == (c.toNat : Int)) = true := by rw [hd]; rfl
            have E1 := hide (show qAt c 2 = [92, 116] by rw [hd]; rfl)
            have hx1 : (⟨#[110, 116, 48, 92, 39, 34]⟩ : ByteArray).extract 1 2 = str [116] := str_extract [110, 116, 48, 92, 39, 34] 1 2
            have hx2 : (⟨#[92]⟩ : ByteArray) ++ str [116] = str [92, 116] := str_app [92] [116]
            have hx3 : (str [116]).size = 1 := rfl
            generalize qAt c 1 = q at *
            clear hd
            go_wp2_with fail
            refine wp_region_ext 7 1 [] mixed (by kernel_rfl) trivial ?_
            repeat ((refine seq_exact ?_ (by rfl) (by rfl) (fun w1 hU => ?_) ?_); (rotate_left 1); (focus (clear hU; go_simp <;> with_reducible rfl)); (simp only [Act.put, List.setIfInBounds_toArray, List.set_cons_zero, List.set_cons_succ]))
            intro w7 hw7 _
            simp only [List.drop_succ_cons, List.drop_nil]
            have HX7 := hide (HX.out.trans hw7.un)
            clear hw7 HX
            go_wp2_with fail
            go_roundw
            case rel => exact .inr (.inr (.inl ⟨rfl, ⟨by rw [E1.out], HX7.out⟩⟩))
            case measure => simp [intOf]
          · have hde : ((c.toNat : Int) == 9) = false := (u8_eqI c 9 (by omega)).trans (beq_eq_false_iff_ne.2 hd)
            have hde2 : ((9 : Int) == (c.toNat : Int)) = false := by rw [beq_eq_false_iff_ne] at hde ⊢; exact fun e => hde e.symm
            have E1 := hide (show qAt c 2 = qAt c 1 by unfold qAt; rw [show escAt c 2 = escAt c 1 from if_neg hd])
            generalize qAt c 1 = q at *
            clear hd
            go_wp2_with fail
            refine wp_region_ext 7 1 [] mixed (by kernel_rfl) trivial ?_
            repeat ((refine seq_exact ?_ (by rfl) (by rfl) (fun w1 hU => ?_) ?_); (rotate_left 1); (focus (clear hU; go_simp <;> with_reducible rfl)); (simp only [Act.put, List.setIfInBounds_toArray, List.set_cons_zero, List.set_cons_succ]))
            intro w7 hw7 _
            simp only [List.drop_succ_cons, List.drop_nil]
            have HX7 := hide (HX.out.trans hw7.un)
            clear hw7 HX
            go_wp2_with fail
            go_roundw
            case rel => exact .inr (.inr (.inl ⟨rfl, ⟨by rw [E1.out], HX7.out⟩⟩))
            case measure => simp [intOf]
        · obtain ⟨rfl, hE⟩ := HR
          have k2 : ∀ h, (⟨#[10, 9, 0, 92, 39, 34]⟩ : ByteArray)[2]'h = 0 := fun _ => rfl
          have HX := hide hE
          clear hE
          by_cases hd : c = 0
          · have hde : ((c.toNat : Int) == 0) = true := by rw [hd]; rfl
            have hde2 : ((0 : Int) == (c.toNat : Int)) = true := by rw [hd]; rfl
            have E1 := hide (show qAt c 3 = [92, 48] by rw [hd]; rfl)
            have hx1 : (⟨#[110, 116, 48, 92, 39, 34]⟩ : ByteArray).extract 2 3 = str [48] := str_extract [110, 116, 48, 92, 39, 34] 2 3
            have hx2 : (⟨#[92]⟩ : ByteArray) ++ str [48] = str [92, 48] := str_app [92] [48]
            have hx3 : (str [48]).size = 1 := rfl
            generalize qAt c 2 = q at *
            clear hd
            go_wp2_with fail
            refine wp_region_ext 7 1 [] mixed (by kernel_rfl) trivial ?_
            repeat ((refine seq_exact ?_ (by rfl) (by rfl) (fun w1 hU => ?_) ?_); (rotate_left 1); (focus (clear hU; go_simp <;> with_reducible rfl)); (simp only [Act.put, List.setIfInBounds_toArray, List.set_cons_zero, List.set_cons_succ]))
            intro w7 hw7 _
            simp only [List.drop_succ_cons, List.drop_nil]
            have HX7 := hide (HX.out.trans hw7.un)
            clear hw7 HX
            go_wp2_with fail
            go_roundw
            case rel => exact .inr (.inr (.inr (.inl ⟨rfl, ⟨by rw [E1.out], HX7.out⟩⟩)))
            case measure => simp [intOf]
          · have hde : ((c.toNat : Int) == 0) = false := (u8_eqI c 0 (by omega)).trans (beq_eq_false_iff_ne.2 hd)
            have hde2 : ((0 : Int) == (c.toNat : Int)) = false := by rw [beq_eq_false_iff_ne] at hde ⊢; exact fun e => hde e.symm
            have E1 := hide (show qAt c 3 = qAt c 2 by unfold qAt; rw [show escAt c 3 = escAt c 2 from if_neg hd])
            generalize qAt c 2 = q at *
            clear hd
            go_wp2_with fail
            refine wp_region_ext 7 1 [] mixed (by kernel_rfl) trivial ?_
            repeat ((refine seq_exact ?_ (by rfl) (by rfl) (fun w1 hU => ?_) ?_); (rotate_left 1); (focus (clear hU; go_simp <;> with_reducible rfl)); (simp only [Act.put, List.setIfInBounds_toArray, List.set_cons_zero, List.set_cons_succ]))
            intro w7 hw7 _
            simp only [List.drop_succ_cons, List.drop_nil]
            have HX7 := hide (HX.out.trans hw7.un)
            clear hw7 HX
            go_wp2_with fail
            go_roundw
            case rel => exact .inr (.inr (.inr (.inl ⟨rfl, ⟨by rw [E1.out], HX7.out⟩⟩)))
            case measure => simp [intOf]
        · obtain ⟨rfl, hE⟩ := HR
          have k2 : ∀ h, (⟨#[10, 9, 0, 92, 39, 34]⟩ : ByteArray)[3]'h = 92 := fun _ => rfl
          have HX := hide hE
          clear hE
          by_cases hd : c = 92
          · have hde : ((c.toNat : Int) == 92) = true := by rw [hd]; rfl
            have hde2 : ((92 : Int) == (c.toNat : Int)) = true := by rw [hd]; rfl
            have E1 := hide (show qAt c 4 = [92, 92] by rw [hd]; rfl)
            have hx1 : (⟨#[110, 116, 48, 92, 39, 34]⟩ : ByteArray).extract 3 4 = str [92] := str_extract [110, 116, 48, 92, 39, 34] 3 4
            have hx2 : (⟨#[92]⟩ : ByteArray) ++ str [92] = str [92, 92] := str_app [92] [92]
            have hx3 : (str [92]).size = 1 := rfl
            generalize qAt c 3 = q at *
            clear hd
            go_wp2_with fail
            refine wp_region_ext 7 1 [] mixed (by kernel_rfl) trivial ?_
            repeat ((refine seq_exact ?_ (by rfl) (by rfl) (fun w1 hU => ?_) ?_); (rotate_left 1); (focus (clear hU; go_simp <;> with_reducible rfl)); (simp only [Act.put, List.setIfInBounds_toArray, List.set_cons_zero, List.set_cons_succ]))
            intro w7 hw7 _
            simp only [List.drop_succ_cons, List.drop_nil]
            have HX7 := hide (HX.out.trans hw7.un)
            clear hw7 HX
            go_wp2_with fail
            go_roundw
            case rel => exact .inr (.inr (.inr (.inr (.inl ⟨rfl, ⟨by rw [E1.out], HX7.out⟩⟩))))
            case measure => simp [intOf]
          · have hde : ((c.toNat : Int) == 92) = false := (u8_eqI c 92 (by omega)).trans (beq_eq_false_iff_ne.2 hd)
            have hde2 : ((92 : Int) == (c.toNat : Int)) = false := by rw [beq_eq_false_iff_ne] at hde ⊢; exact fun e => hde e.symm
            have E1 := hide (show qAt c 4 = qAt c 3 by unfold qAt; rw [show escAt c 4 = escAt c 3 from if_neg hd])
            generalize qAt c 3 = q at *
            clear hd
            go_wp2_with fail
            refine wp_region_ext 7 1 [] mixed (by kernel_rfl) trivial ?_
            repeat ((refine seq_exact ?_ (by rfl) (by rfl) (fun w1 hU => ?_) ?_); (rotate_left 1); (focus (clear hU; go_simp <;> with_reducible rfl)); (simp only [Act.put, List.setIfInBounds_toArray, List.set_cons_zero, List.set_cons_succ]))
            intro w7 hw7 _
            simp only [List.drop_succ_cons, List.drop_nil]
            have HX7 := hide (HX.out.trans hw7.un)
            clear hw7 HX
            go_wp2_with fail
            go_roundw
            case rel => exact .inr (.inr (.inr (.inr (.inl ⟨rfl, ⟨by rw [E1.out], HX7.out⟩⟩))))
            case measure => simp [intOf]
        · obtain ⟨rfl, hE⟩ := HR
          have k2 : ∀ h, (⟨#[10, 9, 0, 92, 39, 34]⟩ : ByteArray)[4]'h = 39 := fun _ => rfl
          have HX := hide hE
          clear hE
          by_cases hd : c = 39
          · have hde : ((c.toNat : Int) == 39) = true := by rw [hd]; rfl
            have hde2 : ((39 : Int) == (c.toNat : Int)) = true := by rw [hd]; rfl
            have E1 := hide (show qAt c 5 = [92, 39] by rw [hd]; rfl)
            have hx1 : (⟨#[110, 116, 48, 92, 39, 34]⟩ : ByteArray).extract 4 5 = str [39] := str_extract [110, 116, 48, 92, 39, 34] 4 5
            have hx2 : (⟨#[92]⟩ : ByteArray) ++ str [39] = str [92, 39] := str_app [92] [39]
            have hx3 : (str [39]).size = 1 := rfl
            generalize qAt c 4 = q at *
            clear hd
            go_wp2_with fail
            refine wp_region_ext 7 1 [] mixed (by kernel_rfl) trivial ?_
            repeat ((refine seq_exact ?_ (by rfl) (by rfl) (fun w1 hU => ?_) ?_); (rotate_left 1); (focus (clear hU; go_simp <;> with_reducible rfl)); (simp only [Act.put, List.setIfInBounds_toArray, List.set_cons_zero, List.set_cons_succ]))
            intro w7 hw7 _
            simp only [List.drop_succ_cons, List.drop_nil]
            have HX7 := hide (HX.out.trans hw7.un)
            clear hw7 HX
            go_wp2_with fail
            go_roundw
            case rel => exact .inr (.inr (.inr (.inr (.inr (.inl ⟨rfl, ⟨by rw [E1.out], HX7.out⟩⟩)))))
            case measure => simp [intOf]
          · have hde : ((c.toNat : Int) == 39) = false := (u8_eqI c 39 (by omega)).trans (beq_eq_false_iff_ne.2 hd)
            have hde2 : ((39 : Int) == (c.toNat : Int)) = false := by rw [beq_eq_false_iff_ne] at hde ⊢; exact fun e => hde e.symm
            have E1 := hide (show qAt c 5 = qAt c 4 by unfold qAt; rw [show escAt c 5 = escAt c 4 from if_neg hd])
            generalize qAt c 4 = q at *
            clear hd
            go_wp2_with fail
            refine wp_region_ext 7 1 [] mixed (by kernel_rfl) trivial ?_
            repeat ((refine seq_exact ?_ (by rfl) (by rfl) (fun w1 hU => ?_) ?_); (rotate_left 1); (focus (clear hU; go_simp <;> with_reducible rfl)); (simp only [Act.put, List.setIfInBounds_toArray, List.set_cons_zero, List.set_cons_succ]))
            intro w7 hw7 _
            simp only [List.drop_succ_cons, List.drop_nil]
            have HX7 := hide (HX.out.trans hw7.un)
            clear hw7 HX
            go_wp2_with fail
            go_roundw
            case rel => exact .inr (.inr (.inr (.inr (.inr (.inl ⟨rfl, ⟨by rw [E1.out], HX7.out⟩⟩)))))
            case measure => simp [intOf]
        · obtain ⟨rfl, hE⟩ := HR
          have k2 : ∀ h, (⟨#[10, 9, 0, 92, 39, 34]⟩ : ByteArray)[5]'h = 34 := fun _ => rfl
          have HX := hide hE
          clear hE
          by_cases hd : c = 34
          · have hde : ((c.toNat : Int) == 34) = true := by rw [hd]; rfl
            have hde2 : ((34 : Int) == (c.toNat : Int)) = true := by rw [hd]; rfl
            have E1 := hide (show qAt c 6 = [92, 34] by rw [hd]; rfl)
            have hx1 : (⟨#[110, 116, 48, 92, 39, 34]⟩ : ByteArray).extract 5 6 = str [34] := str_extract [110, 116, 48, 92, 39, 34] 5 6
            have hx2 : (⟨#[92]⟩ : ByteArray) ++ str [34] = str [92, 34] := str_app [92] [34]
            have hx3 : (str [34]).size = 1 := rfl
            generalize qAt c 5 = q at *
            clear hd
            go_wp2_with fail
            refine wp_region_ext 7 1 [] mixed (by kernel_rfl) trivial ?_
            repeat ((refine seq_exact ?_ (by rfl) (by rfl) (fun w1 hU => ?_) ?_); (rotate_left 1); (focus (clear hU; go_simp <;> with_reducible rfl)); (simp only [Act.put, List.setIfInBounds_toArray, List.set_cons_zero, List.set_cons_succ]))
            intro w7 hw7 _
            simp only [List.drop_succ_cons, List.drop_nil]
            have HX7 := hide (HX.out.trans hw7.un)
            clear hw7 HX
            go_wp2_with fail
            go_roundw
            case rel => exact .inr (.inr (.inr (.inr (.inr (.inr (⟨rfl, ⟨by rw [E1.out], HX7.out⟩⟩))))))
            case measure => simp [intOf]
          · have hde : ((c.toNat : Int) == 34) = false := (u8_eqI c 34 (by omega)).trans (beq_eq_false_iff_ne.2 hd)
            have hde2 : ((34 : Int) == (c.toNat : Int)) = false := by rw [beq_eq_false_iff_ne] at hde ⊢; exact fun e => hde e.symm
            have E1 := hide (show qAt c 6 = qAt c 5 by unfold qAt; rw [show escAt c 6 = escAt c 5 from if_neg hd])
            generalize qAt c 5 = q at *
            clear hd
            go_wp2_with fail
            refine wp_region_ext 7 1 [] mixed (by kernel_rfl) trivial ?_
            repeat ((refine seq_exact ?_ (by rfl) (by rfl) (fun w1 hU => ?_) ?_); (rotate_left 1); (focus (clear hU; go_simp <;> with_reducible rfl)); (simp only [Act.put, List.setIfInBounds_toArray, List.set_cons_zero, List.set_cons_succ]))
            intro w7 hw7 _
            simp only [List.drop_succ_cons, List.drop_nil]
            have HX7 := hide (HX.out.trans hw7.un)
            clear hw7 HX
            go_wp2_with fail
            go_roundw
            case rel => exact .inr (.inr (.inr (.inr (.inr (.inr (⟨rfl, ⟨by rw [E1.out], HX7.out⟩⟩))))))
            case measure => simp [intOf]
        · obtain ⟨rfl, hE⟩ := HR
          have HX := hide hE
          have HQ6 := hide (show qAt c 6 = escQ c from escAt_6 c)
          clear hE
          have hq2 : (qAt c 6).length ≤ 2 := by rw [HQ6.out]; exact (escQ_length c).2
          generalize qAt c 6 = q at *
          have hx4 : (str q).size = q.length := str_size q
          have hx5 : str b ++ str q = str (b ++ q) := str_app b q
          go_wp2_with fail
          go_roundw
          case rel => exact ⟨j + 1, by rw [HS2.out, ← HQ6.out], by go_num, by omega, HX⟩
          case measure => simp [intOf]; omega
    · have hlt' : ¬ (j : Int) < l.length := by omega
      have HJ := hide (show l.take j = l from List.take_of_length_le (by omega))
      have hb2 : ((34 :: qescL l) : List UInt8).length ≤ 200001 := by have := qescL_length l; simp only [List.length_cons]; omega
      have hv : Value.string (str (34 :: qescL (l.take j))) = .string (str (34 :: qescL l)) := by rw [HJ.out]
      have HV := hide hv
      clear hv
      generalize hbq : 34 :: qescL (l.take j) = b at *
      have HBQ := hide (show quoteL l = b ++ [34] by rw [← hbq, HJ.out]; rfl)
      have hb3 : b.length ≤ 200001 := by rw [← hbq, HJ.out]; exact hb2
      have hsb : (str b).size = b.length := str_size b
      have hx5 : str b ++ (⟨#[34]⟩ : ByteArray) = str (b ++ [34]) := str_app b [34]
      clear hbq HJ HV hb2
      go_wp2_with fail
      go_ret
      exact ⟨by rw [HBQ.out]; rfl, HX.out⟩
set_option maxRecDepth 100000 in
set_option maxHeartbeats 4000000 in
theorem lexnames_any (l : List UInt8) (w : World) (hz : EZ w) : Calls Tryd.prog 8 #[.string (str l)] w fun e w' => e = .returned (.bool true) ∧ Ext w w' := by
  have hsz : (str l).size = l.length := str_size l
  have HZ := hide hz
  clear hz
  by_cases hbig : 300 < l.length
  · have hbig' : (300 : Int) < l.length := by omega
    go_enter Tryd.func8, Tryd.ntmps8
    go_wp2_with (first
      | (go_at_call 9; refine (awake47_any _ HZ.out).mono ?_; rintro e w1 ⟨rfl, hE1⟩; have HE1 := hide hE1; clear hE1))
    go_ret
    exact ⟨rfl, HE1.out⟩
  · have hbig' : ¬ (300 : Int) < l.length := by omega
    have HI := hide (fun w => isname_any l (by omega) w)
    have HJ := hide (fun w => risname_any l (by omega) w)
    have HQ := hide (fun w => quote_any l (by omega) w)
    have HR := hide (fun w => rquote_any l (by omega) w)
    generalize isNm l = b at *
    generalize quoteL l = q at *
    cases b
    all_goals
      go_enter Tryd.func8, Tryd.ntmps8
      go_wp2_with (first
        | (go_at_call 9; refine (awake47_any _ HZ.out).mono ?_; rintro e w1 ⟨rfl, hE1⟩; have HE1 := hide hE1; clear hE1)
        | (go_at_call 16; refine (HI.out _).mono ?_; rintro e w2 ⟨rfl, rfl⟩)
        | (go_at_call 17; refine (HJ.out _).mono ?_; rintro e w3 ⟨rfl, hE3⟩; have HE3 := hide (HE1.out.trans hE3); clear hE3)
        | (go_at_call 15; refine (HQ.out _).mono ?_; rintro e w4 ⟨rfl, hE4⟩; have HE4 := hide (HE3.out.trans hE4); clear hE4)
        | (go_at_call 18; refine (HR.out _).mono ?_; rintro e w5 ⟨rfl, hE5⟩; have HE5 := hide (HE4.out.trans hE5); clear hE5))
      go_ret
      exact ⟨rfl, HE5.out⟩
end Go.Proofs.YtbfjopknhlnbcaaDoor
