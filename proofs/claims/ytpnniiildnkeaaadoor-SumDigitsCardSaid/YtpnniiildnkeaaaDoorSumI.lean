/-
  Digits of the reference.
-/
import Derived.Test.YtpnniiildnkeaaaDoorSumF
namespace Go.Proofs.YtpnniiildnkeaaaDoor
open Go.RowKit
set_option linter.unusedVariables false

def tab16 : ByteArray := ⟨#[48, 49, 50, 51, 52, 53, 54, 55, 56, 57, 97, 98, 99, 100, 101, 102]⟩
theorem cut16 (d : Nat) (hd : d < 16) : (⟨#[48, 49, 50, 51, 52, 53, 54, 55, 56, 57, 97, 98, 99, 100, 101, 102]⟩ : ByteArray).extract d (d + 1) = str [hexD d] := by
  have hc : d = 0 ∨ d = 1 ∨ d = 2 ∨ d = 3 ∨ d = 4 ∨ d = 5 ∨ d = 6 ∨ d = 7 ∨ d = 8 ∨ d = 9 ∨ d = 10 ∨ d = 11 ∨ d = 12 ∨ d = 13 ∨ d = 14 ∨ d = 15 := by omega
  rcases hc with rfl | rfl | rfl | rfl | rfl | rfl | rfl | rfl | rfl | rfl | rfl | rfl | rfl | rfl | rfl | rfl
  all_goals rfl
set_option maxRecDepth 100000 in
set_option maxHeartbeats 1000000 in
theorem rdigits_any (h : UInt64) (w : World) : Calls Tryd.prog 19 #[.int .u64 (h.toNat : Int)] w fun e w' => e = .returned (.string (str (hexL h.toNat 16))) ∧ Ext w w' := by
  have hmax := h.toNat_lt
  generalize h.toNat = H at *
  go_enter Tryd.func19, Tryd.ntmps19
  go_wp2_with fail
  go_loopw [0, 3, 4] (fun x s i wr => ∃ (j u : Nat), j ≤ 16 ∧ i = .int .i64 (j : Int) ∧ x = .int .u64 (u : Int) ∧ s = .string (str (hexL H j)) ∧ u ≤ H ∧ Hid (u = H / 16 ^ j) ∧ Hid (Ext w wr)) (fun _ _ i _ => 16 - (intOf i).toNat)
  case atStart => exact ⟨0, H, by omega, rfl, rfl, rfl, Nat.le_refl _, hide (by simp), hide (Ext.refl w)⟩
  case round =>
    obtain ⟨j, u, hj, rfl, rfl, rfl, huH, HU, HX⟩ := hrel
    by_cases hlt : j < 16
    · obtain ⟨d, hd⟩ : ∃ d, u % 16 = d := ⟨_, rfl⟩
      have hd16 : d < 16 := by rw [← hd]; exact Nat.mod_lt _ (by omega)
      have hmod : (u : Int) % 16 = (d : Int) := by omega
      have HDD := hide (show d = H / 16 ^ j % 16 by rw [← hd, HU.out])
      have hcut := cut16 d hd16
      have hsz : (str (hexL H j)).size = j := by
        show (hexL H j).toArray.size = _
        simp [hexL_length]
      have hs1 : (str [hexD d]).size = 1 := rfl
      clear hd
      go_wp2_with fail
      go_roundw
      case rel =>
        refine ⟨j + 1, u / 16, by omega, by go_num, by go_num, ?_, by omega, hide (by rw [HU.out, div_pow]), HX⟩
        have e : str [hexD d] ++ str (hexL H j) = str (hexL H (j + 1)) := by
          rw [HDD.out]
          simp [str, hexL, ByteArray.ext_iff]
        rw [e]
      case measure => simp [intOf]; omega
    · have hjj : j = 16 := by omega
      subst hjj
      go_wp2_with fail
      go_ret
      exact ⟨rfl, HX.out⟩
set_option maxRecDepth 100000 in
set_option maxHeartbeats 4000000 in
theorem of_law (h : UInt64) (A : Option Addr) (cap : Nat) (l : List UInt8) (a b c : Int) (w : World) (ht : TZ w) (hs : Sl w A cap l) :
    Calls Tryd.prog 6 #[.int .u64 (h.toNat : Int), .slice A l.length cap, .agg #[.int .i64 a, .int .i64 b, .int .i64 c]] w fun e w' => e = .returned (.bool true) ∧ Ext w w' := by
  have hma := hs.max
  have hla := hs.le
  unfold maxLen at hma
  have hl2 : l.length ≤ 9223372036854775807 := by omega
  have he := Ext.alloc w (.cells #[.int .i64 a, .int .i64 b, .int .i64 c] 36)
  have HB := hide (Blk.new w 36 #[.int .i64 a, .int .i64 b, .int .i64 c])
  have HS := hide (hs.ext he)
  have HT := hide (ht.ext he)
  have HX := hide he
  clear hs ht hma hla he
  go_enter Tryd.func6, Tryd.ntmps6
  go_wp2_with fail
  generalize hwb : w.alloc (.cells #[.int .i64 a, .int .i64 b, .int .i64 c] 36) = wb at *
  clear hwb
  refine (awake02_any wb HT.out).mono ?_
  rintro e w1 ⟨rfl, he⟩
  have HB := hide (HB.out.ext he)
  have HS := hide (HS.out.ext he)
  have HT := hide (HT.out.ext he)
  have HX := hide (HX.out.trans he)
  clear he
  obtain ⟨s, hs⟩ : ∃ s, sumU h l = s := ⟨_, rfl⟩
  obtain ⟨o, ho⟩ : ∃ o, ofU l = o := ⟨_, rfl⟩
  obtain ⟨r, hr⟩ : ∃ r, ansI a b c l = r := ⟨_, rfl⟩
  obtain ⟨x, hx⟩ : ∃ x, hexL h.toNat 16 = x := ⟨_, rfl⟩
  have HSS := hide hs
  have HOO := hide ho
  have HRR := hide hr
  have HXX := hide hx
  clear hs ho hr hx
  by_cases hbig : 600 < l.length
  · have hbd : decide ((600 : Int) < (l.length : Int)) = true := by simp; omega
    go_wp2_with fail
    refine wp_region_ext 46 3 [] mixed (by kernel_rfl) trivial ?_
    repeat (first | ((refine seq_skip (by rfl) ?_); (simp only [Act.put, List.setIfInBounds_toArray, List.set_cons_zero, List.set_cons_succ])) | ((refine seq_exact ?_ (by rfl) (by rfl) (fun w1 hU => ?_) ?_); (rotate_left 1); (focus (have hb := hbd; go_simp <;> with_reducible rfl)); (simp only [Act.put, List.setIfInBounds_toArray, List.set_cons_zero, List.set_cons_succ])))
    intro w7 hw7 _
    simp only [List.drop_succ_cons, List.drop_nil]
    have HX := hide (HX.out.trans hw7.un)
    clear hw7
    go_wp2_with fail
    go_ret
    exact ⟨rfl, HX.out⟩
  have hbd : decide ((600 : Int) < (l.length : Int)) = false := by simp; omega
  go_wp2_with fail
  refine wp_region_ext 46 3 [(6, fun v => v = .int .u64 (s.toNat : Int), fun _ _ => True), (9, fun v => v = .int .u64 (s.toNat : Int), fun _ _ => True), (13, fun v => v = .int .u64 (o.toNat : Int), fun _ _ => True), (15, fun v => v = .int .u64 (o.toNat : Int), fun _ _ => True), (26, fun v => v = .int .i64 r, fun _ _ => True), (34, fun v => v = .int .i64 r, fun _ _ => True), (39, fun v => v = .string (str x), fun _ _ => True), (41, fun v => v = .string (str x), fun _ _ => True)] mixed (by kernel_rfl)
    ⟨fun _ _ _ _ _ => trivial, fun _ _ _ _ _ => trivial, fun _ _ _ _ _ => trivial, fun _ _ _ _ _ => trivial, fun _ _ _ _ _ => trivial, fun _ _ _ _ _ => trivial, fun _ _ _ _ _ => trivial, fun _ _ _ _ _ => trivial, trivial⟩ ?_
  repeat (first | ((refine seq_skip (by rfl) ?_); (simp only [Act.put, List.setIfInBounds_toArray, List.set_cons_zero, List.set_cons_succ])) | ((refine seq_exact ?_ (by rfl) (by rfl) (fun w1 hU => ?_) ?_); (rotate_left 1); (focus (have hk := (HB.out.ext hU.un).cell; have hb := hbd; clear hU; go_simp <;> with_reducible rfl)); (simp only [Act.put, List.setIfInBounds_toArray, List.set_cons_zero, List.set_cons_succ])))
  refine seq_opaque _ _ (by rfl) rfl ⟨_, rfl⟩ (by simp) (fun w5 hU _ K hK => ?_) ?_
  · have hq := from_any h A cap l _ (HS.out.ext hU.un)
    rw [HSS.out] at hq
    go_simp
    refine hq.mono ?_
    rintro e w6 ⟨rfl, rfl⟩
    exact hK _ _ (Ext.refl _) rfl trivial
  rintro _ rfl
  simp only [Act.put, List.setIfInBounds_toArray, List.set_cons_zero, List.set_cons_succ]
  repeat (first | ((refine seq_skip (by rfl) ?_); (simp only [Act.put, List.setIfInBounds_toArray, List.set_cons_zero, List.set_cons_succ])) | ((refine seq_exact ?_ (by rfl) (by rfl) (fun w1 hU => ?_) ?_); (rotate_left 1); (focus (have hk := (HB.out.ext hU.un).cell; have hb := hbd; clear hU; go_simp <;> with_reducible rfl)); (simp only [Act.put, List.setIfInBounds_toArray, List.set_cons_zero, List.set_cons_succ])))
  refine seq_opaque _ _ (by rfl) rfl ⟨_, rfl⟩ (by simp) (fun w5 hU _ K hK => ?_) ?_
  · have hq := rfrom_any h A cap l _ (HS.out.ext hU.un)
    rw [HSS.out] at hq
    go_simp
    refine hq.mono ?_
    rintro e w6 ⟨rfl, rfl⟩
    exact hK _ _ (Ext.refl _) rfl trivial
  rintro _ rfl
  simp only [Act.put, List.setIfInBounds_toArray, List.set_cons_zero, List.set_cons_succ]
  repeat (first | ((refine seq_skip (by rfl) ?_); (simp only [Act.put, List.setIfInBounds_toArray, List.set_cons_zero, List.set_cons_succ])) | ((refine seq_exact ?_ (by rfl) (by rfl) (fun w1 hU => ?_) ?_); (rotate_left 1); (focus (have hk := (HB.out.ext hU.un).cell; have hb := hbd; clear hU; go_simp <;> with_reducible rfl)); (simp only [Act.put, List.setIfInBounds_toArray, List.set_cons_zero, List.set_cons_succ])))
  refine seq_opaque _ _ (by rfl) rfl ⟨_, rfl⟩ (by simp) (fun w5 hU _ K hK => ?_) ?_
  · have hq := of_any A cap l _ (HS.out.ext hU.un) hl2
    rw [HOO.out] at hq
    go_simp
    refine hq.mono ?_
    rintro e w6 ⟨rfl, h6⟩
    exact hK _ _ h6 rfl trivial
  rintro _ rfl
  simp only [Act.put, List.setIfInBounds_toArray, List.set_cons_zero, List.set_cons_succ]
  repeat (first | ((refine seq_skip (by rfl) ?_); (simp only [Act.put, List.setIfInBounds_toArray, List.set_cons_zero, List.set_cons_succ])) | ((refine seq_exact ?_ (by rfl) (by rfl) (fun w1 hU => ?_) ?_); (rotate_left 1); (focus (have hk := (HB.out.ext hU.un).cell; have hb := hbd; clear hU; go_simp <;> with_reducible rfl)); (simp only [Act.put, List.setIfInBounds_toArray, List.set_cons_zero, List.set_cons_succ])))
  refine seq_opaque _ _ (by rfl) rfl ⟨_, rfl⟩ (by simp) (fun w5 hU _ K hK => ?_) ?_
  · have hq := rof_any A cap l _ (HS.out.ext hU.un) hl2
    rw [HOO.out] at hq
    go_simp
    refine hq.mono ?_
    rintro e w6 ⟨rfl, h6⟩
    exact hK _ _ h6 rfl trivial
  rintro _ rfl
  simp only [Act.put, List.setIfInBounds_toArray, List.set_cons_zero, List.set_cons_succ]
  repeat (first | ((refine seq_skip (by rfl) ?_); (simp only [Act.put, List.setIfInBounds_toArray, List.set_cons_zero, List.set_cons_succ])) | ((refine seq_exact ?_ (by rfl) (by rfl) (fun w1 hU => ?_) ?_); (rotate_left 1); (focus (have hk := (HB.out.ext hU.un).cell; have hb := hbd; clear hU; go_simp <;> with_reducible rfl)); (simp only [Act.put, List.setIfInBounds_toArray, List.set_cons_zero, List.set_cons_succ])))
  refine seq_opaque _ _ (by rfl) rfl ⟨_, rfl⟩ (by simp) (fun w5 hU _ K hK => ?_) ?_
  · have hq := answer_any a b c A cap l _ (HS.out.ext hU.un) hl2
    rw [HRR.out] at hq
    go_simp
    refine hq.mono ?_
    rintro e w6 ⟨rfl, h6⟩
    exact hK _ _ h6 rfl trivial
  rintro _ rfl
  simp only [Act.put, List.setIfInBounds_toArray, List.set_cons_zero, List.set_cons_succ]
  repeat (first | ((refine seq_skip (by rfl) ?_); (simp only [Act.put, List.setIfInBounds_toArray, List.set_cons_zero, List.set_cons_succ])) | ((refine seq_exact ?_ (by rfl) (by rfl) (fun w1 hU => ?_) ?_); (rotate_left 1); (focus (have hk := (HB.out.ext hU.un).cell; have hb := hbd; clear hU; go_simp <;> with_reducible rfl)); (simp only [Act.put, List.setIfInBounds_toArray, List.set_cons_zero, List.set_cons_succ])))
  refine seq_opaque _ _ (by rfl) rfl ⟨_, rfl⟩ (by simp) (fun w5 hU _ K hK => ?_) ?_
  · have hq := ranswer_any a b c A cap l _ (HS.out.ext hU.un) hl2
    rw [HRR.out] at hq
    go_simp
    refine hq.mono ?_
    rintro e w6 ⟨rfl, h6⟩
    exact hK _ _ h6 rfl trivial
  rintro _ rfl
  simp only [Act.put, List.setIfInBounds_toArray, List.set_cons_zero, List.set_cons_succ]
  repeat (first | ((refine seq_skip (by rfl) ?_); (simp only [Act.put, List.setIfInBounds_toArray, List.set_cons_zero, List.set_cons_succ])) | ((refine seq_exact ?_ (by rfl) (by rfl) (fun w1 hU => ?_) ?_); (rotate_left 1); (focus (have hk := (HB.out.ext hU.un).cell; have hb := hbd; clear hU; go_simp <;> with_reducible rfl)); (simp only [Act.put, List.setIfInBounds_toArray, List.set_cons_zero, List.set_cons_succ])))
  refine seq_opaque _ _ (by rfl) rfl ⟨_, rfl⟩ (by simp) (fun w5 hU _ K hK => ?_) ?_
  · have hq := digits_any h _ (HT.out.ext hU.un)
    rw [HXX.out] at hq
    go_simp
    refine hq.mono ?_
    rintro e w6 ⟨rfl, h6⟩
    exact hK _ _ h6 rfl trivial
  rintro _ rfl
  simp only [Act.put, List.setIfInBounds_toArray, List.set_cons_zero, List.set_cons_succ]
  repeat (first | ((refine seq_skip (by rfl) ?_); (simp only [Act.put, List.setIfInBounds_toArray, List.set_cons_zero, List.set_cons_succ])) | ((refine seq_exact ?_ (by rfl) (by rfl) (fun w1 hU => ?_) ?_); (rotate_left 1); (focus (have hk := (HB.out.ext hU.un).cell; have hb := hbd; clear hU; go_simp <;> with_reducible rfl)); (simp only [Act.put, List.setIfInBounds_toArray, List.set_cons_zero, List.set_cons_succ])))
  refine seq_opaque _ _ (by rfl) rfl ⟨_, rfl⟩ (by simp) (fun w5 hU _ K hK => ?_) ?_
  · have hq := rdigits_any h w5
    rw [HXX.out] at hq
    go_simp
    refine hq.mono ?_
    rintro e w6 ⟨rfl, h6⟩
    exact hK _ _ h6 rfl trivial
  rintro _ rfl
  simp only [Act.put, List.setIfInBounds_toArray, List.set_cons_zero, List.set_cons_succ]
  repeat (first | ((refine seq_skip (by rfl) ?_); (simp only [Act.put, List.setIfInBounds_toArray, List.set_cons_zero, List.set_cons_succ])) | ((refine seq_exact ?_ (by rfl) (by rfl) (fun w1 hU => ?_) ?_); (rotate_left 1); (focus (have hk := (HB.out.ext hU.un).cell; have hb := hbd; clear hU; go_simp <;> with_reducible rfl)); (simp only [Act.put, List.setIfInBounds_toArray, List.set_cons_zero, List.set_cons_succ])))
  intro w7 hw7 _
  simp only [List.drop_succ_cons, List.drop_nil]
  have HX := hide (HX.out.trans hw7.un)
  clear hw7
  go_wp2_with fail
  go_ret
  exact ⟨ret_bool (by simp), HX.out⟩
theorem of_law' (h : Int) (A : Option Addr) (cap : Nat) (l : List UInt8) (a b c : Int) (w : World) (w0 : (Lit.int .u64 h).wf = true) (ht : TZ w) (hs : Sl w A cap l) :
    Calls Tryd.prog 6 #[.int .u64 h, .slice A l.length cap, .agg #[.int .i64 a, .int .i64 b, .int .i64 c]] w fun e w' => e = .returned (.bool true) ∧ Ext w w' := by
  rw [u64_of_wf w0]
  exact of_law _ A cap l a b c w ht hs
end Go.Proofs.YtpnniiildnkeaaaDoor
