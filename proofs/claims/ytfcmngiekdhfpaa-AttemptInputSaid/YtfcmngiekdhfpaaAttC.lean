/-
  Normal of the program and of the reference.
-/
import Derived.Test.YtfcmngiekdhfpaaAttB
namespace Go.Proofs.Ytfcmngiekdhfpaa
open Go.RowKit
set_option linter.unusedVariables false

set_option maxRecDepth 100000 in
set_option maxHeartbeats 1000000 in
theorem normal_any (A B E : Option Addr) (n ca cb ce : Nat) (b x : List UInt8) (k : Int) (w : World) (hn : n ≤ 9223372036854775807) (hb : Sl w B cb b) (hx : Sl w E ce x) (lb : b.length ≤ 1048576) (lx : x.length ≤ 1048576) (hk : k ≤ 1099511627776) :
    Calls Try.prog 26 #[.slice A n ca, .slice B b.length cb, .slice E x.length ce, .int .i64 k] w fun e w' => ∃ u, e = .returned u ∧ OutV ⟨0, costN n b.length k, 0, b, x⟩ u w' ∧ Ext w w' := by
  have HB := hide (hb.ext (Ext.alloc w (.cells #[.int .i64 0, .int .i64 0, .int .i64 0, .slice none 0 0, .slice none 0 0] 53)))
  have HX := hide (hx.ext (Ext.alloc w (.cells #[.int .i64 0, .int .i64 0, .int .i64 0, .slice none 0 0, .slice none 0 0] 53)))
  have HO := hide (Blk.new w 53 #[.int .i64 0, .int .i64 0, .int .i64 0, .slice none 0 0, .slice none 0 0])
  have HE := hide (Ext.alloc w (.cells #[.int .i64 0, .int .i64 0, .int .i64 0, .slice none 0 0, .slice none 0 0] 53))
  have hn' : (n : Int) ≤ 9223372036854775807 := by omega
  obtain ⟨cc, hcc0⟩ : ∃ cc, costN n b.length k = cc := ⟨_, rfl⟩
  rw [hcc0]
  have HCC := hide hcc0
  clear hb hx hcc0
  go_enter Try.func26, Try.ntmps26
  go_wp2_with (first
    | (go_at_call 27; refine (cost_any _ _ _ _ hn' (by omega) hk).mono ?_; rw [HCC.out]; rintro e w' ⟨rfl, rfl⟩)
    | fail)
  have hz := HO.out.lt
  generalize hwb : w.alloc (.cells #[.int .i64 0, .int .i64 0, .int .i64 0, .slice none 0 0, .slice none 0 0] 53) = wb at *
  clear hwb
  refine (clone_any _ _ _ _ HB.out lb).mono ?_
  rintro e w2 ⟨A2, c2, rfl, q1, q2⟩
  have HQ1 := hide (q1.slX (base' := w.heap.size + 1) (r := none) (by omega) (fun k e => by cases e))
  have HX2 := hide (HX.out.ext q2)
  have HO2 := hide (HO.out.ext q2)
  have HE2 := hide (HE.out.trans q2)
  have hz2 := q2.size
  clear q1 q2 HO HX HE HB
  go_wp2_with fail
  refine (clone_any _ _ _ _ HX2.out lx).mono ?_
  rintro e w3 ⟨A3, c3, rfl, q1, q2⟩
  have HQ2 := hide (q1.slX (base' := w.heap.size + 1) (r := none) (by omega) (fun k e => by cases e))
  have HQ3 := hide (HQ1.out.grown (q2.grownBy none))
  have hb3 := HO2.out.ext q2
  have hc := hb3.cell
  have hf := hb3.frozen
  have HO3 := hide hb3
  have HE3 := hide (HE2.out.trans q2)
  clear q1 q2 HO2 HX2 HE2 hb3 HQ1
  go_wp2_with fail
  have hset := HO3.out.put5 (.int .i64 0) (.int .i64 cc) (.int .i64 0) (.slice A2 b.length c2) (.slice A3 x.length c3)
  have hcc := hset.cell
  unfold w5 at hcc
  refine bodyPost_ret (v := .agg #[.int .i64 0, .int .i64 cc, .int .i64 0, .slice A2 b.length c2, .slice A3 x.length c3]) (by simp [results, Try.results26, go_sem, hcc]) rfl ?_
  exact ⟨_, rfl, ⟨A2, c2, A3, c3, rfl, (HQ3.out.put5 (by omega) _ _ _ _ _).sl, (HQ2.out.put5 (by omega) _ _ _ _ _).sl⟩, HE3.out.put5 (by omega) _ _ _ _ _⟩

set_option maxRecDepth 100000 in
set_option maxHeartbeats 1000000 in
theorem rnormal_any (A B E : Option Addr) (n ca cb ce : Nat) (b x : List UInt8) (k : Int) (w : World) (hn : n ≤ 9223372036854775807) (hb : Sl w B cb b) (hx : Sl w E ce x) (lb : b.length ≤ 1048576) (lx : x.length ≤ 1048576) (hk : k ≤ 1099511627776) :
    Calls Try.prog 31 #[.slice A n ca, .slice B b.length cb, .slice E x.length ce, .int .i64 k] w fun e w' => ∃ u, e = .returned u ∧ OutV ⟨0, costN n b.length k, 0, b, x⟩ u w' ∧ Ext w w' := by
  have HB := hide (hb.ext (Ext.alloc w (.cells #[.int .i64 0, .int .i64 0, .int .i64 0, .slice none 0 0, .slice none 0 0] 57)))
  have HX := hide (hx.ext (Ext.alloc w (.cells #[.int .i64 0, .int .i64 0, .int .i64 0, .slice none 0 0, .slice none 0 0] 57)))
  have HO := hide (Blk.new w 57 #[.int .i64 0, .int .i64 0, .int .i64 0, .slice none 0 0, .slice none 0 0])
  have HE := hide (Ext.alloc w (.cells #[.int .i64 0, .int .i64 0, .int .i64 0, .slice none 0 0, .slice none 0 0] 57))
  have hn' : (n : Int) ≤ 9223372036854775807 := by omega
  obtain ⟨cc, hcc0⟩ : ∃ cc, costN n b.length k = cc := ⟨_, rfl⟩
  rw [hcc0]
  have HCC := hide hcc0
  clear hb hx hcc0
  have hz := HO.out.lt
  have hzz : (w.alloc (.cells #[.int .i64 0, .int .i64 0, .int .i64 0, .slice none 0 0, .slice none 0 0] 57)).heap.size = w.heap.size + 1 := World.size_alloc _ _
  go_enter Try.func31, Try.ntmps31
  go_wp2_with (first
    | (go_at_call 28; refine (rcost_any _ _ _ _ hn' (by omega) hk).mono ?_; rw [HCC.out]; rintro e w' ⟨rfl, rfl⟩; generalize hwb : w.alloc (.cells #[.int .i64 0, .int .i64 0, .int .i64 0, .slice none 0 0, .slice none 0 0] 57) = wb at *; clear hwb; have HEM := (show Hid (EmB (w.heap.size + 1) 5 (.slice (some ⟨w.heap.size + 1, 0, none⟩) 0 0) (wb.alloc (.cells #[] 5))) from by have := EmB.new wb 5 (Nat.le_refl _); rw [hzz] at this; exact this))
    | (at_builtin; refine wpList_appendE bt rfl _ _ rfl (w.heap.size + 1) _ rfl HEM.out B cb b rfl (HB.out.ext (Ext.alloc wb _)) (by omega) (by rw [World.size_alloc, hzz]; omega) ?_; intro A2 c2 w2 q1 q2; have q2 := Ext.trans (Ext.alloc wb _) q2; have HQ1 := hide (q1.slX (base' := w.heap.size + 1) (r := none) (by omega) (fun k e => by cases e)); have HX2 := hide (HX.out.ext q2); have HO2 := hide (HO.out.ext q2); have HE2 := hide (HE.out.trans q2); have hz2 := q2.size; clear q1 q2)
    | (at_builtin; refine wpList_appendE bt rfl _ _ rfl w2.heap.size _ rfl (EmB.new w2 5 (Nat.le_refl _)) E ce x rfl (HX2.out.ext (Ext.alloc w2 _)) (by omega) (by simp) ?_; intro A3 c3 w3 q1 q2; have q2 := Ext.trans (Ext.alloc w2 _) q2; have HQ2 := hide (q1.slX (base' := w.heap.size + 1) (r := none) (by omega) (fun k e => by cases e)); have HQ3 := hide (HQ1.out.grown (q2.grownBy none)); have hb3 := HO2.out.ext q2; have hc := hb3.cell; have hf := hb3.frozen; have HO3 := hide hb3; have HE3 := hide (HE2.out.trans q2); clear q1 q2 hb3)
    | fail)
  have hset := HO3.out.put5 (.int .i64 0) (.int .i64 cc) (.int .i64 0) (.slice A2 b.length c2) (.slice A3 x.length c3)
  have hcc := hset.cell
  unfold w5 at hcc
  refine bodyPost_ret (v := .agg #[.int .i64 0, .int .i64 cc, .int .i64 0, .slice A2 b.length c2, .slice A3 x.length c3]) (by simp [results, Try.results31, go_sem, hcc]) rfl ?_
  exact ⟨_, rfl, ⟨A2, c2, A3, c3, rfl, (HQ3.out.put5 (by omega) _ _ _ _ _).sl, (HQ2.out.put5 (by omega) _ _ _ _ _).sl⟩, HE3.out.put5 (by omega) _ _ _ _ _⟩
end Go.Proofs.Ytfcmngiekdhfpaa
