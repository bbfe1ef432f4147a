/-
  The walk of ImageDiff.
-/
import Derived.Test.YtfcmngiekdhfpaaEqA
import Derived.Test.YtfcmngiekdhfpaaLawA
namespace Go.Proofs.Ytfcmngiekdhfpaa
open Go.RowKit
set_option linter.unusedVariables false

def ShPt (len : Int) (n : Nat) (v : Value) : Prop := ∃ C c, v = .agg #[.int .i64 len, .slice C n c]
def FPt (len : Int) (cs : List Chg) (v : Value) (w : World) : Prop := ∃ C c, v = .agg #[.int .i64 len, .slice C cs.length c] ∧ Chs w C c cs
theorem FPt.ext {len : Int} {cs : List Chg} {v : Value} {w w' : World} (h : FPt len cs v w) (he : Ext w w') : FPt len cs v w' := let ⟨C, c, h1, h2⟩ := h; ⟨C, c, h1, h2.ext he⟩
theorem FPt.chs {len : Int} {cs : List Chg} {n : Nat} {C : Option Addr} {c : Nat} {w : World} (h : FPt len cs (.agg #[.int .i64 len, .slice C n c]) w) : Chs w C c cs := by
  obtain ⟨C', c', h1, h2⟩ := h
  simp only [Value.agg.injEq, Array.mk.injEq, List.cons.injEq, Value.slice.injEq, and_true, true_and] at h1
  obtain ⟨rfl, _, rfl⟩ := h1
  exact h2
theorem diffTo_data (a b : List UInt8) : ∀ k, ∀ c ∈ diffTo a b k, c.2.length ≤ 128
  | 0, c, h => by cases h
  | k + 1, c, h => by
    simp only [diffTo] at h
    split at h
    · exact diffTo_data a b k c h
    · rcases List.mem_append.1 h with h | h
      · exact diffTo_data a b k c h
      · simp only [List.mem_singleton] at h
        subst h
        show (pageL b k).length ≤ 128
        rw [pageL_length]
        omega
theorem diffL_length (a b : List UInt8) : (diffL a b).length ≤ b.length := Nat.le_trans (diffTo_length a b _) (cntN_le _)
theorem diffL_data (a b : List UInt8) : ∀ c ∈ diffL a b, c.2.length ≤ 65536 := fun c h => Nat.le_trans (diffTo_data a b _ c h) (by omega)

set_option maxRecDepth 100000 in
set_option maxHeartbeats 1000000 in
theorem diff_law (A B : Option Addr) (ca cb : Nat) (a b : List UInt8) (w : World) (ha : Sl w A ca a) (hb : Sl w B cb b) :
    Calls Try.prog 4 #[.slice A a.length ca, .slice B b.length cb] w fun e w' => e = .returned (.bool true) ∧ Ext w w' := by
  have HA := hide ha
  have HB := hide hb
  have hma := ha.max
  have hla := ha.le
  have hmb := hb.max
  have hlb := hb.le
  unfold maxLen at hma hmb
  clear ha hb
  by_cases hl : 2000 < a.length
  · have hl' : (2000 : Int) < a.length := by omega
    go_enter Try.func4, Try.ntmps4
    go_wp2_with (go_at_call 14; refine (awake_any _).mono ?_; rintro e w1 ⟨rfl, hE1⟩)
    go_ret
    exact ⟨rfl, hE1⟩
  by_cases hm : 2000 < b.length
  · have hl' : ¬ (2000 : Int) < a.length := by omega
    have hm' : (2000 : Int) < b.length := by omega
    go_enter Try.func4, Try.ntmps4
    go_wp2_with (go_at_call 14; refine (awake_any _).mono ?_; rintro e w1 ⟨rfl, hE1⟩)
    go_ret
    exact ⟨rfl, hE1⟩
  have hl' : ¬ (2000 : Int) < a.length := by omega
  have hm' : ¬ (2000 : Int) < b.length := by omega
  have hdl := diffL_length a b
  have HDD := hide (diffL_data a b)
  go_enter Try.func4, Try.ntmps4
  go_wp2_with (go_at_call 14; refine (awake_any _).mono ?_; rintro e w1 ⟨rfl, hE1⟩; have HE1 := hide hE1; clear hE1)
  refine (diff_any _ _ _ _ _ _ _ (HA.out.ext HE1.out) (HB.out.ext HE1.out) (by omega) (by omega)).mono ?_
  rintro e w2 ⟨C, c, rfl, hc, he⟩
  have HC := hide hc
  have HE2 := hide (HE1.out.trans he)
  clear hc he
  go_wp2_with fail
  have hb1 := Blk.new w2 29 #[.int .i64 b.length, .slice C (diffL a b).length c]
  have he1 := Ext.alloc w2 (.cells #[.int .i64 b.length, .slice C (diffL a b).length c] 29)
  refine (rdiff_any _ _ _ _ _ _ _ ((HA.out.ext HE2.out).ext he1) ((HB.out.ext HE2.out).ext he1) (by omega) (by omega)).mono ?_
  rintro e w3 ⟨D, d, rfl, hd, he3⟩
  have HC3 := hide (HC.out.ext (he1.trans he3))
  have HB3 := hide (hb1.ext he3)
  have HD := hide hd
  have HE3 := hide (HE2.out.trans (he1.trans he3))
  have hz3 := (hb1.ext he3).lt
  clear hb1 he1 hd he3 HC HA HB
  go_wp2_with fail
  have hx4 := Ext.alloc w3 (.cells #[.int .i64 b.length, .slice D (diffL a b).length d] 35)
  have HX4 := hide (HE3.out.trans hx4)
  have HC4 := hide (HC3.out.ext hx4)
  have HD4 := hide (HD.out.ext hx4)
  have HB4 := hide (HB3.out.ext hx4)
  have HB5 := hide (Blk.new w3 35 #[.int .i64 b.length, .slice D (diffL a b).length d])
  clear hx4 HE3 HC3 HB3 HD
  refine wp_region_ext 9 3 [(5, ShPt b.length (diffL a b).length, FPt b.length (diffL a b)), (7, fun v => v = .bool true, fun _ _ => True)] mixed (by kernel_rfl) ⟨fun _ _ _ h hx => h.ext hx, fun _ _ _ _ _ => trivial, trivial⟩ ?_
  repeat ((refine seq_exact ?_ (by rfl) (by rfl) (fun w1 hU => ?_) ?_); (rotate_left 1); (focus (have h4 := (HB4.out.ext hU.un).cell; have h5 := (HB5.out.ext hU.un).cell; clear hU; go_simp <;> with_reducible rfl)); (simp only [Act.put, List.setIfInBounds_toArray, List.set_cons_zero, List.set_cons_succ]))
  refine seq_opaque _ _ (by rfl) rfl ⟨_, none, 0, rfl⟩ (by simp) (fun w5 hU _ K hK => ?_) ?_
  · go_simp
    refine (from_any _ _ _ _ _ (HC4.out.ext hU.un) (by omega) HDD.out).mono ?_
    rintro e w6 ⟨C', c', rfl, h3, h4⟩
    exact hK _ _ h4 ⟨C', c', rfl⟩ ⟨C', c', rfl, h3⟩
  rintro _ ⟨C1, c1, rfl⟩
  simp only [Act.put, List.setIfInBounds_toArray, List.set_cons_zero, List.set_cons_succ]
  repeat ((refine seq_exact ?_ (by rfl) (by rfl) (fun w1 hU => ?_) ?_); (rotate_left 1); (focus (have h4 := (HB4.out.ext hU.un).cell; have h5 := (HB5.out.ext hU.un).cell; clear hU; go_simp <;> with_reducible rfl)); (simp only [Act.put, List.setIfInBounds_toArray, List.set_cons_zero, List.set_cons_succ]))
  refine seq_opaque _ _ (by rfl) rfl ⟨_, rfl⟩ (by simp) (fun w5 hU hp K hK => ?_) ?_
  · have hs := FPt.chs (hp _ (.head _) (by kernel_rfl))
    clear hp
    go_simp
    refine (requal_any _ _ _ _ _ _ _ _ _ hs (HD4.out.ext hU.un) (by omega) (by omega)).mono ?_
    rintro e w6 ⟨rfl, h4⟩
    exact hK _ _ h4 (by simp) trivial
  rintro _ rfl
  simp only [Act.put, List.setIfInBounds_toArray, List.set_cons_zero, List.set_cons_succ]
  repeat ((refine seq_exact ?_ (by rfl) (by rfl) (fun w1 hU => ?_) ?_); (rotate_left 1); (focus (go_simp <;> with_reducible rfl)); (simp only [Act.put, List.setIfInBounds_toArray, List.set_cons_zero, List.set_cons_succ]))
  intro w7 hw7 _
  simp only [List.drop_succ_cons, List.drop_zero]
  have HX7 := hide (HX4.out.trans hw7.un)
  clear hw7
  go_wp2
  go_ret
  exact ⟨rfl, HX7.out⟩
end Go.Proofs.Ytfcmngiekdhfpaa
