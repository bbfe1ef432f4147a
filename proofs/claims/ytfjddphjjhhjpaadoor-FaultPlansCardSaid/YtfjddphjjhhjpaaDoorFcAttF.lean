/-
  Cut out of an elder text of mine (AttF) by cutdecl.py.
-/
import Derived.LoopN
import Derived.Test.YtfjddphjjhhjpaaDoorSeq
import Derived.Test.YtfjddphjjhhjpaaDoorVoc
import Derived.Test.YtfjddphjjhhjpaaDoorSeqIn
import Derived.Test.YtfjddphjjhhjpaaDoorFcImgA
import Derived.Test.YtfjddphjjhhjpaaDoorFcChg
import Derived.Test.YtfjddphjjhhjpaaDoorFcImgB
import Derived.Test.YtfjddphjjhhjpaaDoorFcEqA
import Derived.Test.YtfjddphjjhhjpaaDoorFcLawD
import Derived.Test.YtfjddphjjhhjpaaDoorFcAttA
import Derived.Test.YtfjddphjjhhjpaaDoorFcAttB
import Derived.Test.YtfjddphjjhhjpaaDoorFcAttD
import Derived.Test.YtfjddphjjhhjpaaDoorFcAttE
namespace Go.Proofs.YtfjddphjjhhjpaaDoor
open Go.RowKit
set_option linter.unusedVariables false


set_option maxRecDepth 100000 in
set_option maxHeartbeats 1000000 in
theorem fvalid_0 (c n e s p m : Int) (w : World) : Calls Tryd.prog 13 #[.agg #[.int .i64 c, .int .i64 n, .int .i64 e, .int .i64 0, .int .i64 s, .int .i64 p, .int .i64 m]] w fun e_1 w' => e_1 = .returned (.bool (validPl ⟨c, n, e, 0, s, p, m⟩)) ∧ Ext w w' := by
  have hc := (Blk.new w 28 #[.int .i64 c, .int .i64 n, .int .i64 e, .int .i64 0, .int .i64 s, .int .i64 p, .int .i64 m]).cell
  go_enter Tryd.func13, Tryd.ntmps13
  go_wp2
  all_goals (go_ret; exact ⟨ret_bool (by simp_all [validPl]), Ext.alloc w _⟩)
set_option maxRecDepth 100000 in
set_option maxHeartbeats 1000000 in
theorem fvalid_x (c n e k s p m : Int) (w : World) (hk : k ≠ 0) (h : inB c 1 10 = false ∨ inB n 1 1000000 = false ∨ inB k 1 9 = false) : Calls Tryd.prog 13 #[.agg #[.int .i64 c, .int .i64 n, .int .i64 e, .int .i64 k, .int .i64 s, .int .i64 p, .int .i64 m]] w fun e_1 w' => e_1 = .returned (.bool false) ∧ Ext w w' := by
  have hc := (Blk.new w 28 #[.int .i64 c, .int .i64 n, .int .i64 e, .int .i64 k, .int .i64 s, .int .i64 p, .int .i64 m]).cell
  obtain ⟨a1, ha1⟩ : ∃ t, inB c 1 10 = t := ⟨_, rfl⟩
  obtain ⟨a2, ha2⟩ : ∃ t, inB n 1 1000000 = t := ⟨_, rfl⟩
  obtain ⟨a3, ha3⟩ : ∃ t, inB k 1 9 = t := ⟨_, rfl⟩
  have H1 := hide ha1
  have H2 := hide ha2
  have H3 := hide ha3
  rw [ha1, ha2, ha3] at h
  clear ha1 ha2 ha3
  go_enter Tryd.func13, Tryd.ntmps13
  cases a1
  · go_wp2_with (go_at_call 45; refine (within_any _ _ _ _).mono ?_; (first | rw [H1.out] | rw [H2.out] | rw [H3.out]); rintro e w' ⟨rfl, rfl⟩)
    go_ret
    exact ⟨rfl, Ext.alloc w _⟩
  cases a2
  · go_wp2_with (go_at_call 45; refine (within_any _ _ _ _).mono ?_; (first | rw [H1.out] | rw [H2.out] | rw [H3.out]); rintro e w' ⟨rfl, rfl⟩)
    go_ret
    exact ⟨rfl, Ext.alloc w _⟩
  obtain rfl : a3 = false := by simpa using h
  go_wp2_with (go_at_call 45; refine (within_any _ _ _ _).mono ?_; (first | rw [H1.out] | rw [H2.out] | rw [H3.out]); rintro e w' ⟨rfl, rfl⟩)
  go_ret
  exact ⟨rfl, Ext.alloc w _⟩
end Go.Proofs.YtfjddphjjhhjpaaDoor
