/-
  FaultPlans: number of the reference.
-/
import Derived.LoopN
import Derived.Test.YtfjddphjjhhjpaaDoorFauT
namespace Go.Proofs.YtfjddphjjhhjpaaDoor
open Go.RowKit
set_option linter.unusedVariables false

theorem str_getT (l : List UInt8) (i : Nat) (h : i < (str l).size) : (str l)[i] = l[i]'(by rwa [str_sizeT] at h) := by
  show (str l).data[i]'_ = _
  simp [str]
/-- What number makes of a string. -/
def numL (l : List UInt8) : Nat := if l.length ≤ 7 ∧ l.all dgB = true then decV l else 0
theorem decV_snoc (l : List UInt8) (c : UInt8) : decV (l ++ [c]) = decV l * 10 + (c.toNat - 48) := by unfold decV; rw [List.foldl_append]; rfl
theorem foldD_lt : ∀ (l : List UInt8) (v : Nat), l.all dgB = true → l.foldl (fun v c => v * 10 + (c.toNat - 48)) v < (v + 1) * 10 ^ l.length
  | [], v, _ => by simp
  | c :: r, v, h => by
    rw [List.all_cons, Bool.and_eq_true] at h
    have hc := h.1
    unfold dgB at hc
    have hc := of_decide_eq_true hc
    have := foldD_lt r (v * 10 + (c.toNat - 48)) h.2
    rw [List.foldl_cons, List.length_cons, Nat.pow_succ]
    refine Nat.lt_of_lt_of_le this ?_
    rw [Nat.mul_comm (10 ^ r.length) 10, ← Nat.mul_assoc]
    exact Nat.mul_le_mul_right _ (by omega)
theorem decV_lt (l : List UInt8) (h : l.all dgB = true) : decV l < 10 ^ l.length := by
  have := foldD_lt l 0 h
  rw [Nat.zero_add, Nat.one_mul] at this
  exact this
theorem dgB_false {c : UInt8} (h : c.toNat < 48 ∨ 57 < c.toNat) : dgB c = false := by unfold dgB; rw [decide_eq_false (by omega)]
theorem dgB_true {c : UInt8} (h : ¬ c.toNat < 48) (h' : ¬ 57 < c.toNat) : dgB c = true := by unfold dgB; rw [decide_eq_true (by omega)]
theorem numL_bad {l : List UInt8} {j : Nat} (h : j < l.length) (hp : dgB l[j] = false) : numL l = 0 := by
  unfold numL
  rw [if_neg]
  rintro ⟨_, h2⟩
  rw [List.all_eq_true] at h2
  rw [h2 _ (List.getElem_mem h)] at hp
  cases hp
set_option maxRecDepth 100000 in
set_option maxHeartbeats 600000 in
theorem number_any (l : List UInt8) (hl : l.length ≤ 100000) (w : World) : Calls Tryd.prog 44 #[.string (str l)] w fun e w' => e = .returned (.int .i64 (numL l)) ∧ w = w' := by
  have hsz : (str l).size = l.length := str_sizeT l
  go_enter Tryd.func44, Tryd.ntmps44
  go_wp2_with fail
  go_loop [3, 4] (fun vn vi => ∃ j v : Nat, vi = .int .i64 j ∧ vn = .int .i64 v ∧ j ≤ l.length ∧ Hid (decV (l.take j) = v ∧ (l.take j).all dgB = true ∧ (1 ≤ j → l.length ≤ 7))) (fun vn vi => l.length - (intOf vi).toNat)
  case atStart => exact ⟨0, 0, rfl, rfl, Nat.zero_le _, hide ⟨by simp [decV], by simp, by omega⟩⟩
  case round =>
    obtain ⟨j, v, rfl, rfl, hj, HA⟩ := hrel
    by_cases hlt : j < l.length
    · have hjs : j < (str l).size := by rw [str_sizeT]; exact hlt
      have hg := str_getT l j hjs
      have hlt' : (j : Int) < l.length := by omega
      have HB := hide (fun h => numL_bad hlt h)
      have HT := hide (show l.take (j + 1) = l.take j ++ [l[j]] from List.take_succ_eq_append_getElem hlt)
      generalize l[j]'hlt = c at *
      by_cases c1 : c.toNat < 48
      · have c1' : (c.toNat : Int) < 48 := by omega
        have HR := hide (HB.out (dgB_false (.inl c1)))
        go_wp2_with fail
        go_ret
        exact ⟨by rw [HR.out]; rfl, rfl⟩
      by_cases c2 : 57 < c.toNat
      · have c1' : ¬ (c.toNat : Int) < 48 := by omega
        have c2' : (57 : Int) < c.toNat := by omega
        have HR := hide (HB.out (dgB_false (.inr c2)))
        go_wp2_with fail
        go_ret
        exact ⟨by rw [HR.out]; rfl, rfl⟩
      have c1' : ¬ (c.toNat : Int) < 48 := by omega
      have c2' : ¬ (57 : Int) < c.toNat := by omega
      by_cases h7 : 7 < l.length
      · have h7' : (7 : Int) < l.length := by omega
        have HR := hide (show numL l = 0 by unfold numL; rw [if_neg (by omega)])
        go_wp2_with fail
        go_ret
        exact ⟨by rw [HR.out]; rfl, rfl⟩
      have h7' : ¬ (7 : Int) < l.length := by omega
      have hvb : v < 10000000 := by
        have e1 := decV_lt _ HA.out.2.1
        rw [HA.out.1, List.length_take, Nat.min_eq_left hj] at e1
        exact Nat.lt_of_lt_of_le e1 (show 10 ^ j ≤ 10 ^ 7 from Nat.pow_le_pow_right (by omega) (by omega))
      have hm1 : wrap64 (10 * (v : Int)) = 10 * (v : Int) := by simp only [wrap64]; omega
      have hs1 : IntKind.u8.wrap ((c.toNat : Int) - 48) = ((c.toNat - 48 : Nat) : Int) := by simp [IntKind.wrap, IntKind.signed, IntKind.bits]; omega
      have HJ := hide (show decV (l.take (j + 1)) = 10 * v + (c.toNat - 48) ∧ (l.take (j + 1)).all dgB = true ∧ (1 ≤ j + 1 → l.length ≤ 7) from by
        rw [HT.out]
        refine ⟨by rw [decV_snoc, HA.out.1]; omega, ?_, fun _ => by omega⟩
        rw [List.all_append, HA.out.2.1, List.all_cons, dgB_true c1 c2]; rfl)
      go_wp2_with fail
      go_round
      case rel => exact ⟨j + 1, 10 * v + (c.toNat - 48), by go_num, by go_num, by omega, HJ⟩
      case measure => simp [intOf]; omega
    · have hjl : j = l.length := by omega
      have hlt' : ¬ (j : Int) < l.length := by omega
      have HR := hide (show numL l = v by
        have := HA.out
        rw [hjl, List.take_length] at this
        unfold numL
        by_cases h0 : l.length = 0
        · rw [if_pos ⟨by omega, this.2.1⟩, this.1]
        · rw [if_pos ⟨this.2.2 (by omega), this.2.1⟩, this.1])
      go_wp2_with fail
      go_ret
      exact ⟨by rw [HR.out]; rfl, rfl⟩
end Go.Proofs.YtfjddphjjhhjpaaDoor
