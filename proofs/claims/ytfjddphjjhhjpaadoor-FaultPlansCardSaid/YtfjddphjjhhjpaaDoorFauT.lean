/-
  FaultPlans: decimal of the reference.
-/
import Derived.Test.YtfjddphjjhhjpaaDoorFauL
namespace Go.Proofs.YtfjddphjjhhjpaaDoor
open Go.RowKit
set_option linter.unusedVariables false

theorem str_appT (a b : List UInt8) : str a ++ str b = str (a ++ b) := by
  apply ByteArray.ext
  simp [str, ByteArray.data_append]
theorem str_sizeT (a : List UInt8) : (str a).size = a.length := by simp [str, ByteArray.size]
def DecP (n : Nat) : Prop := ∀ w, Calls Tryd.prog 37 #[.int .i64 n] w fun e w' => e = .returned (.string (str (Lib.decDigits n))) ∧ w = w'
set_option maxRecDepth 100000 in
set_option maxHeartbeats 400000 in
theorem dec_small (n : Nat) (h : n < 10) : DecP n := by
  intro w
  have HD := hide (dec_step n)
  obtain rfl | rfl | rfl | rfl | rfl | rfl | rfl | rfl | rfl | rfl : n = 0 ∨ n = 1 ∨ n = 2 ∨ n = 3 ∨ n = 4 ∨ n = 5 ∨ n = 6 ∨ n = 7 ∨ n = 8 ∨ n = 9 := by omega
  all_goals
    go_enter Tryd.func37, Tryd.ntmps37
    go_wp2
    go_ret
    exact ⟨by rw [HD.out]; rfl, rfl⟩
set_option maxRecDepth 100000 in
set_option maxHeartbeats 400000 in
theorem dec_great (n a b : Nat) (ha : n / 10 = a) (hb' : n % 10 = b) (h : 10 ≤ n) (hb : n ≤ 9223372036854775807) (h1 : DecP a) (h2 : DecP b) : DecP n := by
  intro w
  show Calls Tryd.prog 37 #[.int .i64 n] w fun e w' => e = .returned (.string (str (Lib.decDigits n))) ∧ w = w'
  have HD := hide (show Lib.decDigits n = Lib.decDigits a ++ Lib.decDigits b by rw [dec_step n, if_neg (by omega), ha, hb', dec_step b, if_pos (by omega)])
  have H1 := hide h1
  have H2 := hide h2
  have hlt : ¬ n < 10 := by omega
  have hq : (n : Int).tdiv 10 = (a : Int) := by rw [← ha]; exact (Int.ofNat_tdiv n 10).symm
  have hr : (n : Int).tmod 10 = (b : Int) := by rw [← hb']; exact (Int.ofNat_tmod n 10).symm
  have hpl : (Lib.decDigits a).length ≤ 19 := dec_length 18 a (by omega)
  have hql : (Lib.decDigits b).length ≤ 19 := dec_length 18 b (by omega)
  unfold DecP at H1 H2
  generalize Lib.decDigits a = p at *
  generalize Lib.decDigits b = q at *
  generalize Lib.decDigits n = y at *
  have hsz : ¬ 9223372036854775807 < (str p).size + (str q).size := by rw [str_sizeT, str_sizeT]; omega
  have hx : str p ++ str q = str (p ++ q) := str_appT p q
  have hwa : wrap64 (a : Int) = (a : Int) := by simp only [wrap64]; omega
  clear h1 h2 ha hb' hpl hql
  go_enter Tryd.func37, Tryd.ntmps37
  go_wp2_with (first
    | (go_at_call 37; refine (H1.out _).mono ?_; rintro e w' ⟨rfl, rfl⟩; clear H1)
    | (go_at_call 37; refine (H2.out _).mono ?_; rintro e w' ⟨rfl, rfl⟩))
  go_ret
  exact ⟨by rw [HD.out]; rfl, rfl⟩
theorem decimal_any : ∀ (N n : Nat), n < N → n ≤ 9223372036854775807 → DecP n
  | 0, n, h, _ => by omega
  | N + 1, n, h, hb => by
    by_cases h10 : n < 10
    · exact dec_small n h10
    · exact dec_great n _ _ rfl rfl (by omega) hb (decimal_any N (n / 10) (by omega) (by omega)) (dec_small _ (Nat.mod_lt _ (by omega)))
set_option maxRecDepth 100000 in
set_option maxHeartbeats 400000 in
theorem rnames_any (w : World) : Calls Tryd.prog 38 #[] w fun e w' => e = .returned (.slice (some ⟨w.heap.size, 0, none⟩) 10 10) ∧ Blk w' w.heap.size 9 namesV ∧ Ext w w' := by
  have hB := Blk.new w 9 namesV
  have HB := hide hB
  clear hB
  go_enter Tryd.func38, Tryd.ntmps38
  go_wp2
  go_ret
  exact ⟨rfl, HB.out, Ext.alloc w _⟩
end Go.Proofs.YtfjddphjjhhjpaaDoor
