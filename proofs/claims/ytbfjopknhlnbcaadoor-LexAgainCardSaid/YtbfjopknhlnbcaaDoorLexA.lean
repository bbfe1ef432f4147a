/-
  Bytes and spans: letter, digit, part; inner; span; keyword.
-/
import Derived.Test.YtbfjopknhlnbcaaDoorLexP
import Derived.Test.YtbfjopknhlnbcaaDoorVoc
import Derived.WalkKit
namespace Go.Proofs.YtbfjopknhlnbcaaDoor
open Go.RowKit
set_option linter.unusedVariables false

theorem mixed : Tryd.prog.follows .mixedOrders = true := by kernel_rfl
theorem ret_bool {a b : Bool} (h : a = b) : Ending.returned (.bool a) = .returned (.bool b) := by rw [h]
theorem ret_int {k : IntKind} {a b : Int} (h : a = b) : Ending.returned (.int k a) = .returned (.int k b) := by rw [h]
theorem u8_or (x y : UInt8) : bits .or .u8 (x.toNat : Int) (y.toNat : Int) = ((x ||| y).toNat : Int) := by
  show IntKind.u8.wrap ((BitVec.ofInt 8 (x.toNat : Int) ||| BitVec.ofInt 8 (y.toNat : Int)).toNat : Int) = _
  have e : ∀ z : UInt8, BitVec.ofInt 8 (z.toNat : Int) = z.toBitVec := fun z => by
    rw [BitVec.ofInt_natCast]; exact BitVec.eq_of_toNat_eq (by simp)
  rw [e, e, ← UInt8.toBitVec_or]
  generalize x ||| y = z
  have hz := z.toNat_lt
  show IntKind.u8.wrap (z.toNat : Int) = (z.toNat : Int)
  simp only [IntKind.wrap, IntKind.signed, IntKind.bits]
  simp
  omega
theorem letter_any (c : UInt8) (w : World) : Calls Tryd.prog 27 #[.int .u8 (c.toNat : Int)] w fun e w' => e = .returned (.bool (letB c)) ∧ w = w' := by
  have h := u8_or c 32
  have e : ((32 : UInt8).toNat : Int) = 32 := rfl
  rw [e] at h
  have HB := hide (show letB c = decide (97 ≤ (c ||| 32).toNat ∧ (c ||| 32).toNat ≤ 122) from rfl)
  generalize (c ||| 32) = q at *
  clear e
  by_cases h1 : 97 ≤ q.toNat
  · by_cases h2 : q.toNat ≤ 122
    · have HC := hide (show letB c = true by rw [HB.out]; simp [h1, h2])
      have h1' : (97 : Int) ≤ q.toNat := by omega
      have h2' : (q.toNat : Int) ≤ 122 := by omega
      go_enter Tryd.func27, Tryd.ntmps27
      go_wp2
      go_ret
      exact ⟨ret_bool HC.out.symm, rfl⟩
    · have HC := hide (show letB c = false by rw [HB.out]; simp [h1, h2])
      have h1' : (97 : Int) ≤ q.toNat := by omega
      have h2' : ¬ (q.toNat : Int) ≤ 122 := by omega
      go_enter Tryd.func27, Tryd.ntmps27
      go_wp2
      go_ret
      exact ⟨ret_bool HC.out.symm, rfl⟩
  · have HC := hide (show letB c = false by rw [HB.out]; simp [h1])
    have h1' : ¬ (97 : Int) ≤ q.toNat := by omega
    go_enter Tryd.func27, Tryd.ntmps27
    go_wp2
    go_ret
    exact ⟨ret_bool HC.out.symm, rfl⟩
theorem digit_any (c : UInt8) (w : World) : Calls Tryd.prog 35 #[.int .u8 (c.toNat : Int)] w fun e w' => e = .returned (.bool (digB c)) ∧ w = w' := by
  have HB := hide (show digB c = decide (48 ≤ c.toNat ∧ c.toNat ≤ 57) from rfl)
  by_cases h1 : 48 ≤ c.toNat
  · by_cases h2 : c.toNat ≤ 57
    · have HC := hide (show digB c = true by rw [HB.out]; simp [h1, h2])
      have h1' : (48 : Int) ≤ c.toNat := by omega
      have h2' : (c.toNat : Int) ≤ 57 := by omega
      go_enter Tryd.func35, Tryd.ntmps35
      go_wp2
      go_ret
      exact ⟨ret_bool HC.out.symm, rfl⟩
    · have HC := hide (show digB c = false by rw [HB.out]; simp [h1, h2])
      have h1' : (48 : Int) ≤ c.toNat := by omega
      have h2' : ¬ (c.toNat : Int) ≤ 57 := by omega
      go_enter Tryd.func35, Tryd.ntmps35
      go_wp2
      go_ret
      exact ⟨ret_bool HC.out.symm, rfl⟩
  · have HC := hide (show digB c = false by rw [HB.out]; simp [h1])
    have h1' : ¬ (48 : Int) ≤ c.toNat := by omega
    go_enter Tryd.func35, Tryd.ntmps35
    go_wp2
    go_ret
    exact ⟨ret_bool HC.out.symm, rfl⟩
theorem u8_eqI (a : UInt8) (n : Nat) (hn : n < 256) : ((a.toNat : Int) == (n : Int)) = (a == UInt8.ofNat n) := by
  by_cases h : a = UInt8.ofNat n
  · subst h
    have : (UInt8.ofNat n).toNat = n := by rw [UInt8.toNat_ofNat']; omega
    rw [this]; simp
  · have h2 : (a.toNat : Int) ≠ (n : Int) := fun e => h (UInt8.toNat_inj.1 (by rw [UInt8.toNat_ofNat']; omega))
    rw [beq_eq_false_iff_ne.2 h, beq_eq_false_iff_ne.2 h2]
theorem part_any (c : UInt8) (w : World) : Calls Tryd.prog 26 #[.int .u8 (c.toNat : Int)] w fun e w' => e = .returned (.bool (prtB c)) ∧ w = w' := by
  have h95 : ((c.toNat : Int) == 95) = (c == 95) := u8_eqI c 95 (by omega)
  have HL := hide (letter_any c w)
  have HD := hide (digit_any c w)
  have HB := hide (show prtB c = (letB c || digB c || c == 95) from rfl)
  generalize letB c = l at *
  generalize digB c = d at *
  generalize (c == 95) = u at *
  cases l <;> cases d <;> cases u
  all_goals
    go_enter Tryd.func26, Tryd.ntmps26
    go_wp2_with (first
      | (go_at_call 27; refine HL.out.mono ?_; rintro e w' ⟨rfl, rfl⟩)
      | (go_at_call 35; refine HD.out.mono ?_; rintro e w' ⟨rfl, rfl⟩))
    go_ret
    exact ⟨ret_bool (by rw [HB.out]; rfl), rfl⟩
theorem rletter_any (c : UInt8) (w : World) : Calls Tryd.prog 29 #[.int .u8 (c.toNat : Int)] w fun e w' => e = .returned (.bool (letB c)) ∧ w = w' := by
  have HB := hide (letB_iff c)
  have hw : c.toNat < 65 ∨ (65 ≤ c.toNat ∧ c.toNat ≤ 90) ∨ (90 < c.toNat ∧ c.toNat < 97) ∨ (97 ≤ c.toNat ∧ c.toNat ≤ 122) ∨ 122 < c.toNat := by omega
  generalize hn : c.toNat = n at *
  have HN := hide hn
  clear hn
  rcases hw with h | ⟨h1, h2⟩ | ⟨h1, h2⟩ | ⟨h1, h2⟩ | h
  · have HC := hide (show letB c = false by rw [HB.out]; simp; omega)
    have h' : (n : Int) < 65 := by omega
    go_enter Tryd.func29, Tryd.ntmps29
    go_wp2
    go_ret
    exact ⟨ret_bool HC.out.symm, rfl⟩
  · have HC := hide (show letB c = true by rw [HB.out]; simp; omega)
    have h1' : (65 : Int) ≤ n := by omega
    have h2' : (n : Int) ≤ 90 := by omega
    go_enter Tryd.func29, Tryd.ntmps29
    go_wp2
    go_ret
    exact ⟨ret_bool HC.out.symm, rfl⟩
  · have HC := hide (show letB c = false by rw [HB.out]; simp; omega)
    have h1' : decide ((n : Int) ≤ 90) = false := by simp; omega
    have h2' : decide ((97 : Int) ≤ n) = false := by simp; omega
    have h3' : (65 : Int) ≤ n := by omega
    have h4' : ¬ (97 : Int) ≤ n := by omega
    go_enter Tryd.func29, Tryd.ntmps29
    go_wp2
    go_ret
    exact ⟨ret_bool HC.out.symm, rfl⟩
  · have HC := hide (show letB c = true by rw [HB.out]; simp; omega)
    have h1' : (97 : Int) ≤ n := by omega
    have h2' : (n : Int) ≤ 122 := by omega
    go_enter Tryd.func29, Tryd.ntmps29
    go_wp2
    go_ret
    exact ⟨ret_bool HC.out.symm, rfl⟩
  · have HC := hide (show letB c = false by rw [HB.out]; simp; omega)
    have h1' : decide ((n : Int) ≤ 90) = false := by simp; omega
    have h2' : decide ((n : Int) ≤ 122) = false := by simp; omega
    have h3' : (97 : Int) ≤ n := by omega
    have h4' : (65 : Int) ≤ n := by omega
    go_enter Tryd.func29, Tryd.ntmps29
    go_wp2
    go_ret
    exact ⟨ret_bool HC.out.symm, rfl⟩
theorem rdigit_any (c : UInt8) (w : World) : Calls Tryd.prog 40 #[.int .u8 (c.toNat : Int)] w fun e w' => e = .returned (.bool (digB c)) ∧ w = w' := by
  have HB := hide (show digB c = decide (48 ≤ c.toNat ∧ c.toNat ≤ 57) from rfl)
  by_cases h1 : 48 ≤ c.toNat
  · by_cases h2 : c.toNat ≤ 57
    · have HC := hide (show digB c = true by rw [HB.out]; simp [h1, h2])
      have h1' : (48 : Int) ≤ c.toNat := by omega
      have h2' : (c.toNat : Int) ≤ 57 := by omega
      go_enter Tryd.func40, Tryd.ntmps40
      go_wp2
      go_ret
      exact ⟨ret_bool HC.out.symm, rfl⟩
    · have HC := hide (show digB c = false by rw [HB.out]; simp [h1, h2])
      have h1' : (48 : Int) ≤ c.toNat := by omega
      have h2' : ¬ (c.toNat : Int) ≤ 57 := by omega
      go_enter Tryd.func40, Tryd.ntmps40
      go_wp2
      go_ret
      exact ⟨ret_bool HC.out.symm, rfl⟩
  · have HC := hide (show digB c = false by rw [HB.out]; simp [h1])
    have h1' : ¬ (48 : Int) ≤ c.toNat := by omega
    go_enter Tryd.func40, Tryd.ntmps40
    go_wp2
    go_ret
    exact ⟨ret_bool HC.out.symm, rfl⟩
theorem inner_any (c : UInt8) (w : World) : Calls Tryd.prog 31 #[.int .u8 (c.toNat : Int)] w fun e w' => e = .returned (.bool (prtB c)) ∧ w = w' := by
  have h95 : ((c.toNat : Int) == 95) = (c == 95) := u8_eqI c 95 (by omega)
  have HL := hide (rletter_any c w)
  have HD := hide (rdigit_any c w)
  have HB := hide (show prtB c = (letB c || digB c || c == 95) from rfl)
  generalize letB c = l at *
  generalize digB c = d at *
  generalize (c == 95) = u at *
  cases l <;> cases d <;> cases u
  all_goals
    go_enter Tryd.func31, Tryd.ntmps31
    go_wp2_with (first
      | (go_at_call 29; refine HL.out.mono ?_; rintro e w' ⟨rfl, rfl⟩)
      | (go_at_call 40; refine HD.out.mono ?_; rintro e w' ⟨rfl, rfl⟩))
    go_ret
    exact ⟨ret_bool (by rw [HB.out]; rfl), rfl⟩
theorem str_size (l : List UInt8) : (str l).size = l.length := by
  show l.toArray.size = l.length
  simp
theorem str_get (l : List UInt8) (j : Nat) (h : j < (str l).size) : (str l)[j] = l[j]'(by rw [← str_size]; exact h) := rfl
theorem str_extract (l : List UInt8) (a b : Nat) : (str l).extract a b = str ((l.take b).drop a) := by
  apply ByteArray.ext
  rw [ByteArray.data_extract]
  apply Array.ext'
  show (l.toArray.extract a b).toList = ((l.take b).drop a)
  rw [Array.toList_extract, List.drop_take]
/-- span at a predicate that a function of the program computes. -/
theorem span_any (p : UInt8 → Bool) (fn : Nat) (hfn : ∀ (c : UInt8) (w : World), Calls Tryd.prog fn #[.int .u8 (c.toNat : Int)] w fun e w' => e = .returned (.bool (p c)) ∧ w = w') (hf : fn = 26 ∨ fn = 35) (l : List UInt8) (hl : l.length ≤ 100000) (w : World) :
    Calls Tryd.prog 48 #[.string (str l), .func (.func fn) #[] #[]] w fun e w' => e = .returned (.int .i64 (spanN p l)) ∧ w = w' := by
  have HF := hide hfn
  have hsz := str_size l
  have hm := spanN_le p l
  clear hfn
  rcases hf with rfl | rfl
  all_goals
    go_enter Tryd.func48, Tryd.ntmps48
    go_wp2_with fail
    go_loop [5] (fun vi => ∃ j : Nat, vi = .int .i64 j ∧ j ≤ spanN p l) (fun vi => l.length - (intOf vi).toNat)
    case atStart => exact ⟨0, rfl, Nat.zero_le _⟩
    case round =>
      obtain ⟨j, rfl, hj⟩ := hrel
      by_cases hlt : j < l.length
      · have hjs : j < (str l).size := by rw [str_size]; exact hlt
        have hg := str_get l j hjs
        have hst := spanN_step p hlt
        have hdr := spanN_drop p l j hj
        have HCC := hide (HF.out l[j] w)
        have hlt' : (j : Int) < l.length := by omega
        generalize l[j]'hlt = c at *
        cases hp : p c with
        | true =>
          rw [hp, if_pos rfl] at hst
          have HJ := hide (show j + 1 ≤ spanN p l by omega)
          rw [hp] at HCC
          clear hst hdr hp
          go_wp2_with (refine HCC.out.mono ?_; rintro e w' ⟨rfl, rfl⟩)
          go_round
          case rel => exact ⟨j + 1, by go_num, HJ.out⟩
          case measure => simp [intOf]; omega
        | false =>
          rw [hp, if_neg (by simp)] at hst
          have HJ := hide (show spanN p l = j by omega)
          rw [hp] at HCC
          clear hst hdr hp
          go_wp2_with (refine HCC.out.mono ?_; rintro e w' ⟨rfl, rfl⟩)
          go_ret
          exact ⟨ret_int (by rw [HJ.out]), rfl⟩
      · have HJ := hide (show spanN p l = j by omega)
        have hlt' : ¬ (j : Int) < l.length := by omega
        go_wp2_with fail
        go_ret
        exact ⟨ret_int (by rw [HJ.out]), rfl⟩
end Go.Proofs.YtbfjopknhlnbcaaDoor
