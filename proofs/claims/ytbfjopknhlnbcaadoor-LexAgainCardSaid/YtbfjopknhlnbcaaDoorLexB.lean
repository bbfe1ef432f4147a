/-
  keyword of the program and of the reference; in of the reference; element of both.
-/
import Derived.Test.YtbfjopknhlnbcaaDoorLexA
namespace Go.Proofs.YtbfjopknhlnbcaaDoor
open Go.RowKit
set_option linter.unusedVariables false

theorem kw_ways (l : List UInt8) : (kwB l = true ∧ (l = [118, 97, 114] ∨ l = [102, 117, 110, 99] ∨ l = [105, 102] ∨ l = [101, 108, 115, 101] ∨ l = [119, 104, 105, 108, 101] ∨ l = [114, 101, 116, 117, 114, 110])) ∨
    (kwB l = false ∧ (l == [118, 97, 114]) = false ∧ (l == [102, 117, 110, 99]) = false ∧ (l == [105, 102]) = false ∧ (l == [101, 108, 115, 101]) = false ∧ (l == [119, 104, 105, 108, 101]) = false ∧ (l == [114, 101, 116, 117, 114, 110]) = false) := by
  cases h : kwB l with
  | true =>
    refine .inl ⟨rfl, ?_⟩
    unfold kwB kws at h
    simpa using h
  | false =>
    refine .inr ⟨rfl, ?_⟩
    unfold kwB kws at h
    simp only [List.contains_cons, Bool.or_eq_false_iff] at h
    exact ⟨h.1, h.2.1, h.2.2.1, h.2.2.2.1, h.2.2.2.2.1, h.2.2.2.2.2.1⟩
theorem keyword_any (l : List UInt8) (w : World) : Calls Tryd.prog 28 #[.string (str l)] w fun e w' => e = .returned (.bool (kwB l)) ∧ w = w' := by
  rcases kw_ways l with ⟨h, rfl | rfl | rfl | rfl | rfl | rfl⟩ | ⟨h, h1, h2, h3, h4, h5, h6⟩
  all_goals
    have HK := hide h
    clear h
    go_enter Tryd.func28, Tryd.ntmps28
    go_wp2_with fail
    go_ret
    exact ⟨ret_bool HK.out.symm, rfl⟩
def inB (ls : List (List UInt8)) (l : List UInt8) : Bool := ls.contains l
/-- A slice of strings that reads as a list. -/
structure Ss (w : World) (A : Option Addr) (cap : Nat) (ls : List (List UInt8)) : Prop where
  le : ls.length ≤ cap
  rd : ls = [] ∨ ∃ b off, A = some ⟨b, off, none⟩ ∧ b < w.heap.size ∧ ∀ i, (h : i < ls.length) → w.cell? ⟨b, off + i, none⟩ = some (.string (str ls[i]))
set_option maxHeartbeats 1000000 in
theorem in_any (A : Option Addr) (cap : Nat) (ls : List (List UInt8)) (l : List UInt8) (w : World) (hs : Ss w A cap ls) (hl : ls.length ≤ 1000) :
    Calls Tryd.prog 44 #[.slice A ls.length cap, .string (str l)] w fun e w' => e = .returned (.bool (inB ls l)) ∧ w = w' := by
  have HS := hide hs
  clear hs
  go_enter Tryd.func44, Tryd.ntmps44
  go_wp2_with fail
  go_loop [5] (fun vi => ∃ j : Nat, vi = .int .i64 j ∧ j ≤ ls.length ∧ Hid (inB ls l = inB (ls.drop j) l)) (fun vi => ls.length - (intOf vi).toNat)
  case atStart => exact ⟨0, rfl, Nat.zero_le _, hide rfl⟩
  case round =>
    obtain ⟨j, rfl, hj, HT⟩ := hrel
    by_cases hlt : j < ls.length
    · rcases HS.out.rd with h0 | ⟨b, off, rfl, hb, hc⟩
      · rw [h0] at hlt; simp at hlt
      · have hcj := hc j hlt
        have HD := hide (show inB (ls.drop j) l = (l == ls[j] || inB (ls.drop (j + 1)) l) by unfold inB; rw [List.drop_eq_getElem_cons hlt, List.contains_cons])
        generalize ls[j]'hlt = k at *
        clear hc
        have hlt' : (j : Int) < ls.length := by omega
        cases hk : (l == k) with
        | true =>
          have HE := hide (show inB ls l = true by rw [HT.out, HD.out, hk]; rfl)
          have hk2 : (k == l) = true := by have := beq_iff_eq.1 hk; subst this; simp
          clear hk
          go_wp2_with fail
          go_ret
          exact ⟨ret_bool HE.out.symm, rfl⟩
        | false =>
          have HE := hide (show inB ls l = inB (ls.drop (j + 1)) l by rw [HT.out, HD.out, hk]; rfl)
          have hk2 : (k == l) = false := by rw [beq_eq_false_iff_ne] at hk ⊢; exact fun e => hk e.symm
          clear hk
          go_wp2_with fail
          go_round
          case rel => exact ⟨j + 1, by go_num, by omega, HE⟩
          case measure => simp [intOf]; omega
    · have hlt' : ¬ (j : Int) < ls.length := by omega
      have HE := hide (show inB ls l = false by rw [HT.out, List.drop_of_length_le (by omega)]; rfl)
      go_wp2_with fail
      go_ret
      exact ⟨ret_bool HE.out.symm, rfl⟩
theorem rkeyword_any (l : List UInt8) (w : World) : Calls Tryd.prog 30 #[.string (str l)] w fun e w' => e = .returned (.bool (kwB l)) ∧ Ext w w' := by
  have hb : ∀ cs : Array Value, Blk (w.alloc (.cells cs 9)) w.heap.size 9 cs := fun cs => Blk.new w 9 cs
  have HS := hide (show Ss (w.alloc (.cells #[.string (str [118, 97, 114]), .string (str [102, 117, 110, 99]), .string (str [105, 102]), .string (str [101, 108, 115, 101]), .string (str [119, 104, 105, 108, 101]), .string (str [114, 101, 116, 117, 114, 110])] 9)) (some ⟨w.heap.size, 0, none⟩) 6 kws from
    ⟨by decide, .inr ⟨w.heap.size, 0, rfl, by simp, fun i hi => by
      rw [Nat.zero_add, (hb _).cell]
      have hi : i < 6 := hi
      have hc : i = 0 ∨ i = 1 ∨ i = 2 ∨ i = 3 ∨ i = 4 ∨ i = 5 := by omega
      rcases hc with rfl | rfl | rfl | rfl | rfl | rfl <;> rfl⟩⟩)
  have HK := hide (show kwB l = inB kws l from rfl)
  clear hb
  go_enter Tryd.func30, Tryd.ntmps30
  go_wp2_with fail
  refine (in_any _ 6 kws l _ HS.out (by decide)).mono ?_
  rintro e w' ⟨rfl, rfl⟩
  go_wp2_with fail
  go_ret
  exact ⟨ret_bool HK.out.symm, Ext.alloc w _⟩
end Go.Proofs.YtbfjopknhlnbcaaDoor
