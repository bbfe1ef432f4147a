/-
  Blanks: blank of the program, skip of the reference.
-/
import Derived.Test.YtbfjopknhlnbcaaDoorLexC
import Derived.Test.YtbfjopknhlnbcaaDoorShelfLex
namespace Go.Proofs.YtbfjopknhlnbcaaDoor
open Go.RowKit
set_option linter.unusedVariables false

theorem str_data (l : List UInt8) : (str l).data.toList = l := by simp [str]
theorem idx_mem (c : UInt8) : ∀ l : List UInt8, (Lib.indexByte l c = -1 ∧ l.contains c = false) ∨ (0 ≤ Lib.indexByte l c ∧ l.contains c = true)
  | [] => .inl ⟨rfl, rfl⟩
  | b :: l => by
    simp only [Lib.indexByte]
    by_cases h : b = c
    · subst h
      refine .inr ⟨by simp, by simp⟩
    · have hb : (b == c) = false := beq_eq_false_iff_ne.2 h
      have hb2 : (c == b) = false := beq_eq_false_iff_ne.2 fun e => h e.symm
      rw [hb]
      rcases idx_mem c l with ⟨h1, h2⟩ | ⟨h1, h2⟩
      · refine .inl ⟨by simp [h1], ?_⟩
        rw [List.contains_cons, hb2, h2]; rfl
      · refine .inr ⟨?_, ?_⟩
        · have : (Lib.indexByte l c == -1) = false := by rw [beq_eq_false_iff_ne]; omega
          simp only [Bool.false_eq_true, if_false, this]
          omega
        · rw [List.contains_cons, hb2, h2]; rfl
theorem idx_line : ∀ l : List UInt8, Lib.indexByte l 10 = if lineN l < l.length then (lineN l : Int) else -1
  | [] => rfl
  | b :: l => by
    by_cases h : b = 10
    · subst h; rfl
    · have hb : (b == 10) = false := beq_eq_false_iff_ne.2 h
      have hb2 : (b != 10) = true := by simp [h]
      have ih := idx_line l
      have e : lineN (b :: l) = lineN l + 1 := by simp [lineN, spanN, h]
      rw [e]
      simp only [Lib.indexByte]
      rw [hb, ih, if_neg (by simp)]
      by_cases hl : lineN l < l.length
      · rw [if_pos hl, if_neg (by simp), if_pos (by rw [List.length_cons]; omega)]
        rfl
      · rw [if_neg hl, if_pos (show ((-1 : Int) == -1) = true from rfl), if_neg (by rw [List.length_cons]; omega)]
theorem ws_idx (c : UInt8) : wsB c = ([32, 9, 10, 13] : List UInt8).contains c := by
  have : ∀ n : Fin 256, wsB (UInt8.ofNat n.val) = ([32, 9, 10, 13] : List UInt8).contains (UInt8.ofNat n.val) := by decide +kernel
  have h := this ⟨c.toNat, c.toNat_lt⟩
  rwa [UInt8.ofNat_toNat] at h
/-- strings.IndexByte, of a byte. -/
theorem index_any (l : List UInt8) (c : UInt8) (w : World) : Calls Tryd.prog 32 #[.string (str l), .int .u8 (c.toNat : Int)] w fun e w' => e = .returned (.int .i64 (Lib.indexByte l c)) ∧ w = w' := by
  refine (Tryd.strings_IndexByte (str l) (c.toNat : Int) w).mono ?_
  rintro e w' ⟨rfl, rfl⟩
  rw [str_data]
  have : (c.toNat : Int).toNat.toUInt8 = c := by
    rw [Int.toNat_natCast]
    exact UInt8.ofNat_toNat
  rw [this]
  exact ⟨rfl, rfl⟩
theorem prefix_any (l p : List UInt8) (w : World) : Calls Tryd.prog 33 #[.string (str l), .string (str p)] w fun e w' => e = .returned (.bool (p.isPrefixOf l)) ∧ w = w' := by
  refine (Tryd.strings_HasPrefix (str l) (str p) w).mono ?_
  rintro e w' ⟨rfl, rfl⟩
  rw [str_data, str_data]
  exact ⟨rfl, rfl⟩
theorem slash_prefix (l : List UInt8) : (([47, 47] : List UInt8).isPrefixOf l = true ∧ ∃ r, l = 47 :: 47 :: r) ∨ (([47, 47] : List UInt8).isPrefixOf l = false ∧ ∀ c r, l = c :: r → ¬ (c = 47 ∧ r.head? = some 47)) := by
  match l with
  | [] => exact .inr ⟨rfl, fun c r h => by cases h⟩
  | [c] => exact .inr ⟨by simp [List.isPrefixOf], fun c' r h => by injection h with h1 h2; subst h2; simp⟩
  | c :: d :: r =>
    by_cases h : c = 47 ∧ d = 47
    · obtain ⟨rfl, rfl⟩ := h
      exact .inl ⟨by simp [List.isPrefixOf], r, rfl⟩
    · refine .inr ⟨?_, fun c' r' h' => by injection h' with h1 h2; subst h1 h2; simpa using h⟩
      simp only [List.isPrefixOf, Bool.and_true]
      rw [Bool.and_eq_false_iff]
      by_cases hc : c = 47
      · right; exact beq_eq_false_iff_ne.2 fun e => h ⟨hc, e.symm⟩
      · left; exact beq_eq_false_iff_ne.2 fun e => hc e.symm
theorem skip_step {l : List UInt8} {j : Nat} (h : j < l.length) (hw : wsB l[j] = true) : skipC false (l.drop j) = skipC false (l.drop (j + 1)) + 1 := by
  rw [List.drop_eq_getElem_cons h]; simp only [skipC]; rw [if_pos hw]
theorem skip_stop {l : List UInt8} {j : Nat} (h : j < l.length) (hw : wsB l[j] = false) (hs : ∀ c r, l.drop j = c :: r → ¬ (c = 47 ∧ r.head? = some 47)) : skipC false (l.drop j) = 0 := by
  have hs := hs l[j] (l.drop (j + 1)) (List.drop_eq_getElem_cons h)
  rw [List.drop_eq_getElem_cons h]; simp only [skipC]; rw [hw, if_neg (by simp), if_neg hs]
set_option maxRecDepth 100000 in
set_option maxHeartbeats 1000000 in
theorem blank_any (l : List UInt8) (hl : l.length ≤ 100000) (w : World) : Calls Tryd.prog 19 #[.string (str l)] w fun e w' => e = .returned (.int .i64 (skipC false l)) ∧ w = w' := by
  have hsz := str_size l
  go_enter Tryd.func19, Tryd.ntmps19
  go_wp2_with fail
  go_loop [3] (fun vi => ∃ j : Nat, vi = .int .i64 j ∧ j ≤ l.length ∧ Hid (skipC false l = j + skipC false (l.drop j))) (fun vi => l.length - (intOf vi).toNat)
  case atStart => exact ⟨0, rfl, Nat.zero_le _, hide (by simp)⟩
  case round =>
    obtain ⟨j, rfl, hj, HT⟩ := hrel
    by_cases hlt : j < l.length
    · have hjs : j < (str l).size := by rw [str_size]; exact hlt
      have hg := str_get l j hjs
      have hlt' : (j : Int) < l.length := by omega
      have hex := str_extract l j l.length
      rw [List.take_length] at hex
      have HST := hide (fun h => skip_step (l := l) hlt h)
      have HSP := hide (fun h hs => skip_stop (l := l) hlt h hs)
      generalize l[j]'hlt = c at *
      have HIX := hide (show Calls Tryd.prog 32 #[.string ⟨#[32, 9, 10, 13]⟩, .int .u8 (c.toNat : Int)] w fun e w' => e = .returned (.int .i64 (Lib.indexByte [32, 9, 10, 13] c)) ∧ w = w' from index_any [32, 9, 10, 13] c w)
      cases hw : wsB c with
      | true =>
        have hi : 0 ≤ Lib.indexByte [32, 9, 10, 13] c := by
          rcases idx_mem c [32, 9, 10, 13] with ⟨h1, h2⟩ | ⟨h1, h2⟩
          · rw [← ws_idx, hw] at h2; cases h2
          · exact h1
        have HN := hide (show skipC false l = ((j + 1 : Nat)) + skipC false (l.drop (j + 1)) by rw [HT.out, HST.out hw]; omega)
        generalize Lib.indexByte [32, 9, 10, 13] c = ix at *
        clear hw hex
        go_wp2_with (go_at_call 32; refine HIX.out.mono ?_; rintro e w' ⟨rfl, rfl⟩)
        go_round
        case rel => exact ⟨j + 1, by go_num, by omega, HN⟩
        case measure => simp [intOf]; omega
      | false =>
        have hi : ¬ 0 ≤ Lib.indexByte [32, 9, 10, 13] c := by
          rcases idx_mem c [32, 9, 10, 13] with ⟨h1, h2⟩ | ⟨h1, h2⟩
          · omega
          · rw [← ws_idx, hw] at h2; cases h2
        generalize Lib.indexByte [32, 9, 10, 13] c = ix at *
        have HPX := hide (show Calls Tryd.prog 33 #[.string (str (l.drop j)), .string ⟨#[47, 47]⟩] w fun e w' => e = .returned (.bool (([47, 47] : List UInt8).isPrefixOf (l.drop j))) ∧ w = w' from prefix_any (l.drop j) [47, 47] w)
        rcases slash_prefix (l.drop j) with ⟨hp, hq⟩ | ⟨hp, hq⟩
        · have hsc := skipC_comment hq
          have hix := idx_line (l.drop j)
          have HIL := hide (show Calls Tryd.prog 32 #[.string (str (l.drop j)), .int .u8 10] w fun e w' => e = .returned (.int .i64 (Lib.indexByte (l.drop j) 10)) ∧ w = w' from index_any (l.drop j) 10 w)
          rw [hp] at HPX
          have hll : lineN (l.drop j) ≤ (l.drop j).length := spanN_le _ _
          have hlen : (l.drop j).length = l.length - j := List.length_drop
          by_cases hn : lineN (l.drop j) < (l.drop j).length
          · rw [if_pos hn] at hix
            rw [hix] at HIL
            have HN := hide (show skipC false l = ((j + lineN (l.drop j) : Nat)) + skipC false (l.drop (j + lineN (l.drop j))) by rw [HT.out, hsc, List.drop_drop]; omega)
            have hpos : 1 ≤ lineN (l.drop j) := by
              obtain ⟨r, hr⟩ := hq
              rw [hr]; simp [lineN, spanN]
            have hle : j + lineN (l.drop j) ≤ l.length := by omega
            generalize lineN (l.drop j) = n at *
            clear hw hp hq hsc hix hn hll hlen
            go_wp2_with (first
              | (go_at_call 32; with_reducible (refine HIX.out.mono ?_); rintro e w' ⟨rfl, rfl⟩)
              | (go_at_call 33; refine HPX.out.mono ?_; rintro e w' ⟨rfl, rfl⟩)
              | (go_at_call 32; refine HIL.out.mono ?_; rintro e w' ⟨rfl, rfl⟩))
            go_round
            case rel => exact ⟨j + n, by go_num, hle, HN⟩
            case measure => simp [intOf]; omega
          · rw [if_neg hn] at hix
            rw [hix] at HIL
            have h3 : j + lineN (l.drop j) = l.length := by omega
            have HN := hide (show skipC false l = l.length by
              have hd : l.drop (j + lineN (l.drop j)) = [] := List.drop_of_length_le (by omega)
              rw [HT.out, hsc, List.drop_drop, hd]
              show j + (lineN (l.drop j) + 0) = l.length
              omega)
            clear h3
            clear hw hp hq hsc hix hn hll hlen
            go_wp2_with (first
              | (go_at_call 32; with_reducible (refine HIX.out.mono ?_); rintro e w' ⟨rfl, rfl⟩)
              | (go_at_call 33; refine HPX.out.mono ?_; rintro e w' ⟨rfl, rfl⟩)
              | (go_at_call 32; refine HIL.out.mono ?_; rintro e w' ⟨rfl, rfl⟩))
            go_ret
            exact ⟨ret_int (by rw [HN.out]), rfl⟩
        · rw [hp] at HPX
          have HN := hide (show skipC false l = j by rw [HT.out, HSP.out hw hq]; omega)
          clear hw hp hq
          go_wp2_with (first
            | (go_at_call 32; with_reducible (refine HIX.out.mono ?_); rintro e w' ⟨rfl, rfl⟩)
            | (go_at_call 33; refine HPX.out.mono ?_; rintro e w' ⟨rfl, rfl⟩))
          go_ret
          exact ⟨ret_int (by rw [HN.out]), rfl⟩
    · have HN := hide (show skipC false l = j by rw [HT.out, List.drop_of_length_le (by omega)]; rfl)
      have hlt' : ¬ (j : Int) < l.length := by omega
      go_wp2_with fail
      go_ret
      exact ⟨ret_int (by rw [HN.out]), rfl⟩
theorem wsB_ways (c : UInt8) : (wsB c = true ∧ (c = 32 ∨ c = 9 ∨ c = 10 ∨ c = 13)) ∨ (wsB c = false ∧ ((c.toNat : Int) == 32) = false ∧ ((c.toNat : Int) == 9) = false ∧ ((c.toNat : Int) == 10) = false ∧ ((c.toNat : Int) == 13) = false) := by
  have h1 : ((c.toNat : Int) == 32) = (c == 32) := u8_eqI c 32 (by omega)
  have h2 : ((c.toNat : Int) == 9) = (c == 9) := u8_eqI c 9 (by omega)
  have h3 : ((c.toNat : Int) == 10) = (c == 10) := u8_eqI c 10 (by omega)
  have h4 : ((c.toNat : Int) == 13) = (c == 13) := u8_eqI c 13 (by omega)
  rw [h1, h2, h3, h4]
  unfold wsB
  cases h5 : (c == 32)
  · cases h6 : (c == 9)
    · cases h7 : (c == 10)
      · cases h8 : (c == 13)
        · exact .inr ⟨rfl, rfl, rfl, rfl, rfl⟩
        · exact .inl ⟨rfl, .inr (.inr (.inr (beq_iff_eq.1 h8)))⟩
      · exact .inl ⟨rfl, .inr (.inr (.inl (beq_iff_eq.1 h7)))⟩
    · exact .inl ⟨rfl, .inr (.inl (beq_iff_eq.1 h6))⟩
  · exact .inl ⟨rfl, .inl (beq_iff_eq.1 h5)⟩
set_option maxRecDepth 100000 in
set_option maxHeartbeats 2000000 in
theorem skip_any (l : List UInt8) (hl : l.length ≤ 100000) (p : Nat) (hp : p ≤ l.length) (w : World) : Calls Tryd.prog 21 #[.string (str l), .int .i64 (p : Int)] w fun e w' => e = .returned (.int .i64 ((p + skipC false (l.drop p) : Nat) : Int)) ∧ w = w' := by
  have hsz := str_size l
  go_enter Tryd.func21, Tryd.ntmps21
  go_wp2_with fail
  go_loop [1] (fun vi => ∃ j : Nat, vi = .int .i64 j ∧ j ≤ l.length ∧ Hid (p + skipC false (l.drop p) = j + skipC false (l.drop j))) (fun vi => l.length - (intOf vi).toNat)
  case atStart => exact ⟨p, rfl, hp, hide rfl⟩
  case round =>
    obtain ⟨j, rfl, hj, HT⟩ := hrel
    by_cases hlt : j < l.length
    · have hjs : j < (str l).size := by rw [str_size]; exact hlt
      have hg := str_get l j hjs
      have hlt' : (j : Int) < l.length := by omega
      have HST := hide (fun h => skip_step (l := l) hlt h)
      have HSP := hide (fun h hs => skip_stop (l := l) hlt h hs)
      have HGL := hide (List.drop_eq_getElem_cons hlt)
      generalize l[j]'hlt = c at *
      rcases wsB_ways c with ⟨hw, rfl | rfl | rfl | rfl⟩ | ⟨hw, h1, h2, h3, h4⟩
      · have HN := hide (show p + skipC false (l.drop p) = ((j + 1 : Nat)) + skipC false (l.drop (j + 1)) by rw [HT.out, HST.out hw]; omega)
        clear hw
        go_wp2_with fail
        go_round
        case rel => exact ⟨j + 1, by go_num, by omega, HN⟩
        case measure => simp [intOf]; omega
      · have HN := hide (show p + skipC false (l.drop p) = ((j + 1 : Nat)) + skipC false (l.drop (j + 1)) by rw [HT.out, HST.out hw]; omega)
        clear hw
        go_wp2_with fail
        go_round
        case rel => exact ⟨j + 1, by go_num, by omega, HN⟩
        case measure => simp [intOf]; omega
      · have HN := hide (show p + skipC false (l.drop p) = ((j + 1 : Nat)) + skipC false (l.drop (j + 1)) by rw [HT.out, HST.out hw]; omega)
        clear hw
        go_wp2_with fail
        go_round
        case rel => exact ⟨j + 1, by go_num, by omega, HN⟩
        case measure => simp [intOf]; omega
      · have HN := hide (show p + skipC false (l.drop p) = ((j + 1 : Nat)) + skipC false (l.drop (j + 1)) by rw [HT.out, HST.out hw]; omega)
        clear hw
        go_wp2_with fail
        go_round
        case rel => exact ⟨j + 1, by go_num, by omega, HN⟩
        case measure => simp [intOf]; omega
      · rcases slash_prefix (l.drop j) with ⟨_, hq⟩ | ⟨_, hq⟩
        · have hsc := skipC_comment hq
          have hll : lineN (l.drop j) ≤ (l.drop j).length := spanN_le _ _
          have hlen : (l.drop j).length = l.length - j := List.length_drop
          obtain ⟨r, hr⟩ := hq
          have hgl := HGL.out
          rw [hr] at hgl
          injection hgl with e1 e2
          subst e1
          have hj1 : j + 1 < l.length := by rw [hr] at hlen; simp at hlen; omega
          have hjs1 : j + 1 < (str l).size := by rw [str_size]; exact hj1
          have hg1 := str_get l (j + 1) hjs1
          have he : l[j + 1]'hj1 = 47 := by
            have := congrArg (fun x => x[0]?) e2
            simp only [List.getElem?_cons_zero, List.getElem?_drop, Nat.add_zero] at this
            rw [List.getElem?_eq_getElem hj1] at this
            exact (Option.some.inj this).symm
          rw [he] at hg1
          have hj1' : (j : Int) + 1 < l.length := by omega
          have hpos : 1 ≤ lineN (l.drop j) := by rw [hr]; simp [lineN, spanN]
          have HN := hide (show p + skipC false (l.drop p) = ((j + lineN (l.drop j) : Nat)) + skipC false (l.drop (j + lineN (l.drop j))) by rw [HT.out, hsc, List.drop_drop]; omega)
          have HLN := hide (fun i (hi : i ≤ lineN (l.drop j)) => spanN_drop (fun c => c != 10) (l.drop j) i hi)
          have hle : j + lineN (l.drop j) ≤ l.length := by omega
          obtain ⟨n, hn⟩ : ∃ n, lineN (l.drop j) = n := ⟨_, rfl⟩
          rw [hn] at HN hle hpos hll
          have HNN := hide hn
          clear hw hsc hr e2 he hll hlen hn HGL HST HSP
          go_wp2_with fail
          go_loop [1] (fun vi => ∃ i : Nat, vi = .int .i64 ((j + i : Nat) : Int) ∧ i ≤ n) (fun vi => l.length + 1 - (intOf vi).toNat)
          case atStart => exact ⟨0, by go_num, Nat.zero_le _⟩
          case round =>
            obtain ⟨i, rfl, hi⟩ := hrel
            have hst := HLN.out i (by rw [HNN.out]; exact hi)
            have hnn := HNN.out
            unfold lineN at hnn
            rw [hnn, List.drop_drop] at hst
            by_cases hil : j + i < l.length
            · have his : j + i < (str l).size := by rw [str_size]; exact hil
              have hgi := str_get l (j + i) his
              have hss := spanN_step (fun c => c != 10) hil
              generalize l[j + i]'hil = d at *
              have hil' : ((j + i : Nat) : Int) < l.length := by omega
              by_cases hd : d = 10
              · subst hd
                have e1 : ((10 : UInt8) != 10) = false := by decide
                rw [e1, if_neg (by simp)] at hss
                have hin : i = n := by omega
                subst hin
                clear hst hnn hss
                go_wp2_with fail
                go_round
                case rel => exact ⟨j + i, by go_num, hle, HN⟩
                case measure => simp [intOf]; omega
              · have e1 : (d != 10) = true := by simp [hd]
                rw [e1, if_pos rfl] at hss
                have hin : i + 1 ≤ n := by omega
                have hd' : ((d.toNat : Int) != 10) = true := by
                  have h9 : ((d.toNat : Int) == 10) = false := (u8_eqI d 10 (by omega)).trans (beq_eq_false_iff_ne.2 hd)
                  rw [bne, h9]; rfl
                clear hst hnn hss hd
                go_wp2_with fail
                go_round
                case rel => exact ⟨i + 1, by go_num, hin⟩
                case measure => simp [intOf]; omega
            · have hz : l.drop (j + i) = [] := List.drop_of_length_le (by omega)
              rw [hz] at hst
              have hin : i = n := by simp only [spanN] at hst; omega
              subst hin
              have hil' : ¬ ((j + i : Nat) : Int) < l.length := by omega
              clear hst hnn hz
              go_wp2_with fail
              go_round
              case rel => exact ⟨j + i, by go_num, hle, HN⟩
              case measure => simp [intOf]; omega
        · have HN := hide (show p + skipC false (l.drop p) = j by rw [HT.out, HSP.out hw hq]; omega)
          have hcs := HGL.out
          by_cases h47 : c = 47
          · subst h47
            have hq2 := hq _ _ hcs
            by_cases hj1 : j + 1 < l.length
            · have hjs1 : j + 1 < (str l).size := by rw [str_size]; exact hj1
              have hg1 := str_get l (j + 1) hjs1
              have hne : l[j + 1]'hj1 ≠ 47 := fun e => hq2 ⟨rfl, by rw [List.head?_drop, List.getElem?_eq_getElem hj1, e]⟩
              generalize l[j + 1]'hj1 = d at *
              have hd' : ((d.toNat : Int) == 47) = false := (u8_eqI d 47 (by omega)).trans (beq_eq_false_iff_ne.2 hne)
              have hj1' : (j : Int) + 1 < l.length := by omega
              clear hw hq hq2 hcs hne
              go_wp2_with fail
              go_ret
              exact ⟨ret_int (by have := HN.out; omega), rfl⟩
            · have hj1' : ¬ (j : Int) + 1 < l.length := by omega
              clear hw hq hq2 hcs
              go_wp2_with fail
              go_ret
              exact ⟨ret_int (by have := HN.out; omega), rfl⟩
          · have hc' : ((c.toNat : Int) == 47) = false := (u8_eqI c 47 (by omega)).trans (beq_eq_false_iff_ne.2 h47)
            clear hw hq hcs h47
            go_wp2_with fail
            go_ret
            exact ⟨ret_int (by have := HN.out; omega), rfl⟩
    · have HN := hide (show p + skipC false (l.drop p) = j by rw [HT.out, List.drop_of_length_le (by omega)]; rfl)
      have hlt' : ¬ (j : Int) < l.length := by omega
      go_wp2_with fail
      go_ret
      exact ⟨ret_int (by have := HN.out; omega), rfl⟩
end Go.Proofs.YtbfjopknhlnbcaaDoor
