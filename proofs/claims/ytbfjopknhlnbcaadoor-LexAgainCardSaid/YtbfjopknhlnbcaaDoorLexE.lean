/-
  The program's word, character, text.
-/
import Derived.Test.YtbfjopknhlnbcaaDoorLexD
namespace Go.Proofs.YtbfjopknhlnbcaaDoor
open Go.RowKit
set_option linter.unusedVariables false

/-- How a token function returns its outcome. -/
def tokV : TokR → Value
  | .ok x => .tuple #[.agg #[.int .i64 x.1.1, .string (str x.1.2.1), .int .i64 x.1.2.2, .int .i64 0], .int .i64 (x.2 : Int), .int .i64 0]
  | .error e => .tuple #[.agg #[.int .i64 0, .string ⟨#[]⟩, .int .i64 0, .int .i64 0], .int .i64 0, .int .i64 e]
theorem Blk.put4 {w : World} {g : Nat} {t : TypeId} {x0 x1 x2 x3 : Value} (h : Blk w g t #[x0, x1, x2, x3]) (a b c d : Value) : Blk ((((w.setCell ⟨g, 0, none⟩ a).setCell ⟨g, 1, none⟩ b).setCell ⟨g, 2, none⟩ c).setCell ⟨g, 3, none⟩ d) g t #[a, b, c, d] := by
  have := (((h.set 0 a).set 1 b).set 2 c).set 3 d
  simpa using this
theorem Ext.put4 {w0 w : World} {g : Nat} (h : Ext w0 w) (hg : w0.heap.size ≤ g) (a b c d : Value) : Ext w0 ((((w.setCell ⟨g, 0, none⟩ a).setCell ⟨g, 1, none⟩ b).setCell ⟨g, 2, none⟩ c).setCell ⟨g, 3, none⟩ d) := (((h.set hg a).set hg b).set hg c).set hg d
def zero4 : Array Value := #[.int .i64 0, .string ⟨#[]⟩, .int .i64 0, .int .i64 0]
set_option maxRecDepth 100000 in
set_option maxHeartbeats 1000000 in
theorem word_any (l : List UInt8) (hl : l.length ≤ 100000) (w : World) : Calls Tryd.prog 34 #[.string (str l)] w fun e w' => e = .returned (tokV (wordT l)) ∧ Ext w w' := by
  have hsz := str_size l
  have hle := spanN_le prtB l
  have hex := str_extract l 0 (spanN prtB l)
  simp only [List.drop_zero] at hex
  have HSP := hide (fun w => span_any prtB 26 part_any (.inl rfl) l hl w)
  have HT := hide (show wordT l = if kwB (l.take (spanN prtB l)) then .ok ((2, l.take (spanN prtB l), 0), spanN prtB l) else if 14 < spanN prtB l then .error 6 else .ok ((1, l.take (spanN prtB l), 0), spanN prtB l) from rfl)
  have HK := hide (fun w => keyword_any (l.take (spanN prtB l)) w)
  generalize hn : spanN prtB l = n at *
  generalize hx : l.take n = x at *
  clear hn hx
  cases hk : kwB x with
  | true =>
    have HR := hide (show wordT l = .ok ((2, x, 0), n) by rw [HT.out, hk, if_pos rfl])
    rw [hk] at HK
    clear hk HT
    go_enter Tryd.func34, Tryd.ntmps34
    go_wp2_with (first
      | (go_at_call 48; refine (HSP.out _).mono ?_; rintro e w' ⟨rfl, rfl⟩)
      | (go_at_call 28; refine (HK.out _).mono ?_; rintro e w' ⟨rfl, rfl⟩))
    exact bodyPost_ret (v := tokV (.ok ((2, x, 0), n))) (by simp [results, Tryd.results34, go_sem, tokV]) rfl ⟨by rw [HR.out], (Ext.alloc w _).alloc' _⟩
  | false =>
    rw [hk] at HK
    by_cases h14 : 14 < n
    · have HR := hide (show wordT l = .error 6 by rw [HT.out, hk, if_neg (by simp), if_pos h14])
      have h14' : (14 : Int) < n := by omega
      clear hk HT
      go_enter Tryd.func34, Tryd.ntmps34
      go_wp2_with (first
        | (go_at_call 48; refine (HSP.out _).mono ?_; rintro e w' ⟨rfl, rfl⟩)
        | (go_at_call 28; refine (HK.out _).mono ?_; rintro e w' ⟨rfl, rfl⟩))
      exact bodyPost_ret (v := tokV (.error 6)) (by simp [results, Tryd.results34, go_sem, tokV]) rfl ⟨by rw [HR.out], (Ext.alloc w _).alloc' _⟩
    · have HR := hide (show wordT l = .ok ((1, x, 0), n) by rw [HT.out, hk, if_neg (by simp), if_neg h14])
      have h14' : ¬ (14 : Int) < n := by omega
      clear hk HT
      go_enter Tryd.func34, Tryd.ntmps34
      go_wp2_with (first
        | (go_at_call 48; refine (HSP.out _).mono ?_; rintro e w' ⟨rfl, rfl⟩)
        | (go_at_call 28; refine (HK.out _).mono ?_; rintro e w' ⟨rfl, rfl⟩))
      exact bodyPost_ret (v := tokV (.ok ((1, x, 0), n))) (by simp [results, Tryd.results34, go_sem, tokV]) rfl ⟨by rw [HR.out], (Ext.alloc w _).alloc' _⟩
theorem head_drop (l : List UInt8) (j : Nat) (h : j < l.length) : (l.drop j).head? = some l[j] := by rw [List.head?_drop, List.getElem?_eq_getElem h]
theorem head_drop_none (l : List UInt8) (j : Nat) (h : l.length ≤ j) : (l.drop j).head? = none := by rw [List.head?_drop, List.getElem?_eq_none h]
theorem elem_one {m : List UInt8} (h : (elemL m).2 ≠ 0) : 1 ≤ m.length := by
  have := (elemL_le m).1
  omega
theorem char_spec (c : UInt8) (m : List UInt8) : charT (c :: m) = if (elemL m).2 = 0 ∨ m.head? = some 39 ∨ (m.drop (elemL m).2).head? ≠ some 39 then .error 3 else .ok ((3, [], ((elemL m).1.toNat : Int)), (elemL m).2 + 2) := rfl
set_option maxRecDepth 100000 in
set_option maxHeartbeats 1000000 in
theorem char_any (c : UInt8) (m : List UInt8) (hl : m.length ≤ 100000) (w : World) : Calls Tryd.prog 37 #[.string (str (c :: m))] w fun e w' => e = .returned (tokV (charT (c :: m))) ∧ Ext w w' := by
  have hsz : (str (c :: m)).size = m.length + 1 := by rw [str_size]; rfl
  have hex : (str (c :: m)).extract 1 (m.length + 1) = str m := by
    have := str_extract (c :: m) 1 (m.length + 1)
    rw [List.take_of_length_le (by simp)] at this
    exact this
  have HEL := hide (fun w => elem_any m w hl)
  obtain ⟨hle1, hle2⟩ := elemL_le m
  have HT := hide (char_spec c m)
  generalize hv : (elemL m).1 = v at *
  generalize hn : (elemL m).2 = n at *
  have HN := hide hn
  have hvb := v.toNat_lt
  have hvb' : (v.toNat : Int) < 256 := by omega
  clear hv hn
  by_cases hn0 : n = 0
  · have HR := hide (show charT (c :: m) = .error 3 by rw [HT.out, if_pos (.inl hn0)])
    subst hn0
    clear HT
    go_enter Tryd.func37, Tryd.ntmps37
    go_wp2_with (go_at_call 50; refine (HEL.out _).mono ?_; rintro e w1 ⟨rfl, hE⟩; have HB := hide ((Blk.new w 34 #[.int .i64 0, .string ⟨#[]⟩, .int .i64 0, .int .i64 0]).ext hE); have HE := hide ((Ext.alloc w _).trans hE); clear hE; have hbc := HB.out.cell; have hbf := HB.out.frozen)
    have hset := (HB.out.put4 (.int .i64 0) (.string ⟨#[]⟩) (.int .i64 0) (.int .i64 0)).cell
    exact bodyPost_ret (v := tokV (.error 3)) (by simp [results, Tryd.results37, go_sem, tokV, hset]) rfl ⟨by rw [HR.out], HE.out.put4 (Nat.le_refl _) _ _ _ _⟩
  · have hm0 : 0 < m.length := by omega
    have hs1 : 1 < (str (c :: m)).size := by rw [hsz]; omega
    have hg1 : (str (c :: m))[1] = m[0] := rfl
    have hnb : ((n : Int) == 0) = false := by simp [hn0]
    by_cases hq : m[0] = 39
    · have HR := hide (show charT (c :: m) = .error 3 by rw [HT.out, if_pos (.inr (.inl (by rw [List.head?_eq_getElem?, List.getElem?_eq_getElem hm0, hq])))])
      rw [hq] at hg1
      clear HT hn0 hq
      go_enter Tryd.func37, Tryd.ntmps37
      go_wp2_with (go_at_call 50; refine (HEL.out _).mono ?_; rintro e w1 ⟨rfl, hE⟩; have HB := hide ((Blk.new w 34 #[.int .i64 0, .string ⟨#[]⟩, .int .i64 0, .int .i64 0]).ext hE); have HE := hide ((Ext.alloc w _).trans hE); clear hE; have hbc := HB.out.cell; have hbf := HB.out.frozen)
      have hset := (HB.out.put4 (.int .i64 0) (.string ⟨#[]⟩) (.int .i64 0) (.int .i64 0)).cell
      exact bodyPost_ret (v := tokV (.error 3)) (by simp [results, Tryd.results37, go_sem, tokV, hset]) rfl ⟨by rw [HR.out], HE.out.put4 (Nat.le_refl _) _ _ _ _⟩
    · have hq1 : m.head? ≠ some 39 := by rw [List.head?_eq_getElem?, List.getElem?_eq_getElem hm0]; intro e; exact hq (Option.some.inj e)
      have hqb : ((m[0].toNat : Int) == 39) = false := (u8_eqI m[0] 39 (by omega)).trans (beq_eq_false_iff_ne.2 hq)
      generalize m[0] = d at *
      by_cases hln : m.length < n + 1
      · have HR := hide (show charT (c :: m) = .error 3 by rw [HT.out, if_pos (.inr (.inr (by rw [head_drop_none _ _ (by omega)]; simp)))])
        have hln' : (m.length : Int) + 1 < n + 2 := by omega
        clear HT hn0 hq hq1
        go_enter Tryd.func37, Tryd.ntmps37
        go_wp2_with (go_at_call 50; refine (HEL.out _).mono ?_; rintro e w1 ⟨rfl, hE⟩; have HB := hide ((Blk.new w 34 #[.int .i64 0, .string ⟨#[]⟩, .int .i64 0, .int .i64 0]).ext hE); have HE := hide ((Ext.alloc w _).trans hE); clear hE; have hbc := HB.out.cell; have hbf := HB.out.frozen)
        have hset := (HB.out.put4 (.int .i64 0) (.string ⟨#[]⟩) (.int .i64 0) (.int .i64 0)).cell
        exact bodyPost_ret (v := tokV (.error 3)) (by simp [results, Tryd.results37, go_sem, tokV, hset]) rfl ⟨by rw [HR.out], HE.out.put4 (Nat.le_refl _) _ _ _ _⟩
      · have hnm : n < m.length := by omega
        have hsn : n + 1 < (str (c :: m)).size := by rw [hsz]; omega
        have hgn : (str (c :: m))[n + 1] = m[n] := rfl
        have hln' : ¬ (m.length : Int) + 1 < n + 2 := by omega
        by_cases he : m[n] = 39
        · have HR := hide (show charT (c :: m) = .ok ((3, [], (v.toNat : Int)), n + 2) by
            rw [HT.out, if_neg]
            rintro (h | h | h)
            · exact hn0 h
            · exact hq1 h
            · exact h (by rw [head_drop _ _ hnm, he]))
          rw [he] at hgn
          clear HT hn0 hq hq1 he
          go_enter Tryd.func37, Tryd.ntmps37
          go_wp2_with (go_at_call 50; refine (HEL.out _).mono ?_; rintro e w1 ⟨rfl, hE⟩; have HB := hide ((Blk.new w 34 #[.int .i64 0, .string ⟨#[]⟩, .int .i64 0, .int .i64 0]).ext hE); have HE := hide ((Ext.alloc w _).trans hE); clear hE; have hbc := HB.out.cell; have hbf := HB.out.frozen)
          have hset := (HB.out.put4 (.int .i64 3) (.string ⟨#[]⟩) (.int .i64 (v.toNat : Int)) (.int .i64 0)).cell
          exact bodyPost_ret (v := tokV (.ok ((3, [], (v.toNat : Int)), n + 2))) (by simp [results, Tryd.results37, go_sem, tokV, hset]; rfl) rfl ⟨by rw [HR.out], HE.out.put4 (Nat.le_refl _) _ _ _ _⟩
        · have HR := hide (show charT (c :: m) = .error 3 by
            rw [HT.out, if_pos (.inr (.inr (by rw [head_drop _ _ hnm]; intro e; exact he (Option.some.inj e))))])
          have hgb : ((m[n].toNat : Int) == 39) = false := (u8_eqI m[n] 39 (by omega)).trans (beq_eq_false_iff_ne.2 he)
          have hgb2 : ((m[n].toNat : Int) != 39) = true := by rw [bne, hgb]; rfl
          generalize m[n] = u at *
          clear HT hn0 hq hq1 he
          go_enter Tryd.func37, Tryd.ntmps37
          go_wp2_with (go_at_call 50; refine (HEL.out _).mono ?_; rintro e w1 ⟨rfl, hE⟩; have HB := hide ((Blk.new w 34 #[.int .i64 0, .string ⟨#[]⟩, .int .i64 0, .int .i64 0]).ext hE); have HE := hide ((Ext.alloc w _).trans hE); clear hE; have hbc := HB.out.cell; have hbf := HB.out.frozen)
          have hset := (HB.out.put4 (.int .i64 0) (.string ⟨#[]⟩) (.int .i64 0) (.int .i64 0)).cell
          exact bodyPost_ret (v := tokV (.error 3)) (by simp [results, Tryd.results37, go_sem, tokV, hset]) rfl ⟨by rw [HR.out], HE.out.put4 (Nat.le_refl _) _ _ _ _⟩
end Go.Proofs.YtbfjopknhlnbcaaDoor
