/-
  The reference's token (mark).
-/
import Derived.Test.YtbfjopknhlnbcaaDoorLexM
namespace Go.Proofs.YtbfjopknhlnbcaaDoor
open Go.RowKit
set_option linter.unusedVariables false


theorem Ext.of_eq_alloc {w w' : World} {x : Obj} (h : w.alloc x = w') : Ext w w' := by
  rw [← h]
  exact Ext.alloc _ _
theorem Ss.new (w : World) (e : TypeId) (ls : List (List UInt8)) : Ss (w.alloc (.cells (ls.map fun l => .string (str l)).toArray e)) (some ⟨w.heap.size, 0, none⟩) ls.length ls :=
  ⟨Nat.le_refl _, .inr ⟨w.heap.size, 0, rfl, by simp, fun i hi => by
    rw [Nat.zero_add, (Blk.new w e _).cell]
    simp [hi]⟩⟩
def ones1 : List (List UInt8) := ones.map fun c => [c]
theorem ones1_in (c : UInt8) : inB ones1 [c] = ones.contains c := by
  unfold inB ones1
  rw [Bool.eq_iff_iff]
  simp
theorem mark_ways (c : UInt8) (m : List UInt8) : markT (c :: m) = if inB two ((c :: m).take 2) then .ok ((5, (c :: m).take 2, 0), 2) else if inB ones1 [c] then .ok ((5, [c], 0), 1) else .error 3 := by
  rw [ones1_in]
  rfl
theorem two_short (c : UInt8) : inB two [c] = false := by
  unfold inB
  rw [Bool.eq_false_iff]
  intro h
  have : ∀ t ∈ two, t.length = 2 := by decide
  have := this [c] (List.contains_iff_mem.1 h)
  simp at this

set_option maxRecDepth 100000 in
set_option maxHeartbeats 4000000 in
theorem rtok_mark (c : UInt8) (m : List UInt8) (hL : letB c = false) (hD : digB c = false) (hb39 : ((c.toNat : Int) == 39) = false) (hb34 : ((c.toNat : Int) == 34) = false) (hl : (c :: m).length ≤ 100000) (w : World) : Calls Tryd.prog 22 #[.string (str (c :: m))] w fun e w' => e = .returned (tokV (markT (c :: m))) ∧ Ext w w' := by
  have hsz : (str (c :: m)).size = m.length + 1 := by rw [str_size]; rfl
  have h0 : 0 < (str (c :: m)).size := by rw [hsz]; omega
  have hg0 : (str (c :: m))[0] = c := rfl
  have hl1 : m.length ≤ 99999 := by simpa using hl
  have HX0 := hide (Ext.alloc w (.cells #[.int .i64 0, .string ⟨#[]⟩, .int .i64 0, .int .i64 0] 37))
  have HB0 := hide (Blk.new w 37 #[.int .i64 0, .string ⟨#[]⟩, .int .i64 0, .int .i64 0])
  have HL := hide (rletter_any c)
  have HD := hide (rdigit_any c)
  rw [hL] at HL
  rw [hD] at HD
  clear hL hD
  have hx1 : (str (c :: m)).extract 0 1 = str [c] := by rw [str_extract]; rfl
  have HT := hide (mark_ways c m)
  cases m with
  | nil =>
    have hsz1 : (str [c]).size = 1 := str_size [c]
    have H2 := hide (two_short c)
    have HINS := Ss.new (w.alloc (.cells #[.int .i64 0, .string ⟨#[]⟩, .int .i64 0, .int .i64 0] 37)) 9 ones1
    rw [World.size_alloc, show (ones1.map fun l => Value.string (str l)).toArray = #[.string ⟨#[40]⟩, .string ⟨#[41]⟩, .string ⟨#[123]⟩, .string ⟨#[125]⟩, .string ⟨#[91]⟩, .string ⟨#[93]⟩, .string ⟨#[44]⟩, .string ⟨#[59]⟩, .string ⟨#[61]⟩, .string ⟨#[43]⟩, .string ⟨#[45]⟩, .string ⟨#[42]⟩, .string ⟨#[47]⟩, .string ⟨#[37]⟩, .string ⟨#[60]⟩, .string ⟨#[62]⟩, .string ⟨#[33]⟩] from rfl] at HINS
    have HIN : Hid (Calls Tryd.prog 44 #[.slice (some ⟨w.heap.size + 1, 0, none⟩) 17 17, .string (str [c])] ((w.alloc (.cells #[.int .i64 0, .string ⟨#[]⟩, .int .i64 0, .int .i64 0] 37)).alloc (.cells #[.string ⟨#[40]⟩, .string ⟨#[41]⟩, .string ⟨#[123]⟩, .string ⟨#[125]⟩, .string ⟨#[91]⟩, .string ⟨#[93]⟩, .string ⟨#[44]⟩, .string ⟨#[59]⟩, .string ⟨#[61]⟩, .string ⟨#[43]⟩, .string ⟨#[45]⟩, .string ⟨#[42]⟩, .string ⟨#[47]⟩, .string ⟨#[37]⟩, .string ⟨#[60]⟩, .string ⟨#[62]⟩, .string ⟨#[33]⟩] 9)) fun e w' => e = .returned (.bool (inB ones1 [c])) ∧ ((w.alloc (.cells #[.int .i64 0, .string ⟨#[]⟩, .int .i64 0, .int .i64 0] 37)).alloc (.cells #[.string ⟨#[40]⟩, .string ⟨#[41]⟩, .string ⟨#[123]⟩, .string ⟨#[125]⟩, .string ⟨#[91]⟩, .string ⟨#[93]⟩, .string ⟨#[44]⟩, .string ⟨#[59]⟩, .string ⟨#[61]⟩, .string ⟨#[43]⟩, .string ⟨#[45]⟩, .string ⟨#[42]⟩, .string ⟨#[47]⟩, .string ⟨#[37]⟩, .string ⟨#[60]⟩, .string ⟨#[62]⟩, .string ⟨#[33]⟩] 9)) = w') := hide (in_any _ 17 ones1 [c] _ HINS (by decide))
    clear HINS
    cases h1 : inB ones1 [c] with
    | true =>
      have HR := hide (show markT [c] = .ok ((5, [c], 0), 1) by rw [HT.out, show ([c] : List UInt8).take 2 = [c] from rfl, H2.out, if_neg (by simp), h1, if_pos rfl])
      rw [h1] at HIN
      clear h1 HT
      go_enter Tryd.func22, Tryd.ntmps22
      go_wp2_with (first
      | (go_at_call 29; refine (HL.out _).mono ?_; rintro e w' ⟨rfl, rfl⟩)
      | (go_at_call 40; refine (HD.out _).mono ?_; rintro e w' ⟨rfl, rfl⟩)
      | (go_at_call 44; refine (HIN.out).mono ?_; rintro e w1 ⟨rfl, hw⟩; have hE : Ext (w.alloc (.cells #[.int .i64 0, .string ⟨#[]⟩, .int .i64 0, .int .i64 0] 37)) w1 := Ext.of_eq_alloc hw; clear hw HIN; have HB := hide (HB0.out.ext hE); have HX := hide (HX0.out.trans hE); clear hE; have hbc := HB.out.cell; have hbf := HB.out.frozen))
      have hset := (HB.out.put4 (.int .i64 5) (.string (str [c])) (.int .i64 0) (.int .i64 0)).cell
      exact bodyPost_ret (v := tokV (.ok ((5, [c], 0), 1))) (by first | (simp [results, Tryd.results22, go_sem, tokV, hset]; done) | (simp [results, Tryd.results22, go_sem, tokV, hset]; rfl)) rfl ⟨by rw [HR.out], HX.out.put4 (Nat.le_refl _) _ _ _ _⟩
    | false =>
      have HR := hide (show markT [c] = .error 3 by rw [HT.out, show ([c] : List UInt8).take 2 = [c] from rfl, H2.out, if_neg (by simp), h1, if_neg (by simp)])
      rw [h1] at HIN
      clear h1 HT
      go_enter Tryd.func22, Tryd.ntmps22
      go_wp2_with (first
      | (go_at_call 29; refine (HL.out _).mono ?_; rintro e w' ⟨rfl, rfl⟩)
      | (go_at_call 40; refine (HD.out _).mono ?_; rintro e w' ⟨rfl, rfl⟩)
      | (go_at_call 44; refine (HIN.out).mono ?_; rintro e w1 ⟨rfl, hw⟩; have hE : Ext (w.alloc (.cells #[.int .i64 0, .string ⟨#[]⟩, .int .i64 0, .int .i64 0] 37)) w1 := Ext.of_eq_alloc hw; clear hw HIN; have HB := hide (HB0.out.ext hE); have HX := hide (HX0.out.trans hE); clear hE; have hbc := HB.out.cell; have hbf := HB.out.frozen))
      have hset := (HB.out.put4 (.int .i64 0) (.string ⟨#[]⟩) (.int .i64 0) (.int .i64 0)).cell
      exact bodyPost_ret (v := tokV (.error 3)) (by first | (simp [results, Tryd.results22, go_sem, tokV, hset]; done) | (simp [results, Tryd.results22, go_sem, tokV, hset]; rfl)) rfl ⟨by rw [HR.out], HX.out.put4 (Nat.le_refl _) _ _ _ _⟩
  | cons d r =>
    have hx2 : (str (c :: d :: r)).extract 0 2 = str [c, d] := by rw [str_extract]; rfl
    have hlr : (1 : Int) < r.length + 1 + 1 := by omega
    have HINS := Ss.new (w.alloc (.cells #[.int .i64 0, .string ⟨#[]⟩, .int .i64 0, .int .i64 0] 37)) 9 two
    rw [World.size_alloc, show (two.map fun l => Value.string (str l)).toArray = #[.string ⟨#[61, 61]⟩, .string ⟨#[33, 61]⟩, .string ⟨#[60, 61]⟩, .string ⟨#[62, 61]⟩, .string ⟨#[38, 38]⟩, .string ⟨#[124, 124]⟩] from rfl] at HINS
    have HIN : Hid (Calls Tryd.prog 44 #[.slice (some ⟨w.heap.size + 1, 0, none⟩) 6 6, .string (str [c, d])] ((w.alloc (.cells #[.int .i64 0, .string ⟨#[]⟩, .int .i64 0, .int .i64 0] 37)).alloc (.cells #[.string ⟨#[61, 61]⟩, .string ⟨#[33, 61]⟩, .string ⟨#[60, 61]⟩, .string ⟨#[62, 61]⟩, .string ⟨#[38, 38]⟩, .string ⟨#[124, 124]⟩] 9)) fun e w' => e = .returned (.bool (inB two [c, d])) ∧ ((w.alloc (.cells #[.int .i64 0, .string ⟨#[]⟩, .int .i64 0, .int .i64 0] 37)).alloc (.cells #[.string ⟨#[61, 61]⟩, .string ⟨#[33, 61]⟩, .string ⟨#[60, 61]⟩, .string ⟨#[62, 61]⟩, .string ⟨#[38, 38]⟩, .string ⟨#[124, 124]⟩] 9)) = w') := hide (in_any _ 6 two [c, d] _ HINS (by decide))
    clear HINS
    cases h2 : inB two [c, d] with
    | true =>
      have HR := hide (show markT (c :: d :: r) = .ok ((5, [c, d], 0), 2) by rw [HT.out, show (c :: d :: r).take 2 = [c, d] from rfl, h2, if_pos rfl])
      rw [h2] at HIN
      clear h2 HT
      go_enter Tryd.func22, Tryd.ntmps22
      go_wp2_with (first
      | (go_at_call 29; refine (HL.out _).mono ?_; rintro e w' ⟨rfl, rfl⟩)
      | (go_at_call 40; refine (HD.out _).mono ?_; rintro e w' ⟨rfl, rfl⟩)
      | (go_at_call 44; refine (HIN.out).mono ?_; rintro e w1 ⟨rfl, hw⟩; have hE : Ext (w.alloc (.cells #[.int .i64 0, .string ⟨#[]⟩, .int .i64 0, .int .i64 0] 37)) w1 := Ext.of_eq_alloc hw; clear hw HIN; have HB := hide (HB0.out.ext hE); have HX := hide (HX0.out.trans hE); clear hE; have hbc := HB.out.cell; have hbf := HB.out.frozen))
      have hset := (HB.out.put4 (.int .i64 5) (.string (str [c, d])) (.int .i64 0) (.int .i64 0)).cell
      exact bodyPost_ret (v := tokV (.ok ((5, [c, d], 0), 2))) (by first | (simp [results, Tryd.results22, go_sem, tokV, hset]; done) | (simp [results, Tryd.results22, go_sem, tokV, hset]; rfl)) rfl ⟨by rw [HR.out], HX.out.put4 (Nat.le_refl _) _ _ _ _⟩
    | false =>
      have HIN2 : Hid (∀ w1 : World, Calls Tryd.prog 44 #[.slice (some ⟨w1.heap.size, 0, none⟩) 17 17, .string (str [c])] (w1.alloc (.cells #[.string ⟨#[40]⟩, .string ⟨#[41]⟩, .string ⟨#[123]⟩, .string ⟨#[125]⟩, .string ⟨#[91]⟩, .string ⟨#[93]⟩, .string ⟨#[44]⟩, .string ⟨#[59]⟩, .string ⟨#[61]⟩, .string ⟨#[43]⟩, .string ⟨#[45]⟩, .string ⟨#[42]⟩, .string ⟨#[47]⟩, .string ⟨#[37]⟩, .string ⟨#[60]⟩, .string ⟨#[62]⟩, .string ⟨#[33]⟩] 9)) fun e w' => e = .returned (.bool (inB ones1 [c])) ∧ (w1.alloc (.cells #[.string ⟨#[40]⟩, .string ⟨#[41]⟩, .string ⟨#[123]⟩, .string ⟨#[125]⟩, .string ⟨#[91]⟩, .string ⟨#[93]⟩, .string ⟨#[44]⟩, .string ⟨#[59]⟩, .string ⟨#[61]⟩, .string ⟨#[43]⟩, .string ⟨#[45]⟩, .string ⟨#[42]⟩, .string ⟨#[47]⟩, .string ⟨#[37]⟩, .string ⟨#[60]⟩, .string ⟨#[62]⟩, .string ⟨#[33]⟩] 9)) = w') := hide (fun w1 => in_any _ 17 ones1 [c] _ (Ss.new w1 9 ones1) (by decide))
      rw [h2] at HIN
      cases h1 : inB ones1 [c] with
      | true =>
        have HR := hide (show markT (c :: d :: r) = .ok ((5, [c], 0), 1) by rw [HT.out, show (c :: d :: r).take 2 = [c, d] from rfl, h2, if_neg (by simp), h1, if_pos rfl])
        rw [h1] at HIN2
        clear h2 h1 HT
        go_enter Tryd.func22, Tryd.ntmps22
        go_wp2_with (first
      | (go_at_call 29; refine (HL.out _).mono ?_; rintro e w' ⟨rfl, rfl⟩)
      | (go_at_call 40; refine (HD.out _).mono ?_; rintro e w' ⟨rfl, rfl⟩)
      | (go_at_call 44; refine (HIN.out).mono ?_; rintro e w1 ⟨rfl, hw⟩; have hE : Ext (w.alloc (.cells #[.int .i64 0, .string ⟨#[]⟩, .int .i64 0, .int .i64 0] 37)) w1 := Ext.of_eq_alloc hw; clear hw HIN; have HB := hide (HB0.out.ext hE); have HX := hide (HX0.out.trans hE); clear hE; have hbc := HB.out.cell; have hbf := HB.out.frozen)
      | (go_at_call 44; refine (HIN2.out _).mono ?_; rintro e w2 ⟨rfl, hw⟩; have hE : Ext w1 w2 := Ext.of_eq_alloc hw; clear hw; have HB2 := hide (HB.out.ext hE); have HX2 := hide (HX.out.trans hE); clear hE HB HX hbc hbf; have HB := hide HB2.out; have HX := hide HX2.out; have hbc := HB.out.cell; have hbf := HB.out.frozen))
        have hset := (HB.out.put4 (.int .i64 5) (.string (str [c])) (.int .i64 0) (.int .i64 0)).cell
        exact bodyPost_ret (v := tokV (.ok ((5, [c], 0), 1))) (by first | (simp [results, Tryd.results22, go_sem, tokV, hset]; done) | (simp [results, Tryd.results22, go_sem, tokV, hset]; rfl)) rfl ⟨by rw [HR.out], HX.out.put4 (Nat.le_refl _) _ _ _ _⟩
      | false =>
        have HR := hide (show markT (c :: d :: r) = .error 3 by rw [HT.out, show (c :: d :: r).take 2 = [c, d] from rfl, h2, if_neg (by simp), h1, if_neg (by simp)])
        rw [h1] at HIN2
        clear h2 h1 HT
        go_enter Tryd.func22, Tryd.ntmps22
        go_wp2_with (first
      | (go_at_call 29; refine (HL.out _).mono ?_; rintro e w' ⟨rfl, rfl⟩)
      | (go_at_call 40; refine (HD.out _).mono ?_; rintro e w' ⟨rfl, rfl⟩)
      | (go_at_call 44; refine (HIN.out).mono ?_; rintro e w1 ⟨rfl, hw⟩; have hE : Ext (w.alloc (.cells #[.int .i64 0, .string ⟨#[]⟩, .int .i64 0, .int .i64 0] 37)) w1 := Ext.of_eq_alloc hw; clear hw HIN; have HB := hide (HB0.out.ext hE); have HX := hide (HX0.out.trans hE); clear hE; have hbc := HB.out.cell; have hbf := HB.out.frozen)
      | (go_at_call 44; refine (HIN2.out _).mono ?_; rintro e w2 ⟨rfl, hw⟩; have hE : Ext w1 w2 := Ext.of_eq_alloc hw; clear hw; have HB2 := hide (HB.out.ext hE); have HX2 := hide (HX.out.trans hE); clear hE HB HX hbc hbf; have HB := hide HB2.out; have HX := hide HX2.out; have hbc := HB.out.cell; have hbf := HB.out.frozen))
        have hset := (HB.out.put4 (.int .i64 0) (.string ⟨#[]⟩) (.int .i64 0) (.int .i64 0)).cell
        exact bodyPost_ret (v := tokV (.error 3)) (by first | (simp [results, Tryd.results22, go_sem, tokV, hset]; done) | (simp [results, Tryd.results22, go_sem, tokV, hset]; rfl)) rfl ⟨by rw [HR.out], HX.out.put4 (Nat.le_refl _) _ _ _ _⟩

end Go.Proofs.YtbfjopknhlnbcaaDoor
