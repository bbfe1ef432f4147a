/-
  The digits of a number, base 16: what strconv does for them.
-/
import Derived.Test.YtpnniiildnkeaaaDoorSumC
import Derived.Test.YtpnniiildnkeaaaDoorShelfRep
namespace Go.Proofs.YtpnniiildnkeaaaDoor
open Go.RowKit
set_option linter.unusedVariables false

/-- The cell of math/bits' table that the base 16 leads to. -/
def TZ (w : World) : Prop := w.cell? ⟨5, 15, none⟩ = some (.int .u8 4)
theorem TZ.ext {w w' : World} (h : TZ w) (he : Ext w w') : TZ w' := (he.cell _ _ (World.block_lt_of_cell? _ _ h)).trans h
set_option maxRecDepth 100000 in
theorem tz64_any (w : World) (h : TZ w) : Calls Tryd.prog 63 #[.int .u64 16] w fun e w' => e = .returned (.int .i64 4) ∧ w = w' := by
  have e1 : bits .and .u64 16 (IntKind.u64.wrap (-16)) = 16 := by decide
  have e2 : IntKind.u64.wrap (16 * 285870213051353865) = 4573923408821661840 := by decide
  unfold TZ at h
  go_enter Tryd.func63, Tryd.ntmps63
  go_wp2_with fail
  go_ret
  exact ⟨rfl, rfl⟩
set_option maxRecDepth 100000 in
theorem tz_any (w : World) (h : TZ w) : Calls Tryd.prog 56 #[.int .u64 16] w fun e w' => e = .returned (.int .i64 4) ∧ w = w' := by
  go_enter Tryd.func56, Tryd.ntmps56
  go_wp2_with fail
  refine (tz64_any w h).mono ?_
  rintro e w' ⟨rfl, rfl⟩
  go_wp2_with fail
  go_ret
  exact ⟨rfl, rfl⟩
set_option maxRecDepth 100000 in
theorem pow2_any (w : World) : Calls Tryd.prog 55 #[.int .i64 16] w fun e w' => e = .returned (.bool true) ∧ w = w' := by
  have e1 : bits .and .i64 16 15 = 0 := by decide
  go_enter Tryd.func55, Tryd.ntmps55
  go_wp2_with fail
  go_ret
  exact ⟨rfl, rfl⟩
/-- The digit of a number below 16. -/
def hexTab : List UInt8 := [48, 49, 50, 51, 52, 53, 54, 55, 56, 57, 97, 98, 99, 100, 101, 102]
def hexD (n : Nat) : UInt8 := hexTab.getD n 0
/-- The last j digits of h. -/
def hexL (h : Nat) : Nat → List UInt8
  | 0 => []
  | j + 1 => hexD (h / 16 ^ j % 16) :: hexL h j
theorem hexL_length (h : Nat) : ∀ j, (hexL h j).length = j
  | 0 => rfl
  | j + 1 => by simp [hexL, hexL_length h j]
/-- Block g is just the bytes l, an array of 65. -/
def Rw65 (w : World) (g : Nat) (l : List UInt8) : Prop := l.length = 65 ∧ Blk w g 90 (bys l).toArray
theorem Rw65.set {w : World} {g : Nat} {l : List UInt8} (h : Rw65 w g l) (i : Nat) (x : UInt8) : Rw65 (w.setCell ⟨g, i, none⟩ (.int .u8 (x.toNat : Int))) g (l.set i x) :=
  ⟨by rw [List.length_set]; exact h.1, by
    have := h.2.set i (.int .u8 (x.toNat : Int))
    have e : (bys l).toArray.setIfInBounds i (.int .u8 (x.toNat : Int)) = (bys (l.set i x)).toArray := by simp [bys, List.map_set, u8v]
    rw [e] at this
    exact this⟩
theorem Rw65.cell {w : World} {g : Nat} {l : List UInt8} (h : Rw65 w g l) (i : Nat) (hi : i < 65) : ∃ x : UInt8, w.cell? ⟨g, i, none⟩ = some (.int .u8 (x.toNat : Int)) := by
  have hl : i < l.length := by rw [h.1]; exact hi
  exact ⟨l[i], by rw [h.2.cell]; simp [bys, hl, u8v]⟩
theorem Rw65.sl {w : World} {g : Nat} {l : List UInt8} (h : Rw65 w g l) (q : Nat) (hq : q < 65) : Sl w (some ⟨g, q, none⟩) (65 - q) (l.drop q) :=
  ⟨by rw [List.length_drop, h.1]; omega, by simp [maxLen]; omega, (fun h => by cases h), .inr ⟨g, q, rfl, h.2.lt, fun i hi => by
    have hl : q + i < l.length := by rw [List.length_drop] at hi; omega
    rw [h.2.cell]
    simp [bys, hl, u8v]⟩⟩
theorem zero65 : Tryd.zeroCells90 = (bys (List.replicate 65 0)).toArray := by kernel_rfl
theorem hex_at (d : Nat) (hd : d < 16) (w : World) : (Instr.index 9 (.string ⟨#[48, 49, 50, 51, 52, 53, 54, 55, 56, 57, 97, 98, 99, 100, 101, 102, 103, 104, 105, 106, 107, 108, 109, 110, 111, 112, 113, 114, 115, 116, 117, 118, 119, 120, 121, 122]⟩) (.int .u64 (d : Int))).run Tryd.prog w = .ok (.int .u8 ((hexD d).toNat : Int)) w := by
  have hc : d = 0 ∨ d = 1 ∨ d = 2 ∨ d = 3 ∨ d = 4 ∨ d = 5 ∨ d = 6 ∨ d = 7 ∨ d = 8 ∨ d = 9 ∨ d = 10 ∨ d = 11 ∨ d = 12 ∨ d = 13 ∨ d = 14 ∨ d = 15 := by omega
  rcases hc with rfl | rfl | rfl | rfl | rfl | rfl | rfl | rfl | rfl | rfl | rfl | rfl | rfl | rfl | rfl | rfl
  all_goals (show _ = _; kernel_rfl)
theorem and15 (u : Nat) (h : u < 18446744073709551616) : bits .and .u64 (u : Int) 15 = ((u % 16 : Nat) : Int) := by
  rw [show (15 : Int) = ((15 : Nat) : Int) from rfl, u64_and_nat u 15 h (by omega)]
  congr 1
  exact Nat.and_two_pow_sub_one_eq_mod u 4
theorem slice65 (g q : Nat) (hq : q < 65) (w : World) : (Instr.sliceAt 90 (.pointer (some ⟨g, 0, none⟩)) (some (.int .i64 (q : Int))) none none).run Tryd.prog w = .ok (.slice (some ⟨g, q, none⟩) (65 - q) (65 - q)) w := by
  have hu : Tryd.prog.underlying 90 = some (.array (Tryd.prog.arrayLen 90) (Tryd.prog.elem 90)) := by kernel_rfl
  have hl : Tryd.prog.arrayLen 90 = 65 := by kernel_rfl
  have hs : (sizeOf (Tryd.prog.elem 90)).run Tryd.prog w = .ok 1 w := by kernel_rfl
  rw [run_sliceAt_array_l w 90 ⟨g, 0, none⟩ hu .i64 (q : Int) (by omega) (by rw [hl]; omega), hs, hl]
  simp only [Result.andThen_ok, slicedAt, Int.toNat_natCast]
  rw [if_neg (by omega), Addr.add_lit]
  simp
theorem div_pow (n j : Nat) : n / 16 ^ j / 16 = n / 16 ^ (j + 1) := by rw [Nat.div_div_eq_div_mul, Nat.pow_succ]
theorem drop_set {l : List UInt8} {q : Nat} {x : UInt8} (h : q < l.length) : (l.set q x).drop q = x :: l.drop (q + 1) := by
  rw [List.drop_eq_getElem_cons (by rw [List.length_set]; exact h), List.getElem_set_self, List.drop_set_of_lt (by omega)]
set_option maxRecDepth 100000 in
set_option maxHeartbeats 1000000 in
theorem fb_any (h : UInt64) (w : World) (ht : TZ w) : Calls Tryd.prog 40 #[.slice none 0 0, .int .u64 (h.toNat : Int), .int .i64 16, .bool false, .bool false] w fun e w' => ∃ j, e = .returned (.tuple #[.slice none 0 0, .string (str (hexL h.toNat (j + 1)))]) ∧ j ≤ 15 ∧ Hid (h.toNat / 16 ^ j < 16) ∧ Ext w w' := by
  have hmax := h.toNat_lt
  generalize h.toNat = H at *
  have hZ := zero65
  have HT := hide (ht.ext (Ext.alloc w (.cells Tryd.zeroCells90 90)))
  have HR := hide (show Rw65 (w.alloc (.cells Tryd.zeroCells90 90)) w.heap.size (List.replicate 65 0) from ⟨by simp, by have := Blk.new w 90 Tryd.zeroCells90; rw [← hZ]; exact this⟩)
  have HX := hide (Ext.alloc w (.cells Tryd.zeroCells90 90))
  clear ht hZ
  go_enter Tryd.func40, Tryd.ntmps40
  go_wp2_with fail
  generalize hwb : w.alloc (.cells Tryd.zeroCells90 90) = wb at *
  clear hwb
  refine (pow2_any _).mono ?_
  rintro e w' ⟨rfl, rfl⟩
  go_wp2_with fail
  refine (tz_any _ HT.out).mono ?_
  rintro e w' ⟨rfl, rfl⟩
  go_wp2_with fail
  go_loopw [1, 13] (fun x i wr => ∃ (j q u : Nat) (L : List UInt8), q + j = 65 ∧ j ≤ 15 ∧ i = .int .i64 (q : Int) ∧ x = .int .u64 (u : Int) ∧ u ≤ H ∧ Hid (u = H / 16 ^ j) ∧ Hid (L.drop q = hexL H j) ∧ Hid (Rw65 wr w.heap.size L) ∧ Hid (Ext w wr)) (fun x _ _ => (intOf x).toNat)
  case atStart => exact ⟨0, 65, H, _, rfl, by omega, rfl, rfl, Nat.le_refl _, hide (by simp), hide (by simp [hexL]), HR, HX⟩
  case round =>
    obtain ⟨j, p, u, L, hpj, hj, rfl, rfl, huH, HU, HL, HW, HY⟩ := hrel
    obtain ⟨q, rfl⟩ : ∃ q, p = q + 1 := ⟨p - 1, by omega⟩
    obtain ⟨x, hx⟩ := HW.out.cell q (by omega)
    have hfz := HW.out.2.frozen q
    have hlt := HW.out.2.lt
    have hq65 : q < 65 := by omega
    by_cases h16 : 16 ≤ u
    · have h16' : (16 : Int) ≤ (u : Int) := by omega
      have ha := and15 u (by omega)
      have hd : u % 16 < 16 := Nat.mod_lt _ (by omega)
      have HDD := hide (show (u % 16) = H / 16 ^ j % 16 by rw [HU.out])
      have hidx := hex_at (u % 16) hd
      generalize u % 16 = d at *
      have HJ := hide (show j + 1 ≤ 15 from by
        have h1 := HU.out
        rcases Nat.lt_or_ge j 15 with h2 | h2
        · omega
        · exfalso
          have h3 : j = 15 := by omega
          rw [h3] at h1
          omega)
      go_wp2_with fail
      go_roundw
      case rel =>
        refine ⟨j + 1, q, u / 16, L.set q (hexD d), by omega, HJ.out, rfl, by go_num, by omega, hide (by rw [HU.out, div_pow]), hide ?_, hide (HW.out.set q _), hide (HY.out.set (Nat.le_refl _) _)⟩
        rw [drop_set (by rw [HW.out.1]; exact hq65), HL.out, HDD.out]
        rfl
      case measure => simp [intOf]; omega
    · have h16' : ¬ (16 : Int) ≤ (u : Int) := by omega
      have hd : u < 16 := by omega
      have hidx := hex_at u hd
      have HSL := hide ((HW.out.set q (hexD u)).sl q hq65)
      have hconv := HSL.out.convert (P := Tryd.prog) (src := 23) (dst := 9) Tryd.underlying23 Tryd.underlying5 Tryd.underlying9
      rw [List.length_drop, List.length_set, HW.out.1] at hconv
      have HR := hide (show (L.set q (hexD u)).drop q = hexL H (j + 1) by
        rw [drop_set (by rw [HW.out.1]; exact hq65), HL.out, HU.out]
        simp only [hexL]
        rw [Nat.mod_eq_of_lt (by rw [← HU.out]; exact hd)])
      rw [HR.out] at hconv
      have HY2 := hide (HY.out.set (p := ⟨w.heap.size, q, none⟩) (Nat.le_refl _) (.int .u8 ((hexD u).toNat : Int)))
      have hsl := slice65 w.heap.size q hq65
      go_wp2_with fail
      go_ret2
      exact ⟨j, rfl, hj, hide (by rw [← HU.out]; exact hd), HY2.out⟩
set_option maxRecDepth 100000 in
theorem ifmt_any (h : UInt64) (w : World) (ht : TZ w) : Calls Tryd.prog 28 #[.int .u64 (h.toNat : Int), .int .i64 16] w fun e w' => ∃ j, e = .returned (.string (str (hexL h.toNat (j + 1)))) ∧ j ≤ 15 ∧ Hid (h.toNat / 16 ^ j < 16) ∧ Ext w w' := by
  go_enter Tryd.func28, Tryd.ntmps28
  go_wp2_with fail
  refine (fb_any h w ht).mono ?_
  rintro e w1 ⟨j, rfl, hj, hd, he⟩
  have HE := hide he
  clear he
  go_wp2_with fail
  go_ret
  exact ⟨j, rfl, hj, hd, HE.out⟩
set_option maxRecDepth 100000 in
theorem fmt_any (h : UInt64) (w : World) (ht : TZ w) : Calls Tryd.prog 25 #[.int .u64 (h.toNat : Int), .int .i64 16] w fun e w' => ∃ j, e = .returned (.string (str (hexL h.toNat (j + 1)))) ∧ j ≤ 15 ∧ Hid (h.toNat / 16 ^ j < 16) ∧ Ext w w' := by
  go_enter Tryd.func25, Tryd.ntmps25
  go_wp2_with fail
  refine (ifmt_any h w ht).mono ?_
  rintro e w1 ⟨j, rfl, hj, hd, he⟩
  have HE := hide he
  clear he
  go_wp2_with fail
  go_ret
  exact ⟨j, rfl, hj, hd, HE.out⟩
theorem hexL_high (H j : Nat) (h : H / 16 ^ j < 16) : ∀ c, Lib.repeatL [48] c ++ hexL H (j + 1) = hexL H (c + (j + 1))
  | 0 => by simp [Lib.repeatL]
  | c + 1 => by
    have hz : H / 16 ^ (c + (j + 1)) = 0 := by
      rw [show c + (j + 1) = j + (c + 1) from by omega, Nat.pow_add, ← Nat.div_div_eq_div_mul]
      apply Nat.div_eq_of_lt
      have : 16 ^ 1 ≤ 16 ^ (c + 1) := Nat.pow_le_pow_right (by omega) (by omega)
      omega
    rw [show c + 1 + (j + 1) = (c + (j + 1)) + 1 from by omega]
    have e : hexL H ((c + (j + 1)) + 1) = hexD (H / 16 ^ (c + (j + 1)) % 16) :: hexL H (c + (j + 1)) := rfl
    rw [e, hz, ← hexL_high H j h c]
    rfl
set_option maxRecDepth 100000 in
theorem digits_any (h : UInt64) (w : World) (ht : TZ w) : Calls Tryd.prog 18 #[.int .u64 (h.toNat : Int)] w fun e w' => e = .returned (.string (str (hexL h.toNat 16))) ∧ Ext w w' := by
  go_enter Tryd.func18, Tryd.ntmps18
  go_wp2_with fail
  refine (fmt_any h w ht).mono ?_
  rintro e w1 ⟨j, rfl, hj, hd, he⟩
  have HE := hide he
  have hsz : (str (hexL h.toNat (j + 1))).size = j + 1 := by
    show (hexL h.toNat (j + 1)).toArray.size = _
    simp [hexL_length]
  obtain ⟨c, hc⟩ : ∃ c, c + (j + 1) = 16 := ⟨15 - j, by omega⟩
  have HH := hide (hexL_high h.toNat j hd.out c)
  have hsub : (16 : Int) - ((j : Int) + 1) = (c : Int) := by omega
  clear he
  go_wp2_with fail
  refine (Tryd.strings_Repeat ⟨#[48]⟩ c w1 (by omega) (by show 1 * c ≤ _; omega)).mono ?_
  rintro e w2 ⟨rfl, h2⟩
  have HS := hide (show (⟨(Lib.repeatL ((⟨#[48]⟩ : ByteArray).data.toList) c).toArray⟩ : ByteArray) ++ str (hexL h.toNat (j + 1)) = str (hexL h.toNat 16) by
    rw [← hc, ← HH.out]
    simp [str, ByteArray.ext_iff])
  have HE := hide (HE.out.trans h2)
  have hsz2 : (⟨(Lib.repeatL ((⟨#[48]⟩ : ByteArray).data.toList) c).toArray⟩ : ByteArray).size = c := by
    show (Lib.repeatL [48] c).toArray.size = _
    simp [Lib.repeatL_length]
  have hcj : c + (j + 1) ≤ 16 := by omega
  clear h2
  go_wp2_with fail
  go_ret
  exact ⟨ret_val (by first | exact congrArg Value.string HS.out | rw [HS.out]), HE.out⟩
end Go.Proofs.YtpnniiildnkeaaaDoor
