/-
  Parse of the reference; the walk of SumDigits.
-/
import Derived.Test.YtpnniiildnkeaaaDoorHexR
import Derived.Deep.QuietTactic
import Derived.BigQuiet
namespace Go.Proofs.YtpnniiildnkeaaaDoor
open Go.RowKit
set_option linter.unusedVariables false

theorem hex16_at (d : Nat) (hd : d < 16) (w : World) : (Instr.index 9 (.string ⟨#[48, 49, 50, 51, 52, 53, 54, 55, 56, 57, 97, 98, 99, 100, 101, 102]⟩) (.int .i64 (d : Int))).run Tryd.prog w = .ok (.int .u8 ((hexD d).toNat : Int)) w := by
  have hc : d = 0 ∨ d = 1 ∨ d = 2 ∨ d = 3 ∨ d = 4 ∨ d = 5 ∨ d = 6 ∨ d = 7 ∨ d = 8 ∨ d = 9 ∨ d = 10 ∨ d = 11 ∨ d = 12 ∨ d = 13 ∨ d = 14 ∨ d = 15 := by omega
  rcases hc with rfl | rfl | rfl | rfl | rfl | rfl | rfl | rfl | rfl | rfl | rfl | rfl | rfl | rfl | rfl | rfl
  all_goals (show _ = _; kernel_rfl)
theorem u8_eqI (a b : UInt8) : ((a.toNat : Int) == (b.toNat : Int)) = decide (a = b) := by
  by_cases h : a = b
  · subst h; simp
  · have : (a.toNat : Int) ≠ (b.toNat : Int) := fun e => h (UInt8.toNat_inj.1 (by omega))
    simp [h, this]
theorem rp16_take (l : List UInt8) {j : Nat} (hj : j < l.length) {n : Nat} (h : rp16 0 (l.take j) = some n) : rp16 0 (l.take (j + 1)) = if dTo l[j] 16 < 0 then none else some (n * 16 + (dTo l[j] 16).toNat) := by
  have step : ∀ (m : List UInt8) (c : UInt8) (acc n : Nat), rp16 acc m = some n → rp16 acc (m ++ [c]) = if dTo c 16 < 0 then none else some (n * 16 + (dTo c 16).toNat) := by
    intro m
    induction m with
    | nil => intro c acc n h; simp only [rp16, Option.some.injEq] at h; subst h; simp [rp16]
    | cons x m ih =>
      intro c acc n h
      simp only [rp16] at h
      simp only [List.cons_append, rp16]
      split at h
      · cases h
      · rename_i hx
        rw [if_neg hx]
        exact ih c _ n h
  rw [List.take_succ_eq_append_getElem hj]
  exact step _ _ _ _ h
theorem rp16_none (l : List UInt8) {j : Nat} (hj : j < l.length) {n : Nat} (h : rp16 0 (l.take j) = some n) (hd : dTo l[j] 16 < 0) : rp16 0 l = none := by
  have h1 := rp16_take l hj h
  rw [if_pos hd] at h1
  have mono : ∀ (m k : List UInt8) (acc : Nat), rp16 acc m = none → rp16 acc (m ++ k) = none := by
    intro m
    induction m with
    | nil => intro k acc h; cases h
    | cons x m ih =>
      intro k acc h
      simp only [rp16] at h
      simp only [List.cons_append, rp16]
      split
      · rfl
      · rename_i hx
        rw [if_neg hx] at h
        exact ih k _ h
  rw [← List.take_append_drop (j + 1) l]
  exact mono _ _ _ h1
set_option maxRecDepth 100000 in
set_option maxHeartbeats 4000000 in
theorem rparse_good (s : ByteArray) (hl : s.size = 16) (w : World) :
    Calls Tryd.prog 21 #[.string s] w fun e w' => e = .returned (.tuple #[.int .u64 (rparseU s.data.toList).1, .int .i64 (rparseU s.data.toList).2]) ∧ Ext w w' := by
  have HL := hide hl
  have hl2 : s.data.toList.length = 16 := by simpa using hl
  have HL2 := hide hl2
  have hlb : s.size ≤ 16 := by omega
  have hlc : 16 ≤ s.size := by omega
  have hne : ((s.size : Int) != 16) = false := by simp [hl]
  clear hl hl2
  go_enter Tryd.func21, Tryd.ntmps21
  go_wp2_with fail
  go_loopw [4, 5] (fun vn vi wr => ∃ (j : Nat) (n : Nat) (a : Int), vn = .int .u64 a ∧ vi = .int .i64 j ∧ j ≤ 16 ∧ Hid (a = (n : Int) ∧ rp16 0 (s.data.toList.take j) = some n) ∧ Hid (Ext w wr)) (fun _ i _ => 16 - (intOf i).toNat)
  case atStart => exact ⟨0, 0, 0, rfl, rfl, by omega, hide ⟨rfl, by simp [rp16]⟩, hide (Ext.refl w)⟩
  case round =>
    obtain ⟨j, n, a, rfl, rfl, hj, HN, HX⟩ := hrel
    clear hne
    by_cases hlt : j < 16
    · have hjs : j < s.size := by omega
      obtain ⟨c, hc⟩ : ∃ c, s[j] = c := ⟨_, rfl⟩
      have HC := hide hc
      have hlj : j < s.data.toList.length := by rw [HL2.out]; exact hlt
      have HCL := hide (show s.data.toList[j] = c by rw [← hc]; rfl)
      clear hlt
      have hlt : (j : Int) < 16 := by omega
      go_wp2_with fail
      go_loopw [6, 7] (fun vd vk wk => ∃ (k : Nat), vd = .int .i64 (dTo c k) ∧ vk = .int .i64 k ∧ k ≤ 16 ∧ Hid (Ext w wk)) (fun _ i _ => 16 - (intOf i).toNat)
      case atStart => exact ⟨0, rfl, rfl, by omega, HX⟩
      case round =>
        obtain ⟨k, rfl, rfl, hk, HK⟩ := hrel
        by_cases hkl : k < 16
        · have hidx := hex16_at k hkl
          have hceq := u8_eqI (hexD k) c
          have hkl' : (k : Int) < 16 := by omega
          obtain ⟨tq, htq⟩ : ∃ tq, decide (hexD k = c) = tq := ⟨_, rfl⟩
          rw [htq] at hceq
          have HTQ := hide htq
          have HN2 := hide (show dTo c (k + 1) = if tq then (k : Int) else dTo c k by simp only [dTo]; rw [← htq]; simp)
          generalize dTo c k = z at *
          clear htq
          go_wp2_with fail
          refine wp_region_ext 6 1 [] mixed (by kernel_rfl) trivial ?_
          repeat ((refine seq_exact ?_ (by rfl) (by rfl) (fun w1 hU => ?_) ?_); (rotate_left 1); (focus (clear hU; go_simp <;> with_reducible rfl)); (simp only [Act.put, List.setIfInBounds_toArray, List.set_cons_zero, List.set_cons_succ]))
          intro w7 hw7 _
          simp only [List.drop_succ_cons, List.drop_nil]
          have HK7 := hide (HK.out.trans hw7.un)
          clear hw7
          cases tq
          · go_wp2_with fail
            go_roundw
            case rel => exact ⟨k + 1, by rw [HN2.out]; rfl, by go_num, by omega, HK7⟩
            case measure => simp [intOf]; omega
          · go_wp2_with fail
            go_roundw
            case rel => exact ⟨k + 1, by rw [HN2.out]; rfl, by go_num, by omega, HK7⟩
            case measure => simp [intOf]; omega
        · have hk16 : k = 16 := by omega
          subst hk16
          rcases dTo_at c 16 with h1 | ⟨d, h1, h2, _⟩
          · have HD := hide h1
            rw [h1]
            clear h1
            go_wp2_with fail
            go_ret2
            have hrp := rp16_none s.data.toList hlj HN.out.2 (by rw [HCL.out, HD.out]; omega)
            have : rparseU s.data.toList = (0, 3) := by unfold rparseU; rw [HL2.out, hrp]; rfl
            rw [this]
            exact ⟨rfl, HK.out⟩
          · have HD := hide h1
            rw [h1]
            clear h1
            obtain ⟨ha, hr⟩ := HN.out
            have hb := rp16_lt _ _ _ hr
            have hbj : n < 16 ^ j := by
              have hlen : (s.data.toList.take j).length = j := by rw [List.length_take]; omega
              rw [hlen] at hb
              simpa using hb
            have hb2 : n < 1152921504606846976 := by
              refine Nat.lt_of_lt_of_le hbj ?_
              have : (16 : Nat) ^ j ≤ 16 ^ 15 := Nat.pow_le_pow_right (by omega) (by omega)
              simpa using this
            have ha0 : 0 ≤ a := by omega
            have ha1 : a < 1152921504606846976 := by omega
            have HA := hide ha
            have HS := hide (show rp16 0 (s.data.toList.take (j + 1)) = some (n * 16 + d) by
              rw [rp16_take s.data.toList hlj hr, HCL.out, HD.out, if_neg (by omega), Int.toNat_natCast])
            clear ha hr hb hbj hb2
            go_wp2_with fail
            go_roundw
            case rel => exact ⟨j + 1, n * 16 + d, _, rfl, by go_num, by omega, hide ⟨by rw [HA.out]; omega, HS.out⟩, HK⟩
            case measure => simp [intOf]; omega
    · have hj16 : j = 16 := by omega
      subst hj16
      have hr := HN.out.2
      rw [List.take_of_length_le (by rw [HL2.out]; exact Nat.le_refl _)] at hr
      have HR := hide (show rparseU s.data.toList = (n, 0) by unfold rparseU; rw [HL2.out, hr]; rfl)
      obtain ⟨ha, _⟩ := HN.out
      have HA := hide ha
      clear hr ha
      go_wp2_with fail
      go_ret2
      rw [HR.out, HA.out]
      exact ⟨rfl, HX.out⟩
theorem rparse_any (s : ByteArray) (w : World) (hs : s.size ≤ 1000) :
    Calls Tryd.prog 21 #[.string s] w fun e w' => e = .returned (.tuple #[.int .u64 (rparseU s.data.toList).1, .int .i64 (rparseU s.data.toList).2]) ∧ Ext w w' := by
  by_cases hl : s.size = 16
  · exact rparse_good s hl w
  · have hne : ((s.size : Int) != 16) = true := by simp; omega
    have HR := hide (show rparseU s.data.toList = (0, 3) by unfold rparseU; rw [if_neg (by simpa using hl)])
    clear hl
    go_enter Tryd.func21, Tryd.ntmps21
    go_wp2_with fail
    go_ret2
    rw [HR.out]
    exact ⟨rfl, Ext.refl w⟩

set_option maxRecDepth 100000 in
set_option maxHeartbeats 2000000 in
theorem digits_law (s : ByteArray) (h : UInt64) (w : World) (hs : s.size ≤ 9223372036854775807) (ht : TZ w) (hz : EZ w) :
    Calls Tryd.prog 8 #[.string s, .int .u64 (h.toNat : Int)] w fun e w' => e = .returned (.bool true) ∧ Ext w w' := by
  by_cases hl : 60 < s.size
  · have hl' : (60 : Int) < s.size := by omega
    have HT := hide ht
    clear ht hz
    go_enter Tryd.func8, Tryd.ntmps8
    go_wp2_with (go_at_call 9; refine (awake02_any _ HT.out).mono ?_; rintro e w1 ⟨rfl, hE1⟩)
    go_ret
    exact ⟨rfl, hE1⟩
  · have hl' : ¬ (60 : Int) < s.size := by omega
    obtain ⟨l, hls⟩ : ∃ l, s = str l := ⟨s.data.toList, by simp [str]⟩
    subst hls
    rw [str_size] at hl hl' hs
    have HSZ := hide (str_size l)
    have HT := hide ht
    have HZ := hide hz
    have hb := parseU_bound l
    obtain ⟨u, hu⟩ : ∃ u : UInt64, (parseU l).1 = u.toNat := ⟨UInt64.ofNat (parseU l).1, by rw [UInt64.toNat_ofNat', Nat.mod_eq_of_lt (by omega)]⟩
    obtain ⟨q, hq⟩ : ∃ q, (parseU l).2 = q := ⟨_, rfl⟩
    have HBK := hide (parseU_back l)
    have HPU := hide (show parseU l = (u.toNat, q) from Prod.ext hu hq)
    rw [hu, hq] at HBK
    have HRU := hide (show rparseU l = (u.toNat, q) by rw [rparse_same]; exact HPU.out)
    have HPH := hide (parseU_hex h)
    have HR := hide (fun w => rparse_any (str l) w (by rw [str_size]; omega))
    clear ht hz hb hu hq
    have hsz := HSZ.out
    go_enter Tryd.func8, Tryd.ntmps8
    go_wp2_with (first
      | (go_at_call 9; refine (awake02_any _ HT.out).mono ?_; rintro e w1 ⟨rfl, hE1⟩; have HE1 := hide hE1; clear hE1))
    refine (parse_any l (by omega) _ (HT.out.ext HE1.out) (HZ.out.ext HE1.out)).mono ?_
    rw [HPU.out]
    rintro e w2 ⟨rfl, hE⟩
    have HE2 := hide (HE1.out.trans hE)
    clear hE
    go_wp2_with fail
    have hr2 := HR.out w2
    rw [str_data, HRU.out] at hr2
    refine hr2.mono ?_
    clear hr2
    rintro e w3 ⟨rfl, hE⟩
    have HE3 := hide (HE2.out.trans hE)
    clear hE
    go_wp2_with (go_at_call 18; refine (digits_any _ _ (HT.out.ext HE3.out)).mono ?_; rintro e w4 ⟨rfl, hE⟩; have HE4 := hide (HE3.out.trans hE); clear hE)
    refine (parse_any _ (by rw [hexL_length]; omega) _ (HT.out.ext HE4.out) (HZ.out.ext HE4.out)).mono ?_
    rw [HPH.out]
    rintro e w5 ⟨rfl, hE⟩
    have HE5 := hide (HE4.out.trans hE)
    clear hE
    by_cases hq0 : q = 0
    · have hlb : hexL u.toNat 16 = l := HBK.out.resolve_left (by simp [hq0])
      subst hq0
      have hbe : (hexL u.toNat 16 == l) = true := by simp [hlb]
      clear hlb
      go_wp2_with (go_at_call 18; refine (digits_any _ _ (HT.out.ext HE5.out)).mono ?_; rintro e w6 ⟨rfl, hE⟩; have HE6 := hide (HE5.out.trans hE); clear hE)
      go_ret
      exact ⟨rfl, HE6.out⟩
    · have hqb : (q != 0) = true := by simpa using hq0
      clear hq0
      go_wp2_with fail
      go_ret
      exact ⟨rfl, HE5.out⟩
theorem digits_law' (s : ByteArray) (h : Int) (w : World) (hs : s.size ≤ 9223372036854775807) (hh : (Lit.int .u64 h).wf = true) (ht : TZ w) (hz : EZ w) :
    Calls Tryd.prog 8 #[.string s, .int .u64 h] w fun e w' => e = .returned (.bool true) ∧ Ext w w' := by
  rw [u64_of_wf hh]
  exact digits_law s _ w hs ht hz
end Go.Proofs.YtpnniiildnkeaaaDoor
