/-
  Digits, Write; LexAgain.
-/
import Derived.Test.YtbfjopknhlnbcaaDoorLexZe
namespace Go.Proofs.YtbfjopknhlnbcaaDoor
open Go.RowKit
set_option linter.unusedVariables false

theorem enc_dig (d : Nat) (h : d < 10) : Utf8.encode (48 + (d : Int)) = str [UInt8.ofNat (48 + d)] := by
  have hc : d = 0 ∨ d = 1 ∨ d = 2 ∨ d = 3 ∨ d = 4 ∨ d = 5 ∨ d = 6 ∨ d = 7 ∨ d = 8 ∨ d = 9 := by omega
  rcases hc with rfl | rfl | rfl | rfl | rfl | rfl | rfl | rfl | rfl | rfl <;> rfl
set_option maxRecDepth 100000 in
theorem rdigits_any : ∀ (k n : Nat) (w : World), n < 10 ^ (k + 1) → n ≤ 2147483647 → Calls Tryd.prog 23 #[.int .i64 (n : Int)] w fun e w' => e = .returned (.string (str (decL n))) ∧ w = w' := by
  intro k
  induction k with
  | zero =>
    intro n w hn hm
    have hn : n < 10 := by simpa using hn
    have hn' : (n : Int) < 10 := by omega
    have he := enc_dig n hn
    have HD := hide (show decL n = [UInt8.ofNat (48 + n)] by rw [decL, if_pos hn])
    generalize UInt8.ofNat (48 + n) = y at *
    go_enter Tryd.func23, Tryd.ntmps23
    go_wp2_with fail
    go_ret
    exact ⟨by rw [HD.out]; rfl, rfl⟩
  | succ k ih =>
    intro n w hn hm
    by_cases hn10 : n < 10
    · have hn' : (n : Int) < 10 := by omega
      have he := enc_dig n hn10
      have HD := hide (show decL n = [UInt8.ofNat (48 + n)] by rw [decL, if_pos hn10])
      generalize UInt8.ofNat (48 + n) = y at *
      clear ih
      go_enter Tryd.func23, Tryd.ntmps23
      go_wp2_with fail
      go_ret
      exact ⟨by rw [HD.out]; rfl, rfl⟩
    · have hn' : ¬ (n : Int) < 10 := by omega
      have HI := hide (ih (n / 10) w (by rw [Nat.pow_succ] at hn; omega) (by omega))
      have hq : ((n / 10 : Nat) : Int) = (n : Int) / 10 := by omega
      rw [hq] at HI
      have he := enc_dig (n % 10) (Nat.mod_lt _ (by omega))
      have hr : ((n % 10 : Nat) : Int) = (n : Int) % 10 := by omega
      rw [hr] at he
      have HD := hide (show decL n = decL (n / 10) ++ [UInt8.ofNat (48 + n % 10)] by rw [decL, if_neg hn10])
      have hlen := decL_length 9 (n / 10) (by omega)
      generalize decL (n / 10) = x at *
      generalize UInt8.ofNat (48 + n % 10) = y at *
      have hsx : (str x).size = x.length := str_size x
      have hsy : (str [y]).size = 1 := rfl
      have hxy : str x ++ str [y] = str (x ++ [y]) := str_app x [y]
      clear ih hq hr
      go_enter Tryd.func23, Tryd.ntmps23
      go_wp2_with (go_at_call 23; refine HI.out.mono ?_; rintro e w' ⟨rfl, rfl⟩)
      go_ret
      exact ⟨by rw [HD.out]; rfl, rfl⟩
theorem writeT_length {t : Tok} (h : wfT t) : (writeT t).length ≤ 300 := by
  obtain ⟨k, t, v, f⟩ := t
  rcases h with ⟨rfl, h1, h2, h3, h4, rfl⟩ | ⟨rfl, h1, rfl⟩ | ⟨rfl, rfl, h1, h2⟩ | ⟨rfl, h1, h2, rfl⟩ | ⟨rfl, rfl, h1⟩
  · show t.length ≤ 300
    simp only at h3; omega
  · show t.length ≤ 300
    rcases kw_cases h1 with h | h | h | h | h | h <;> (simp only at h; subst h; decide)
  · show (decL v.toNat).length ≤ 300
    simp only at h1 h2
    have := decL_length 9 v.toNat (by omega)
    omega
  · show (quoteL t).length ≤ 300
    have := quoteL_length t
    simp only at h2; omega
  · show t.length ≤ 300
    rcases h1 with h1 | ⟨c, h1, _⟩
    · rcases two_cases h1 with h | h | h | h | h | h <;> (simp only at h; subst h; decide)
    · simp only at h1; subst h1; simp
def tokA (t : Tok) : Value := .agg #[.int .i64 t.k, .string (str t.t), .int .i64 t.v, .int .i64 t.f]
set_option maxRecDepth 100000 in
set_option maxHeartbeats 1000000 in
theorem rwrite_any (t : Tok) (ht : wfT t) (w : World) : Calls Tryd.prog 14 #[.agg #[.int .i64 t.k, .string (str t.t), .int .i64 t.v, .int .i64 t.f]] w fun e w' => e = .returned (.string (str (writeT t))) ∧ Ext w w' := by
  obtain ⟨k, t, v, f⟩ := t
  simp only
  by_cases h3 : k = 3
  · subst h3
    rcases ht with ⟨h, _⟩ | ⟨h, _⟩ | ⟨_, h0, h1, h2⟩ | ⟨h, _⟩ | ⟨h, _⟩
    · simp only at h; omega
    · simp only at h; omega
    · simp only at h0 h1 h2
      obtain ⟨n, rfl⟩ := Int.eq_ofNat_of_zero_le h1
      have HR := hide (show writeT ⟨3, t, (n : Int), f⟩ = decL n from rfl)
      have HD := hide (fun w => rdigits_any 9 n w (by omega) (by omega))
      generalize decL n = x at *
      clear h0 h1 h2
      go_enter Tryd.func14, Tryd.ntmps14
      go_wp2_with (go_at_call 23; refine (HD.out _).mono ?_; rintro e w' ⟨rfl, rfl⟩)
      go_ret
      exact ⟨by rw [HR.out]; rfl, Ext.alloc w _⟩
    · simp only at h; omega
    · simp only at h; omega
  · have hb3 : (k == 3) = false := by simp [h3]
    by_cases h4 : k = 4
    · subst h4
      rcases ht with ⟨h, _⟩ | ⟨h, _⟩ | ⟨h, _⟩ | ⟨_, h0, h1, h2⟩ | ⟨h, _⟩
      · simp only at h; omega
      · simp only at h; omega
      · simp only at h; omega
      · simp only at h0 h1 h2
        have HR := hide (show writeT ⟨4, t, v, f⟩ = quoteL t from rfl)
        have HD := hide (fun w => rquote_any t (by omega) w)
        generalize quoteL t = x at *
        clear h0 h1 h2 h3
        go_enter Tryd.func14, Tryd.ntmps14
        go_wp2_with (go_at_call 18; refine (HD.out _).mono ?_; rintro e w1 ⟨rfl, hE⟩; have HE := hide ((Ext.alloc w _).trans hE); clear hE)
        go_ret
        exact ⟨by rw [HR.out]; rfl, HE.out⟩
      · simp only at h; omega
    · have hb4 : (k == 4) = false := by simp [h4]
      have HR := hide (show writeT ⟨k, t, v, f⟩ = t by unfold writeT; rw [if_neg h3, if_neg h4])
      clear h3 h4 ht
      go_enter Tryd.func14, Tryd.ntmps14
      go_wp2_with fail
      go_ret
      exact ⟨by rw [HR.out]; rfl, Ext.alloc w _⟩
theorem writeL_take {ts : List Tok} {j : Nat} (h : j < ts.length) : writeL (ts.take (j + 1)) = writeL (ts.take j) ++ (writeT ts[j] ++ [32]) := by
  have app : ∀ (a : List Tok) (x : Tok), writeL (a ++ [x]) = writeL a ++ (writeT x ++ [32]) := by
    intro a x
    induction a with
    | nil => simp [writeL]
    | cons y a ih => simp only [List.cons_append, writeL, ih, List.append_assoc]
  rw [List.take_succ_eq_append_getElem h, app]
theorem writeL_length : ∀ ts : List Tok, (∀ t ∈ ts, wfT t) → (writeL ts).length ≤ 301 * ts.length
  | [], _ => by simp [writeL]
  | t :: ts, h => by
    have h1 := writeL_length ts (fun x hx => h x (List.mem_cons_of_mem _ hx))
    have h2 := writeT_length (h t (List.mem_cons_self ..))
    simp only [writeL, List.length_append, List.length_cons]
    omega
set_option maxRecDepth 100000 in
set_option maxHeartbeats 4000000 in
theorem lexagain_any (l : List UInt8) (w : World) (hz : EZ w) : Calls Tryd.prog 5 #[.string (str l)] w fun e w' => e = .returned (.bool true) ∧ Ext w w' := by
  have hsz : (str l).size = l.length := str_size l
  have HZ := hide hz
  clear hz
  have HT := hide (fun w' h => tokens_all l w' h)
  by_cases hbig : 1000 < l.length
  · have hbig' : (1000 : Int) < l.length := by omega
    generalize toksR l = r at *
    obtain ⟨ts, pl, er⟩ := r
    go_enter Tryd.func5, Tryd.ntmps5
    go_wp2_with (first
      | (go_at_call 9; refine (awake47_any _ HZ.out).mono ?_; rintro e w1 ⟨rfl, hE1⟩; have HE1 := hide hE1; clear hE1)
      | (go_at_call 10; refine (HT.out w1 (HZ.out.ext HE1.out)).mono ?_; rintro e w2 ⟨⟨A1, c1, rfl, ho1⟩, hE2⟩; have HO1 := hide ho1; have HE2 := hide (HE1.out.trans hE2); clear ho1 hE2 HT))
    go_ret
    exact ⟨rfl, HE2.out⟩
  · have hbig' : ¬ (1000 : Int) < l.length := by omega
    rcases toksR_shape l (by omega) with ⟨p, er, h1, h2, h3⟩ | ⟨ts, h1, h2⟩
    · rw [h2] at HT
      clear h1 h2
      have h3n : (er != 0) = true := by rw [bne, h3]; rfl
      go_enter Tryd.func5, Tryd.ntmps5
      go_wp2_with (first
        | (go_at_call 9; refine (awake47_any _ HZ.out).mono ?_; rintro e w1 ⟨rfl, hE1⟩; have HE1 := hide hE1; clear hE1)
        | (go_at_call 10; refine (HT.out w1 (HZ.out.ext HE1.out)).mono ?_; rintro e w2 ⟨⟨A1, c1, rfl, ho1⟩, hE2⟩; have HO1 := hide ho1; have HE2 := hide (HE1.out.trans hE2); clear ho1 hE2 HT))
      go_ret
      exact ⟨rfl, HE2.out⟩
    · have htl : ts.length ≤ 4000 := by have := toksR_length l; rw [h2] at this; exact this
      have hwf := toksF_wf _ _ _ _ h1
      have HWF := hide hwf
      have hwl := writeL_length ts hwf
      have HAG := hide (toks_again h1)
      clear hwf
      obtain ⟨n, hn⟩ : ∃ n, ts.length = n := ⟨_, rfl⟩
      have HT1 := hide (tokens_ok l ts n hn h2)
      have hn4 : n ≤ 4000 := by omega
      rw [hn] at hwl htl
      have HN := hide hn
      clear h1 h2 HT hn
      go_enter Tryd.func5, Tryd.ntmps5
      go_wp2_with (first
        | (go_at_call 9; refine (awake47_any _ HZ.out).mono ?_; rintro e w1 ⟨rfl, hE1⟩; have HE1 := hide hE1; clear hE1)
        | (go_at_call 10; refine (HT1.out w1 (HZ.out.ext HE1.out)).mono ?_; rintro e w2 ⟨⟨A1, c1, rfl, hk1⟩, hE2⟩; have HK1 := hide hk1; have HE2 := hide (HE1.out.trans hE2); clear hk1 hE2 HT1))
      go_loopw [6, 7] (fun vs vi wr => ∃ j : Nat, vs = .string (str (writeL (ts.take j))) ∧ vi = .int .i64 (j : Int) ∧ j ≤ n ∧ Hid (Ext w2 wr)) (fun _ vi _ => n - (intOf vi).toNat)
      case atStart => exact ⟨0, rfl, rfl, Nat.zero_le _, hide (Ext.refl _)⟩
      case round =>
        obtain ⟨j, rfl, rfl, hj, HX⟩ := hrel
        by_cases hlt : j < n
        · have hlt' : (j : Int) < n := by omega
          have hltt : j < ts.length := by have := HN.out; omega
          obtain ⟨b, off, rfl, hb, p0, p1, p2, p3⟩ := (HK1.out.ext HX.out).at_ j hltt
          have HW := hide (writeL_take hltt)
          have HWR := hide (fun w => rwrite_any ts[j] (HWF.out _ (List.getElem_mem hltt)) w)
          have hwt := writeT_length (HWF.out _ (List.getElem_mem hltt))
          have hwj : (writeL (ts.take j)).length ≤ 301 * n := by
            have h1 := writeL_length (ts.take j) (fun t ht => HWF.out t (List.mem_of_mem_take ht))
            have : (ts.take j).length ≤ n := by rw [List.length_take]; omega
            have : 301 * (ts.take j).length ≤ 301 * n := Nat.mul_le_mul_left _ this
            omega
          generalize writeT ts[j] = x at *
          generalize ts[j] = t at *
          generalize writeL (ts.take j) = y at *
          have hsx : (str x).size = x.length := str_size x
          have hsy : (str y).size = y.length := str_size y
          have hs32 : (⟨#[32]⟩ : ByteArray).size = 1 := rfl
          have hx1 : str x ++ (⟨#[32]⟩ : ByteArray) = str (x ++ [32]) := str_app x [32]
          have hx2 : str y ++ str (x ++ [32]) = str (y ++ (x ++ [32])) := str_app y (x ++ [32])
          have hsz2 : (str (x ++ [32])).size = x.length + 1 := by rw [str_size]; simp
          have hc34 : Tryd.prog.cellsOf 34 = 4 := by kernel_rfl
          go_wp2_with (go_at_call 14; refine (HWR.out _).mono ?_; rintro e w3 ⟨rfl, hE3⟩; have HE3 := hide (HX.out.trans hE3); clear hE3)
          go_roundw
          case rel => exact ⟨j + 1, by rw [HW.out], by go_num, by omega, HE3⟩
          case measure => simp [intOf]; omega
        · have hlt' : ¬ (j : Int) < n := by omega
          have HTK := hide (show ts.take j = ts from List.take_of_length_le (by have := HN.out; omega))
          have HY := hide (show Hid ((writeL ts).length ≤ 4000 → ∃ us, toksR (writeL ts) = (us, 0, 0) ∧ sameL false us ts = true) from HAG.out)
          have HYT := hide (fun w' h => tokens_all (writeL ts) w' h)
          have hYB := toksR_big (writeL ts)
          have hv : writeL (ts.take j) = writeL ts := by rw [HTK.out]
          rw [hv]
          clear hv HAG HTK
          generalize writeL ts = y at *
          have hsy : (str y).size = y.length := str_size y
          have HX3 := hide (HE2.out.trans HX.out)
          have HK3 := hide (HK1.out.ext HX.out)
          clear HX HK1
          by_cases h4 : 4000 < y.length
          · have h4' : (4000 : Int) < y.length := by omega
            rw [hYB h4] at HYT
            clear hYB HY
            go_wp2_with (go_at_call 10; refine (HYT.out _ (HZ.out.ext HX3.out)).mono ?_; rintro e w3 ⟨⟨A3, c3, rfl, ho3⟩, hE3⟩; have HE3 := hide (HX3.out.trans hE3); clear ho3 hE3)
            go_ret
            exact ⟨rfl, HE3.out⟩
          · have h4' : ¬ (4000 : Int) < y.length := by omega
            obtain ⟨us, hu1, hu2⟩ := HY.out.out (by omega)
            obtain ⟨m, hm⟩ : ∃ m, us.length = m := ⟨_, rfl⟩
            have HTU := hide (tokens_ok y us m hm hu1)
            have hm4 : m ≤ 4000 := by have := toksR_length y; rw [hu1] at this; simp only at this; omega
            have HU := hide hu2
            have HM := hide hm
            clear hYB HY HYT hu1 hu2 hm
            go_wp2_with (go_at_call 10; refine (HTU.out _ (HZ.out.ext HX3.out)).mono ?_; rintro e w3 ⟨⟨A3, c3, rfl, hk4⟩, hE3⟩; have HE3 := hide (HX3.out.trans hE3); have HK4 := hide hk4; have HK5 := hide (HK3.out.ext hE3); clear hk4 hE3)
            refine (theirs_at A3 c3 us m HM.out _ HK4.out (by omega)).mono ?_
            rintro e w4 ⟨⟨A4, c4, rfl, hk6⟩, hE4⟩
            have HE4 := hide (HE3.out.trans hE4)
            have HK6 := hide hk6
            have HK7 := hide (HK5.out.ext hE4)
            clear hk6 hE4 HK4 HK5
            go_wp2_with fail
            refine (theirs_at A1 c1 ts n HN.out _ HK7.out (by omega)).mono ?_
            rintro e w5 ⟨⟨A5, c5, rfl, hk8⟩, hE5⟩
            have HE5 := hide (HE4.out.trans hE5)
            have HK8 := hide hk8
            have HK9 := hide (HK6.out.ext hE5)
            clear hk8 hE5 HK6 HK7
            go_wp2_with fail
            refine (same_at A4 A5 c4 c5 us ts m n HM.out HN.out false w5 HK9.out HK8.out (by omega) (by omega)).mono ?_
            rw [HU.out]
            rintro e w6 ⟨rfl, hE6⟩
            have HE6 := hide (HE5.out.trans hE6)
            clear hE6
            go_wp2_with fail
            go_ret
            exact ⟨rfl, HE6.out⟩
end Go.Proofs.YtbfjopknhlnbcaaDoor
