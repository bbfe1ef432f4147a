/-
  LexPlaces.
-/
import Derived.Test.YtbfjopknhlnbcaaDoorLexS
import Derived.Test.YtbfjopknhlnbcaaDoorLexT
namespace Go.Proofs.YtbfjopknhlnbcaaDoor
open Go.RowKit
set_option linter.unusedVariables false

set_option maxRecDepth 100000 in
theorem tokens_all (l : List UInt8) (w : World) (hz : EZ w) : Calls Tryd.prog 10 #[.string (str l)] w fun e w' => TokensP 34 w.heap.size (toksR l) e w' ∧ Ext w w' := by
  by_cases hl : l.length ≤ 100000
  · exact tokens_any l hl w hz
  · have hsz : (str l).size = l.length := str_size l
    have HRb := hide (toksR_big l)
    have hbig : 4000 < l.length := by omega
    have hbig' : (4000 : Int) < l.length := by omega
    go_enter Tryd.func10, Tryd.ntmps10
    go_wp2_with fail
    exact bodyPost_ret (v := .tuple #[.slice none 0 0, .int .i64 4000, .int .i64 6]) (by simp [results, Tryd.results10, go_sem]) rfl ⟨by rw [HRb.out hbig]; exact ⟨none, 0, rfl, OwnT.nil_ _ _ _⟩, Ext.refl _⟩
theorem Tks.take {w : World} {A : Option Addr} {cap : Nat} {ts : List Tok} (h : Tks w A cap ts) (i : Nat) : Tks w A cap (ts.take i) := by
  refine ⟨by have := h.le; rw [List.length_take]; omega, h.max, ?_⟩
  rcases h.rd with h0 | ⟨b, off, ha, hb, hc⟩
  · exact .inl (by rw [h0, List.take_nil])
  · refine .inr ⟨b, off, ha, hb, fun j hj => ?_⟩
    rw [List.getElem_take]
    exact hc j (by rw [List.length_take] at hj; omega)
/-- The contracts once more, the lengths by a name. -/
theorem tokens_ok (l : List UInt8) (us : List Tok) (n : Nat) (hn : us.length = n) (h : toksR l = (us, 0, 0)) (w : World) (hz : EZ w) : Calls Tryd.prog 10 #[.string (str l)] w fun e w' => (∃ A c, e = .returned (.tuple #[.slice A n c, .int .i64 0, .int .i64 0]) ∧ Tks w' A c us) ∧ Ext w w' := by
  subst hn
  refine (tokens_all l w hz).mono ?_
  rw [h]
  rintro e w' ⟨⟨A, c, rfl, ho⟩, hE⟩
  exact ⟨⟨A, c, rfl, ho.tks.2⟩, hE⟩
theorem theirs_at (A : Option Addr) (cap : Nat) (us : List Tok) (n : Nat) (hn : us.length = n) (w : World) (h : Tks w A cap us) (hl : n ≤ 100000) : Calls Tryd.prog 13 #[.slice A n cap] w fun e w' => (∃ B c, e = .returned (.slice B n c) ∧ Tks w' B c us) ∧ Ext w w' := by
  subst hn
  refine (theirs_any A cap us w h hl).mono ?_
  rintro e w' ⟨⟨B, c, rfl, ho⟩, hE⟩
  exact ⟨⟨B, c, rfl, ho.tks.2⟩, hE⟩
theorem same_at (A B : Option Addr) (ca cb : Nat) (l m : List Tok) (n k : Nat) (hn : l.length = n) (hk : m.length = k) (b : Bool) (w : World) (ha : Tks w A ca l) (hb : Tks w B cb m) (hl : n ≤ 100000) (hm : k ≤ 100000) : Calls Tryd.prog 12 #[.slice A n ca, .slice B k cb, .bool b] w fun e w' => e = .returned (.bool (sameL b l m)) ∧ Ext w w' := by
  subst hn
  subst hk
  exact same_any A B ca cb l m b w ha hb hl hm
def ShT (n : Nat) (v : Value) : Prop := ∃ A c, v = .slice A n c
def TkX (us : List Tok) (n : Nat) (v : Value) (w : World) : Prop := ∃ A c, v = .slice A n c ∧ Tks w A c us
theorem TkX.ext {us : List Tok} {n : Nat} {v : Value} {w w' : World} (h : TkX us n v w) (he : Ext w w') : TkX us n v w' := let ⟨A, c, h1, h2⟩ := h; ⟨A, c, h1, h2.ext he⟩
theorem TkX.tks {us : List Tok} {n m : Nat} {A : Option Addr} {c : Nat} {w : World} (h : TkX us n (.slice A m c) w) : Tks w A c us := by
  obtain ⟨A', c', h1, h2⟩ := h
  injection h1 with e1 e2 e3
  subst e1 e3
  exact h2
theorem toksR_shape (l : List UInt8) (hl : l.length ≤ 4000) : (∃ p e, toks l = .error (p, e) ∧ toksR l = ([], (p : Int), e) ∧ (e == 0) = false) ∨ ∃ ts, toks l = .ok ts ∧ toksR l = (ts, 0, 0) := by
  cases h : toks l with
  | ok ts => exact .inr ⟨ts, rfl, toksR_ok l ts (by omega) h⟩
  | error x =>
    obtain ⟨p, e⟩ := x
    refine .inl ⟨p, e, rfl, toksR_err l p e (by omega) h, ?_⟩
    have : ∀ (f : Nat) (m : List UInt8) (a p : Nat) (e : Int), toksF f m a = .error (p, e) → (e == 0) = false := by
      intro f
      induction f with
      | zero => intro m a p e h; cases h
      | succ f ih =>
        intro m a p e h
        simp only [toksF] at h
        split at h
        · cases h
        · split at h
          · rename_i he
            cases h
            rcases tokT_err he with rfl | rfl | rfl <;> rfl
          · split at h
            · rename_i x hu
              cases h
              exact ih _ _ _ _ hu
            · cases h
    exact this _ _ _ _ _ h
set_option maxRecDepth 100000 in
set_option maxHeartbeats 4000000 in
theorem lexplaces_any (l : List UInt8) (c : UInt8) (w : World) (hz : EZ w) : Calls Tryd.prog 4 #[.string (str l), .int .u8 (c.toNat : Int)] w fun e w' => e = .returned (.bool true) ∧ Ext w w' := by
  have hsz : (str l).size = l.length := str_size l
  have HZ := hide hz
  clear hz
  have HT := hide (fun w' h => tokens_all l w' h)
  by_cases hbig : 1000 < l.length
  · have hbig' : (1000 : Int) < l.length := by omega
    generalize toksR l = r at *
    obtain ⟨ts, pl, er⟩ := r
    go_enter Tryd.func4, Tryd.ntmps4
    go_wp2_with (first
      | (go_at_call 9; refine (awake47_any _ HZ.out).mono ?_; rintro e w1 ⟨rfl, hE1⟩; have HE1 := hide hE1; clear hE1)
      | (go_at_call 10; refine (HT.out w1 (HZ.out.ext HE1.out)).mono ?_; rintro e w2 ⟨⟨A1, c1, rfl, ho1⟩, hE2⟩; have HO1 := hide ho1; have HE2 := hide (HE1.out.trans hE2); clear ho1 hE2))
    go_ret
    exact ⟨rfl, HE2.out⟩
  · have hbig' : ¬ (1000 : Int) < l.length := by omega
    rcases toksR_shape l (by omega) with ⟨p, er, h1, h2, h3⟩ | ⟨ts, h1, h2⟩
    · rw [h2] at HT
      clear h1 h2
      have h3n : (er != 0) = true := by rw [bne, h3]; rfl
      go_enter Tryd.func4, Tryd.ntmps4
      go_wp2_with (first
        | (go_at_call 9; refine (awake47_any _ HZ.out).mono ?_; rintro e w1 ⟨rfl, hE1⟩; have HE1 := hide hE1; clear hE1)
        | (go_at_call 10; refine (HT.out w1 (HZ.out.ext HE1.out)).mono ?_; rintro e w2 ⟨⟨A1, c1, rfl, ho1⟩, hE2⟩; have HO1 := hide ho1; have HE2 := hide (HE1.out.trans hE2); clear ho1 hE2))
      go_ret
      exact ⟨rfl, HE2.out⟩
    · rw [h2] at HT
      have htl : ts.length ≤ 4000 := by have := toksR_length l; rw [h2] at this; exact this
      obtain ⟨hin, hpw⟩ := toksF_inc _ _ _ _ h1
      have HIN := hide hin
      have HPW := hide (List.pairwise_iff_getElem.1 hpw)
      have HTT := hide (fun i hi => toks_take h1 i hi)
      clear h1 h2 hin hpw
      go_enter Tryd.func4, Tryd.ntmps4
      go_wp2_with (first
        | (go_at_call 9; refine (awake47_any _ HZ.out).mono ?_; rintro e w1 ⟨rfl, hE1⟩; have HE1 := hide hE1; clear hE1)
        | (go_at_call 10; refine (HT.out w1 (HZ.out.ext HE1.out)).mono ?_; rintro e w2 ⟨⟨A1, c1, rfl, ho1⟩, hE2⟩; have HO1 := hide ho1; have HE2 := hide (HE1.out.trans hE2); clear ho1 hE2))
      have HK1 := hide HO1.out.tks.2
      clear HO1
      go_loopw [8] (fun vi wr => ∃ j : Nat, vi = .int .i64 (j : Int) ∧ j ≤ ts.length ∧ Ext w wr ∧ Hid (Ext w2 wr)) (fun vi _ => ts.length - (intOf vi).toNat)
      case atStart => exact ⟨0, rfl, Nat.zero_le _, HE2.out, hide (Ext.refl _)⟩
      case round =>
        obtain ⟨j, rfl, hj, hx, HX2⟩ := hrel
        have HX := hide hx
        clear hx
        by_cases hlt : j < ts.length
        · have hlt' : (j : Int) < ts.length := by omega
          obtain ⟨b, off, rfl, hb, p0, p1, p2, p3⟩ := (HK1.out.ext HX2.out).at_ j hlt
          obtain ⟨i0, i1⟩ := HIN.out _ (List.getElem_mem hlt)
          have f0 : ¬ ts[j].f < 0 := by omega
          have f1 : ¬ (l.length : Int) ≤ ts[j].f := by omega
          have hc34 : Tryd.prog.cellsOf 34 = 4 := by kernel_rfl
          cases j with
          | zero =>
            generalize ts[0].f = f at *
            have g0 : decide (f < 0) = false := decide_eq_false f0
            have g1 : decide ((l.length : Int) ≤ f) = false := decide_eq_false f1
            simp only [Nat.zero_mul, Nat.add_zero] at p0 p1 p2 p3
            go_wp2_with fail
            go_quiet (fail)
            go_wp2_with fail
            go_roundw
            case rel => exact ⟨1, by go_num, by omega, below_drewN HX.out _, hide (below_drewN HX2.out _)⟩
            case measure => simp [intOf]; omega
          | succ j =>
            obtain ⟨b', off', hbb, hb', q0, q1, q2, q3⟩ := (HK1.out.ext HX2.out).at_ j (by omega)
            cases hbb
            have f2 : ts[j].f < ts[j + 1].f := HPW.out j (j + 1) (by omega) hlt (by omega)
            generalize ts[j + 1].f = f at *
            generalize ts[j].f = f' at *
            have g0 : decide (f < 0) = false := decide_eq_false f0
            have g1 : decide ((l.length : Int) ≤ f) = false := decide_eq_false f1
            have g2 : decide (f ≤ f') = false := decide_eq_false (by omega)
            have hjc : ((j + 1 : Nat) : Int) = (j : Int) + 1 := by omega
            have hjs : (j : Int) + 1 - 1 = (j : Int) := by omega
            have hj0 : (0 : Int) < (j : Int) + 1 := by omega
            have hjd : decide ((0 : Int) < (j : Int) + 1) = true := decide_eq_true hj0
            have hlt2 : (j : Int) + 1 < ts.length := by omega
            have hlt3 : (j : Int) < ts.length := by omega
            rw [hjc]
            go_wp2_with fail
            go_quiet (fail)
            go_wp2_with fail
            go_roundw
            case rel => exact ⟨j + 1 + 1, by go_num, by omega, below_drewN HX.out _, hide (below_drewN HX2.out _)⟩
            case measure => simp [intOf]; omega
        · have hlt' : ¬ (j : Int) < ts.length := by omega
          by_cases hz0 : ts.length = 0
          · have hzb : ((ts.length : Int) == 0) = true := by simp [hz0]
            go_wp2_with fail
            go_ret
            exact ⟨rfl, HX.out⟩
          · have hzb : ((ts.length : Int) == 0) = false := by simp [hz0]
            obtain ⟨i, hmn⟩ : ∃ i, c.toNat % ts.length = i := ⟨_, rfl⟩
            have hil : i < ts.length := by rw [← hmn]; exact Nat.mod_lt _ (by omega)
            have hcb := c.toNat_lt
            have hrem : (c.toNat : Int) % (ts.length : Int) = (i : Int) := by rw [← hmn]; rfl
            have hm2 : ((c.toNat : Int) % (ts.length : Int)).toNat = i := by rw [hrem]; exact Int.toNat_natCast i
            have hm0 : 0 ≤ (c.toNat : Int) % (ts.length : Int) := by rw [hrem]; omega
            have hm1 : (c.toNat : Int) % (ts.length : Int) < ts.length := by rw [hrem]; omega
            have hm3 : (c.toNat : Int) % (ts.length : Int) ≤ (c1 : Int) := by rw [hrem]; have := HK1.out.le; omega
            clear hrem
            obtain ⟨q, h1, h2, h3⟩ := HTT.out i hil
            obtain ⟨b, off, rfl, hb, p0, p1, p2, p3⟩ := (HK1.out.ext HX2.out).at_ i hil
            rw [h1] at p3
            have hTA := toksR_ok (l.take q) (ts.take i) (by rw [List.length_take]; omega) h3
            have hul : (ts.take i).length = i := by rw [List.length_take]; omega
            have HTQ := hide (fun w' h => tokens_ok (l.take q) (ts.take i) i hul hTA w' h)
            have HKI := hide (HK1.out.take i)
            have HUL := hide hul
            generalize ts.take i = us at *
            have hex : (str l).extract 0 q = str (l.take q) := by
              have := str_extract l 0 q
              rwa [List.drop_zero] at this
            have hi5 : i ≤ 100000 := by omega
            have hil' : (i : Int) < ts.length := by omega
            have hql : (q : Int) < l.length := by omega
            clear hTA h3 hul HIN HPW HTT HT
            go_wp2_with (first
              | (go_at_call 10; refine (HTQ.out _ (HZ.out.ext HX.out)).mono ?_; rintro e w3 ⟨⟨A3, c3, rfl, hk3⟩, hE3⟩; have HK3 := hide hk3; have HE3 := hide (HX.out.trans hE3); have HM3 := hide ((HKI.out.ext HX2.out).ext hE3); clear hk3 hE3))
            have hii : i ≤ ts.length := by omega
            have hic : i ≤ c1 := by have := HKI.out.le; have := HUL.out; omega
            refine wp_region_ext 11 4 [(4, ShT i, TkX us i), (8, ShT i, TkX us i), (9, fun v => v = .bool true, fun _ _ => True)] mixed (by kernel_rfl)
              ⟨fun _ _ _ h hx => h.ext hx, fun _ _ _ h hx => h.ext hx, fun _ _ _ _ _ => trivial, trivial⟩ ?_
            repeat ((refine seq_exact ?_ (by rfl) (by rfl) (fun w1 hU => ?_) ?_); (rotate_left 1); (focus (go_simp <;> with_reducible rfl)); (simp only [Act.put, List.setIfInBounds_toArray, List.set_cons_zero, List.set_cons_succ]))
            refine seq_opaque _ _ (by rfl) rfl ⟨_, none, 0, rfl⟩ (by simp) (fun w7 hU _ K hK => ?_) ?_
            · go_simp
              refine (theirs_at _ _ us i HUL.out _ (HK3.out.ext hU.un) hi5).mono ?_
              rintro e w8 ⟨⟨B, c, rfl, h⟩, hE⟩
              exact hK _ _ hE ⟨B, c, rfl⟩ ⟨B, c, rfl, h⟩
            rintro _ ⟨A4, c4, rfl⟩
            simp only [Act.put, List.setIfInBounds_toArray, List.set_cons_zero, List.set_cons_succ]
            repeat ((refine seq_exact ?_ (by rfl) (by rfl) (fun w1 hU => ?_) ?_); (rotate_left 1); (focus (go_simp <;> with_reducible rfl)); (simp only [Act.put, List.setIfInBounds_toArray, List.set_cons_zero, List.set_cons_succ]))
            refine seq_opaque _ _ (by rfl) rfl ⟨_, none, 0, rfl⟩ (by simp) (fun w7 hU _ K hK => ?_) ?_
            · go_simp
              refine (theirs_at _ _ us i HUL.out _ (HM3.out.ext hU.un) hi5).mono ?_
              rintro e w8 ⟨⟨B, c, rfl, h⟩, hE⟩
              exact hK _ _ hE ⟨B, c, rfl⟩ ⟨B, c, rfl, h⟩
            rintro _ ⟨A5, c5, rfl⟩
            simp only [Act.put, List.setIfInBounds_toArray, List.set_cons_zero, List.set_cons_succ]
            refine seq_opaque _ _ (by rfl) rfl ⟨_, rfl⟩ (by simp) (fun w7 hU hp K hK => ?_) ?_
            · have k5 := (hp _ (.head _) (by kernel_rfl)).tks
              have k4 := (hp _ (.tail _ (.head _)) (by kernel_rfl)).tks
              have KK := hide (same_at _ _ _ _ us us i i HUL.out HUL.out true w7 k4 k5 hi5 hi5)
              clear hp k4 k5
              go_simp
              refine KK.out.mono ?_
              rw [sameL_refl]
              rintro e w8 ⟨rfl, hE⟩
              exact hK _ _ hE rfl trivial
            rintro _ rfl
            simp only [Act.put, List.setIfInBounds_toArray, List.set_cons_zero, List.set_cons_succ]
            repeat ((refine seq_exact ?_ (by rfl) (by rfl) (fun w1 hU => ?_) ?_); (rotate_left 1); (focus (go_simp <;> with_reducible rfl)); (simp only [Act.put, List.setIfInBounds_toArray, List.set_cons_zero, List.set_cons_succ]))
            intro w8 hw8 _
            simp only [List.drop_succ_cons, List.drop_zero]
            have HX8 := hide (HE3.out.trans hw8.un)
            clear hw8
            go_wp2
            go_ret
            exact ⟨rfl, HX8.out⟩
end Go.Proofs.YtbfjopknhlnbcaaDoor
