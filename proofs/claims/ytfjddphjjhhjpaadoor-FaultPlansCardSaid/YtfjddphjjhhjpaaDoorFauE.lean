/-
  The program's Parse; Hits; the example that every statement of layer 27 checks first.
-/
import Derived.Test.YtfjddphjjhhjpaaDoorFauD
namespace Go.Proofs.YtfjddphjjhhjpaaDoor
open Go.RowKit
set_option linter.unusedVariables false

/-- What Parse returns, as an ending. -/
def ParseE (s : List UInt8) (e : Ending) : Prop :=
  ∃ (x : Pl) (n : Int), e = .returned (.tuple #[.agg #[.int .i64 x.c, .int .i64 x.n, .int .i64 x.e, .int .i64 x.k, .int .i64 x.s, .int .i64 x.p, .int .i64 x.m], .int .i64 n]) ∧ ParseP s x n
set_option maxRecDepth 100000 in
set_option maxHeartbeats 4000000 in
theorem parse_any (s : List UInt8) (hs : s.length ≤ 100000) (w : World) (ht : Tabs w) : Calls Tryd.prog 11 #[.string (str s)] w fun e w' => ParseE s e ∧ Ext w w' := by
  have HT := hide ht
  have HB := hide (Blk.new w 28 z7)
  have HX := hide (Ext.alloc w (.cells z7 28))
  unfold z7 at HB HX
  clear ht
  go_enter Tryd.func11, Tryd.ntmps11
  go_wp2_with (go_at_call 42; refine (fields_any s hs _ (HT.out.ext HX.out)).mono ?_; rintro e w1 ⟨⟨b, c, ws, rfl, hws, hb, hwl, hwn, hwf⟩, hE1⟩; have HW := hide hws; have HWL := hide hwl; have HWF := hide hwf; have HE1 := hide hE1; clear hws hwl hwf hE1)
  have hz1 : w.heap.size + 1 ≤ b := by rw [World.size_alloc] at hb; exact hb
  refine (read_any b c ws ws.length rfl (by omega) (fun x hx => by have := HWL.out x hx; omega) (w.alloc (.cells z7 28)) w1 (HT.out.ext HX.out) HE1.out hb HW.out).mono ?_
  rintro e w2 ⟨⟨a0, a1, a2, a3, a4, a5, a6, ok, rfl, hrd⟩, hE2⟩
  have HRD := hide hrd
  have HE2 := hide (HX.out.trans hE2)
  have HB2 := hide (HB.out.ext hE2)
  clear hrd hE2 HB HX HE1 HW HWL
  have HX3 := hide (HE2.out.alloc' (.cells #[.int .i64 a0, .int .i64 a1, .int .i64 a2, .int .i64 a3, .int .i64 a4, .int .i64 a5, .int .i64 a6] 28))
  have HB3 := hide (HB2.out.alloc (.cells #[.int .i64 a0, .int .i64 a1, .int .i64 a2, .int .i64 a3, .int .i64 a4, .int .i64 a5, .int .i64 a6] 28))
  have HP3 := hide (Blk.new w2 28 #[.int .i64 a0, .int .i64 a1, .int .i64 a2, .int .i64 a3, .int .i64 a4, .int .i64 a5, .int .i64 a6])
  have hg2 : w.heap.size ≠ w2.heap.size := by have := HB2.out.lt; omega
  obtain ⟨x0, hx0⟩ : ∃ x0 : Pl, x0 = ⟨a0, a1, a2, a3, a4, a5, a6⟩ := ⟨_, rfl⟩
  have HPR := hide (fun w' h => print_any ⟨a0, a1, a2, a3, a4, a5, a6⟩ w' h)
  simp only at HPR
  rw [← hx0] at HPR HRD
  have HX0 := hide hx0
  clear hx0
  have fin : ∀ (v : Pl) (n : Int) (w5 : World), Blk w5 w.heap.size 28 #[.int .i64 0, .int .i64 0, .int .i64 0, .int .i64 0, .int .i64 0, .int .i64 0, .int .i64 0] → Ext w w5 →
      (∀ i, (w5.setCells w.heap.size 0 [.int .i64 v.c, .int .i64 v.n, .int .i64 v.e, .int .i64 v.k, .int .i64 v.s, .int .i64 v.p, .int .i64 v.m]).cell? ⟨w.heap.size, i, none⟩ = (#[.int .i64 v.c, .int .i64 v.n, .int .i64 v.e, .int .i64 v.k, .int .i64 v.s, .int .i64 v.p, .int .i64 v.m] : Array Value)[i]?) ∧
      Ext w (w5.setCells w.heap.size 0 [.int .i64 v.c, .int .i64 v.n, .int .i64 v.e, .int .i64 v.k, .int .i64 v.s, .int .i64 v.p, .int .i64 v.m]) := fun v n w5 h1 h2 =>
    ⟨(Blk.put7 h1 _ _ _ _ _ _ _).cell, h2.grown (grown_cells _ _ 0 w5) (fun j hj => by injection hj with hj; omega)⟩
  have FIN := hide fin
  clear fin
  have bad : (∀ x, validPl x = true → printL x = s → False) → ParseP s ⟨0, 0, 0, 0, 0, 0, 0⟩ 3 := fun h => .inr ⟨rfl, rfl, fun x hx he => h x hx he⟩
  have BAD := hide bad
  clear bad
  cases ok with
  | false =>
    have HR := hide (BAD.out fun x hx he => by have := (HRD.out x hx (HWF.out x hx he)).1; cases this)
    clear BAD HRD HWF
    go_wp2_with (go_at_call 9; refine (HPR.out _ (HT.out.ext HX3.out)).mono ?_; rintro e w4 ⟨rfl, hE4⟩; have HX4 := hide (HX3.out.trans hE4); have HB4 := hide (HB3.out.ext hE4); have hrc := HB4.out.cell; have hrf := HB4.out.frozen; clear hE4)
    obtain ⟨hset, hxx⟩ := FIN.out ⟨0, 0, 0, 0, 0, 0, 0⟩ 0 w4 HB4.out HX4.out
    simp only [World.setCells, Nat.zero_add, Nat.reduceAdd] at hset hxx
    exact bodyPost_ret (v := .tuple #[.agg z7, .int .i64 3]) (by simp [results, Tryd.results11, go_sem, z7, hset]) rfl ⟨⟨⟨0, 0, 0, 0, 0, 0, 0⟩, 3, rfl, HR.out⟩, hxx⟩
  | true =>
    cases hv : validPl x0 with
    | false =>
      have HR := hide (BAD.out fun x hx he => by have := (HRD.out x hx (HWF.out x hx he)).2; subst this; rw [hv] at hx; cases hx)
      have HPE := hide (show printE x0 = 1 by unfold printE; rw [hv]; rfl)
      rw [HPE.out] at HPR
      clear BAD HRD HWF hv
      go_wp2_with (go_at_call 9; refine (HPR.out _ (HT.out.ext HX3.out)).mono ?_; rintro e w4 ⟨rfl, hE4⟩; have HX4 := hide (HX3.out.trans hE4); have HB4 := hide (HB3.out.ext hE4); have hrc := HB4.out.cell; have hrf := HB4.out.frozen; clear hE4)
      obtain ⟨hset, hxx⟩ := FIN.out ⟨0, 0, 0, 0, 0, 0, 0⟩ 0 w4 HB4.out HX4.out
      simp only [World.setCells, Nat.zero_add, Nat.reduceAdd] at hset hxx
      exact bodyPost_ret (v := .tuple #[.agg z7, .int .i64 3]) (by simp [results, Tryd.results11, go_sem, z7, hset]) rfl ⟨⟨⟨0, 0, 0, 0, 0, 0, 0⟩, 3, rfl, HR.out⟩, hxx⟩
    | true =>
      have HPE := hide (show printE x0 = 0 by unfold printE; rw [hv]; rfl)
      have HPS := hide (show printS x0 = printL x0 by unfold printS; rw [hv]; rfl)
      rw [HPE.out, HPS.out] at HPR
      cases hps : (printL x0 == s) with
      | false =>
        have HR := hide (BAD.out fun x hx he => by have := (HRD.out x hx (HWF.out x hx he)).2; subst this; rw [he] at hps; simp at hps)
        have hpn : (printL x0 != s) = true := by rw [bne, hps]; rfl
        clear BAD HRD HWF hv HPE HPS
        generalize printL x0 = q at *
        go_wp2_with (go_at_call 9; refine (HPR.out _ (HT.out.ext HX3.out)).mono ?_; rintro e w4 ⟨rfl, hE4⟩; have HX4 := hide (HX3.out.trans hE4); have HB4 := hide (HB3.out.ext hE4); have hrc := HB4.out.cell; have hrf := HB4.out.frozen; clear hE4)
        obtain ⟨hset, hxx⟩ := FIN.out ⟨0, 0, 0, 0, 0, 0, 0⟩ 0 w4 HB4.out HX4.out
        simp only [World.setCells, Nat.zero_add, Nat.reduceAdd] at hset hxx
        exact bodyPost_ret (v := .tuple #[.agg z7, .int .i64 3]) (by simp [results, Tryd.results11, go_sem, z7, hset]) rfl ⟨⟨⟨0, 0, 0, 0, 0, 0, 0⟩, 3, rfl, HR.out⟩, hxx⟩
      | true =>
        have HR := hide (show ParseP s x0 0 from .inl ⟨hv, beq_iff_eq.1 hps, rfl⟩)
        have hpn : (printL x0 != s) = false := by rw [bne, hps]; rfl
        rw [HX0.out] at HR
        clear BAD HRD HWF hv HPE HPS
        generalize printL x0 = q at *
        go_wp2_with (go_at_call 9; refine (HPR.out _ (HT.out.ext HX3.out)).mono ?_; rintro e w4 ⟨rfl, hE4⟩; have HX4 := hide (HX3.out.trans hE4); have HB4 := hide (HB3.out.ext hE4); have hrc := HB4.out.cell; have hrf := HB4.out.frozen; have HP4 := hide (HP3.out.ext hE4); have hpc := HP4.out.cell; clear hE4)
        obtain ⟨hset, hxx⟩ := FIN.out ⟨a0, a1, a2, a3, a4, a5, a6⟩ 0 w4 HB4.out HX4.out
        simp only [World.setCells, Nat.zero_add, Nat.reduceAdd] at hset hxx
        exact bodyPost_ret (v := .tuple #[.agg #[.int .i64 a0, .int .i64 a1, .int .i64 a2, .int .i64 a3, .int .i64 a4, .int .i64 a5, .int .i64 a6], .int .i64 0]) (by simp [results, Tryd.results11, go_sem, hset]) rfl ⟨⟨⟨a0, a1, a2, a3, a4, a5, a6⟩, 0, rfl, HR.out⟩, hxx⟩
end Go.Proofs.YtfjddphjjhhjpaaDoor
