/-
  FaultInput.
-/
import Derived.Test.YtfjddphjjhhjpaaDoorFauI
namespace Go.Proofs.YtfjddphjjhhjpaaDoor
open Go.RowKit
set_option linter.unusedVariables false

set_option maxRecDepth 100000 in
set_option maxHeartbeats 4000000 in
theorem finput_law (x : Pl) (ex : Int) (A B : Option Addr) (ca cb : Nat) (a b : List UInt8) (w : World) (ha : Sl w A ca a) (hb : Sl w B cb b) (hsum : a.length + b.length ≤ 9223372036854775807) (ht : Tabs w) :
    Calls Tryd.prog 5 #[.agg #[.int .i64 x.c, .int .i64 x.n, .int .i64 x.e, .int .i64 x.k, .int .i64 x.s, .int .i64 x.p, .int .i64 x.m], .int .i64 ex, .agg #[.slice A a.length ca, .slice B b.length cb]] w fun e w' => e = .returned (.bool true) ∧ Ext w w' := by
  obtain ⟨n, hn⟩ : ∃ n, a.length = n := ⟨_, rfl⟩
  obtain ⟨k, hk⟩ : ∃ k, b.length = k := ⟨_, rfl⟩
  rw [hn, hk] at hsum ⊢
  have HN := hide hn
  have HK := hide hk
  have HX0 := hide ((Ext.alloc w (.cells #[.int .i64 x.c, .int .i64 x.n, .int .i64 x.e, .int .i64 x.k, .int .i64 x.s, .int .i64 x.p, .int .i64 x.m] 23)).alloc' (.cells #[.slice A n ca, .slice B k cb] 42))
  have HP0 := hide ((Blk.new w 23 #[.int .i64 x.c, .int .i64 x.n, .int .i64 x.e, .int .i64 x.k, .int .i64 x.s, .int .i64 x.p, .int .i64 x.m]).alloc (.cells #[.slice A n ca, .slice B k cb] 42))
  have HR0 := hide (show Blk ((w.alloc (.cells #[.int .i64 x.c, .int .i64 x.n, .int .i64 x.e, .int .i64 x.k, .int .i64 x.s, .int .i64 x.p, .int .i64 x.m] 23)).alloc (.cells #[.slice A n ca, .slice B k cb] 42)) (w.heap.size + 1) 42 #[.slice A n ca, .slice B k cb] from by
    have := Blk.new (w.alloc (.cells #[.int .i64 x.c, .int .i64 x.n, .int .i64 x.e, .int .i64 x.k, .int .i64 x.s, .int .i64 x.p, .int .i64 x.m] 23)) 42 #[.slice A n ca, .slice B k cb]
    rwa [World.size_alloc] at this)
  have HA0 := hide (ha.ext HX0.out)
  have HB0 := hide (hb.ext HX0.out)
  have HT := hide (ht.ext HX0.out)
  clear hn hk ha hb ht
  by_cases hbig : 400 < n + k
  · have hbig' : (400 : Int) < (n : Int) + k := by omega
    go_enter Tryd.func5, Tryd.ntmps5
    go_wp2_with (go_at_call 8; refine (awake27_any _ HT.out).mono ?_; rintro e w1 ⟨rfl, hE1⟩; have HE1 := hide (HX0.out.trans hE1); have hpc := (HP0.out.ext hE1).cell; have hrc := (HR0.out.ext hE1).cell; clear hE1)
    go_ret
    exact ⟨rfl, HE1.out⟩
  · have hbig' : ¬ (400 : Int) < (n : Int) + k := by omega
    have hn1 : n ≤ 1048576 := by omega
    have hk1 : k ≤ 1048576 := by omega
    have HLA := hide (show (inA x ex a b).length = n by rw [inA_length]; exact HN.out)
    have HLB := hide (show (inB' x ex a b).length = k by rw [inB_length]; exact HK.out)
    have HF := hide (show ¬ (x.e = ex ∧ (x.k = 4 ∨ x.k = 5)) → inA x ex a b = a ∧ inB' x ex a b = b from fun h => by
      unfold inA inB'
      exact ⟨if_neg fun g => h ⟨g.2.1, .inl g.2.2⟩, if_neg fun g => h ⟨g.2.1, .inr g.2.2⟩⟩)
    have HI := hide (fun w h1 h2 => input_any x ex A B ca cb a b n k HN.out HK.out w h1 h2 hn1 hk1)
    have HJ := hide (fun w h1 h2 => rinput_any x ex A B ca cb a b n k HN.out HK.out w h1 h2 hn1 hk1)
    generalize inA x ex a b = p at *
    generalize inB' x ex a b = q at *
    have hpp : (p != p) = false := by simp
    have hqq : (q != q) = false := by simp
    by_cases hc : x.e = ex ∧ (x.k = 4 ∨ x.k = 5)
    · obtain ⟨hc1, hc2⟩ := hc
      have hexb : (ex == x.e) = true := by rw [hc1]; simp
      have h45 : (x.k == 4) = true ∨ ((x.k == 4) = false ∧ (x.k == 5) = true) := by
        rcases hc2 with h | h
        · exact .inl (by simp [h])
        · exact .inr (by simp [h])
      clear hc1 hc2 HF
      cases hpa : (p == a) <;> cases hqb : (q == b) <;> rcases h45 with h4 | ⟨h4, h5⟩
      all_goals
        go_enter Tryd.func5, Tryd.ntmps5
        go_wp2_with (first
          | (go_at_call 8; refine (awake27_any _ HT.out).mono ?_; rintro e w1 ⟨rfl, hE1⟩; have HE1 := hide hE1; have hpc := (HP0.out.ext hE1).cell; have hrc := (HR0.out.ext hE1).cell; clear hE1)
          | (go_at_call 19; refine (HI.out _ (HA0.out.ext HE1.out) (HB0.out.ext HE1.out)).mono ?_; rintro e w2 ⟨⟨A2, c2, B2, d2, rfl, h2, g2⟩, hE2⟩; have HE2 := hide (HE1.out.trans hE2); have H2 := hide h2; have G2 := hide g2; clear hpc hrc; have hpc := (HP0.out.ext HE2.out).cell; have hrc := (HR0.out.ext HE2.out).cell; clear hE2 h2 g2)
          | (go_at_call 20; refine (HJ.out _ (HA0.out.ext HE2.out) (HB0.out.ext HE2.out)).mono ?_; rintro e w3 ⟨⟨A3, c3, B3, d3, rfl, h3, g3⟩, hE3⟩; have HE3 := hide (HE2.out.trans hE3); clear hpc hrc; have hpc := (HP0.out.ext HE3.out).cell; have hrc := (HR0.out.ext HE3.out).cell; have k1 := conv_at HLA.out (H2.out.ext hE3); have k2 := conv_at HLB.out (G2.out.ext hE3); have k3 := conv_at HLA.out h3; have k4 := conv_at HLB.out g3; have k5 := conv_at HN.out (HA0.out.ext HE3.out); have k6 := conv_at HK.out (HB0.out.ext HE3.out); clear hE3 h3 g3))
        go_ret
        exact ⟨rfl, HX0.out.trans HE3.out⟩
    · obtain ⟨rfl, rfl⟩ := HF.out hc
      have hpe : (p == p) = true := by simp
      have hqe : (q == q) = true := by simp
      clear hc HF
      go_enter Tryd.func5, Tryd.ntmps5
      go_wp2_with (first
          | (go_at_call 8; refine (awake27_any _ HT.out).mono ?_; rintro e w1 ⟨rfl, hE1⟩; have HE1 := hide hE1; have hpc := (HP0.out.ext hE1).cell; have hrc := (HR0.out.ext hE1).cell; clear hE1)
          | (go_at_call 19; refine (HI.out _ (HA0.out.ext HE1.out) (HB0.out.ext HE1.out)).mono ?_; rintro e w2 ⟨⟨A2, c2, B2, d2, rfl, h2, g2⟩, hE2⟩; have HE2 := hide (HE1.out.trans hE2); have H2 := hide h2; have G2 := hide g2; clear hpc hrc; have hpc := (HP0.out.ext HE2.out).cell; have hrc := (HR0.out.ext HE2.out).cell; clear hE2 h2 g2)
          | (go_at_call 20; refine (HJ.out _ (HA0.out.ext HE2.out) (HB0.out.ext HE2.out)).mono ?_; rintro e w3 ⟨⟨A3, c3, B3, d3, rfl, h3, g3⟩, hE3⟩; have HE3 := hide (HE2.out.trans hE3); clear hpc hrc; have hpc := (HP0.out.ext HE3.out).cell; have hrc := (HR0.out.ext HE3.out).cell; have k1 := conv_at HLA.out (H2.out.ext hE3); have k2 := conv_at HLB.out (G2.out.ext hE3); have k3 := conv_at HLA.out h3; have k4 := conv_at HLB.out g3; have k5 := conv_at HN.out (HA0.out.ext HE3.out); have k6 := conv_at HK.out (HB0.out.ext HE3.out); clear hE3 h3 g3))
      go_ret
      exact ⟨rfl, HX0.out.trans HE3.out⟩
end Go.Proofs.YtfjddphjjhhjpaaDoor
