/-
  The walk of SumDamage.
-/
import Derived.Test.YtpnniiildnkeaaaDoorSumQ
import Derived.Test.YtpnniiildnkeaaaDoorSumF
import Derived.Test.YtpnniiildnkeaaaDoorMem
import Derived.IntWalk
namespace Go.Proofs.YtpnniiildnkeaaaDoor
open Go.RowKit
set_option linter.unusedVariables false

theorem shl_eq (m : Int) (kb : Nat) (h0 : 0 ≤ m) (h1 : m ≤ 255) (hk : kb < 8) : IntKind.i64.wrap (IntKind.u64.wrap (IntKind.u64.wrap m * 2 ^ (8 * (kb : Int)).toNat)) = wrap64 ((m.toNat * 2 ^ (8 * kb) : Nat) : Int) := by
  have ew : ∀ x : Int, IntKind.i64.wrap x = wrap64 x := fun x => by
    unfold wrap64
    simp only [IntKind.wrap, IntKind.signed, IntKind.bits]
    simp
    omega
  have e1 : (8 * (kb : Int)).toNat = 8 * kb := by omega
  have e2 : IntKind.u64.wrap m = m := by rw [IntKind.wrap_u64]; omega
  have hM : m.toNat * 2 ^ (8 * kb) < 18446744073709551616 := by
    have h1 : 2 ^ (8 * kb) ≤ 2 ^ 56 := Nat.pow_le_pow_right (by omega) (by omega)
    have h2 : m.toNat * 2 ^ (8 * kb) ≤ 255 * 2 ^ 56 := Nat.mul_le_mul (by omega) h1
    omega
  have e3 : m * 2 ^ (8 * kb) = ((m.toNat * 2 ^ (8 * kb) : Nat) : Int) := by
    rw [Int.natCast_mul, Int.natCast_pow, Int.toNat_of_nonneg h0]
    rfl
  rw [ew, e1, e2, e3, IntKind.wrap_u64]
  congr 1
  omega
set_option maxRecDepth 100000 in
set_option maxHeartbeats 4000000 in
theorem damage_law (s d k q a b c z : Int) (A : Option Addr) (cap : Nat) (l : List UInt8) (at' tb m : Int) (w : World) (ht : TZ w) (hs : Sl w A cap l) (ha0 : 0 ≤ at') (ha1 : at' ≤ 65535) (hm0 : 0 ≤ m) (hm1 : m ≤ 255) :
    Calls Tryd.prog 5 #[.agg #[.int .i64 s, .int .i64 d, .int .i64 k, .int .i64 q, .int .i64 a, .int .i64 b, .int .i64 c, .int .i64 z, .slice A l.length cap], .agg #[.int .u16 at', .int .u8 tb], .int .u8 m] w fun e w' => e = .returned (.bool true) ∧ Ext w w' := by
  have hma := hs.max
  have hla := hs.le
  unfold maxLen at hma
  have hl2 : l.length ≤ 9223372036854775807 := by omega
  have he := (Ext.alloc w (.cells #[.int .i64 s, .int .i64 d, .int .i64 k, .int .i64 q, .int .i64 a, .int .i64 b, .int .i64 c, .int .i64 z, .slice A l.length cap] 29)).alloc' (.cells #[.int .u16 at', .int .u8 tb] 34)
  have HB := hide ((Blk.new w 29 #[.int .i64 s, .int .i64 d, .int .i64 k, .int .i64 q, .int .i64 a, .int .i64 b, .int .i64 c, .int .i64 z, .slice A l.length cap]).alloc (.cells #[.int .u16 at', .int .u8 tb] 34))
  have hC := Blk.new (w.alloc (.cells #[.int .i64 s, .int .i64 d, .int .i64 k, .int .i64 q, .int .i64 a, .int .i64 b, .int .i64 c, .int .i64 z, .slice A l.length cap] 29)) 34 #[.int .u16 at', .int .u8 tb]
  simp only [World.size_alloc] at hC
  have HC := hide hC
  have HS := hide (hs.ext he)
  have HT := hide (ht.ext he)
  have HX := hide he
  clear hs ht hma hla he hC
  go_enter Tryd.func5, Tryd.ntmps5
  go_wp2_with fail
  generalize hwb : (w.alloc (.cells #[.int .i64 s, .int .i64 d, .int .i64 k, .int .i64 q, .int .i64 a, .int .i64 b, .int .i64 c, .int .i64 z, .slice A l.length cap] 29)).alloc (.cells #[.int .u16 at', .int .u8 tb] 34) = wb at *
  clear hwb
  refine (awake02_any wb HT.out).mono ?_
  rintro e w1 ⟨rfl, he⟩
  have HB := hide (HB.out.ext he)
  have HC := hide (HC.out.ext he)
  have HS := hide (HS.out.ext he)
  have HX := hide (HX.out.trans he)
  have hc := HB.out.cell
  clear he
  by_cases hbig : 600 < l.length
  · go_wp2_with fail
    go_ret
    exact ⟨rfl, HX.out⟩
  by_cases hmz : m = 0
  · have hmz2 : (m == 0) = true := by simpa using hmz
    clear hmz
    go_wp2_with fail
    go_ret
    exact ⟨rfl, HX.out⟩
  have hmz2 : (m == 0) = false := by simpa using hmz
  obtain ⟨r, hr⟩ : ∃ r, ansI a b c l = r := ⟨_, rfl⟩
  have HR := hide hr
  have HMZ := hide hmz
  clear hr hmz
  go_wp2_with fail
  have hq := answer_any a b c A cap l _ HS.out hl2
  rw [HR.out] at hq
  refine hq.mono ?_
  clear hq
  rintro e w8 ⟨rfl, he⟩
  have HB1 := HB.out.ext he
  have hc := HB1.cell
  have hf := HB1.frozen
  have HB2 := HB1.set 7 (.int .i64 r)
  have HB2 : Hid (Blk (w8.setCell ⟨w.heap.size, 7, none⟩ (.int .i64 r)) w.heap.size 29 #[.int .i64 s, .int .i64 d, .int .i64 k, .int .i64 q, .int .i64 a, .int .i64 b, .int .i64 c, .int .i64 r, .slice A l.length cap]) := hide (by simpa using HB2)
  have HX := hide ((HX.out.trans he).set (p := ⟨w.heap.size, 7, none⟩) (Nat.le_refl _) (.int .i64 r))
  have HS2 := hide ((HS.out.ext he).put HB1 (by simp [noByte]) 7 (.int .i64 r))
  have HC2 := hide ((HC.out.ext he).far (p := ⟨w.heap.size, 7, none⟩) (by simp) (.int .i64 r))
  have hz8 := HB1.lt
  have hz9 : w.heap.size < (w8.setCell ⟨w.heap.size, 7, none⟩ (.int .i64 r)).heap.size := HB2.out.lt
  clear he HB1 HB HS HC
  obtain ⟨w9, hw9⟩ : ∃ w9, w8.setCell ⟨w.heap.size, 7, none⟩ (.int .i64 r) = w9 := ⟨_, rfl⟩
  rw [hw9] at HB2 HX HS2 HC2 hz9
  have hc9 := HB2.out.cell
  have hf9 := HB2.out.frozen
  have HW9 := hide hw9
  have hw9' : w8.heap.size = w9.heap.size := by rw [← hw9]; simp [World.setCell]
  clear hw9
  obtain ⟨kn, hkn⟩ : ∃ kn, at'.toNat % (24 + l.length) = kn := ⟨_, rfl⟩
  have hkl : kn < 24 + l.length := by rw [← hkn]; exact Nat.mod_lt _ (by omega)
  have hmod : at' % (24 + (l.length : Int)) = (kn : Int) := by
    rw [← hkn, Int.natCast_emod, Int.toNat_of_nonneg ha0]
    rfl
  clear hkn
  by_cases hk24 : kn < 24
  · have hk24' : (kn : Int) < 24 := by omega
    go_wp2_with (first
      | (at_builtin; rw [HW9.out]; refine wpList_appendE bt rfl _ _ rfl w9.heap.size _ rfl (EmB.new w9 5 (Nat.le_refl _)) A cap l rfl (HS2.out.ext (Ext.alloc w9 _)) (by omega) (by simp) ?_; intro A2 c2 w10 q1 q2; have q2 := Ext.trans (Ext.alloc w9 _) q2; have hcB := (HB2.out.ext q2).cell; have hfB := (HB2.out.ext q2).frozen; have hzB := (HB2.out.ext q2).lt; have hcC := (HC2.out.ext q2).cell; have HO2 := hide q1; have HX2 := hide q2; clear q1 q2 hc hf hc9 hf9)
      | fail)
    have HB10 := hide (HB2.out.ext HX2.out)
    have HB3 := HB10.out.set 8 (.slice A2 l.length c2)
    have HB3 : Hid (Blk (w10.setCell ⟨w.heap.size, 8, none⟩ (.slice A2 l.length c2)) w.heap.size 29 #[.int .i64 s, .int .i64 d, .int .i64 k, .int .i64 q, .int .i64 a, .int .i64 b, .int .i64 c, .int .i64 r, .slice A2 l.length c2]) := hide (by simpa using HB3)
    have HX3 := hide ((HX.out.trans HX2.out).set (p := ⟨w.heap.size, 8, none⟩) (Nat.le_refl _) (.slice A2 l.length c2))
    have HS3 := hide (HO2.out.sl.2.put HB10.out (by simp [noByte]) 8 (.slice A2 l.length c2))
    generalize hw11 : w10.setCell ⟨w.heap.size, 8, none⟩ (.slice A2 l.length c2) = w11 at *
    clear hw11 hcB hfB hcC hzB HB10 HO2 HX2 HX HS2 HC2 HB2
    obtain ⟨kb, hkb⟩ : ∃ kb, kn % 8 = kb := ⟨_, rfl⟩
    have hkb8 : kb < 8 := by omega
    have hr8 : (kn : Int).tmod 8 = (kb : Int) := by rw [Int.tmod_eq_emod_of_nonneg (by omega)]; omega
    have hc3 : kn / 8 = 0 ∨ kn / 8 = 1 ∨ kn / 8 = 2 := by omega
    rcases hc3 with hi | hi | hi
    · have hq8 : (kn : Int) / 8 = 0 := by omega
      have hwi : IntKind.i64.wrap 0 = 0 := by decide
      have hw8 : IntKind.i64.wrap (8 * (kb : Int)) = 8 * (kb : Int) := IntWalk.i64_in _ (by omega)
      obtain ⟨v, hv⟩ : ∃ v, bits .xor .i64 a (IntKind.i64.wrap (IntKind.u64.wrap (IntKind.u64.wrap m * 2 ^ (8 * (kb : Int)).toNat))) = v := ⟨_, rfl⟩
      have HDM := hide (show ansI v b c l ≠ ansI a b c l by
        rw [← hv, shl_eq m kb hm0 hm1 hkb8]
        exact dam_0 a b c l m.toNat kb (by omega) (by have := HMZ.out; omega) hkb8)
      have HV := hide hv
      clear hi hkb hv
      refine wp_region_ext 14 3 [] mixed (by kernel_rfl) trivial ?_
      repeat ((refine seq_exact ?_ (by rfl) (by rfl) (fun w1 hU => ?_) ?_); (rotate_left 1); (focus (have hk := (HB3.out.ext hU.un).cell; have h1 := hq8; have h2 := hr8; have h3 := hwi; have h4 := hw8; have h5 := HV.out; clear hU; go_simp <;> with_reducible rfl)); (simp only [Act.put, List.setIfInBounds_toArray, List.set_cons_zero, List.set_cons_succ]))
      intro w12 hw12 _
      simp only [List.drop_succ_cons, List.drop_zero]
      have HB4 := hide (HB3.out.ext hw12.un)
      have HX4 := hide ((HX3.out.trans hw12.un).set (p := ⟨w.heap.size, 4, none⟩) (Nat.le_refl _) (.int .i64 v))
      have HS4 := hide ((HS3.out.ext hw12.un).put HB4.out (by simp [noByte]) 4 (.int .i64 v))
      have hcB := HB4.out.cell
      have hfB := HB4.out.frozen
      have HB5 := HB4.out.set 4 (.int .i64 v)
      have HB5 : Hid (Blk (w12.setCell ⟨w.heap.size, 4, none⟩ (.int .i64 v)) w.heap.size 29 #[.int .i64 s, .int .i64 d, .int .i64 k, .int .i64 q, .int .i64 v, .int .i64 b, .int .i64 c, .int .i64 r, .slice A2 l.length c2]) := hide (by simpa using HB5)
      clear hw12 hw8 hwi hq8 hr8
      go_wp2_with fail
      have hq := right_any s d k q v b c r A2 c2 l _ HS4.out hl2
      have hne : (r == ansI v b c l) = false := by
        have := HDM.out
        rw [HR.out] at this
        simp
        exact fun e => this e.symm
      rw [hne] at hq
      refine hq.mono ?_
      clear hq hne
      rintro e w13 ⟨rfl, he⟩
      have HX5 := hide (HX4.out.trans he)
      clear he
      go_wp2_with fail
      go_ret
      exact ⟨rfl, HX5.out⟩
    · have hq8 : (kn : Int) / 8 = 1 := by omega
      have hwi : IntKind.i64.wrap 1 = 1 := by decide
      have hw8 : IntKind.i64.wrap (8 * (kb : Int)) = 8 * (kb : Int) := IntWalk.i64_in _ (by omega)
      obtain ⟨v, hv⟩ : ∃ v, bits .xor .i64 b (IntKind.i64.wrap (IntKind.u64.wrap (IntKind.u64.wrap m * 2 ^ (8 * (kb : Int)).toNat))) = v := ⟨_, rfl⟩
      have HDM := hide (show ansI a v c l ≠ ansI a b c l by
        rw [← hv, shl_eq m kb hm0 hm1 hkb8]
        exact dam_1 a b c l m.toNat kb (by omega) (by have := HMZ.out; omega) hkb8)
      have HV := hide hv
      clear hi hkb hv
      refine wp_region_ext 14 3 [] mixed (by kernel_rfl) trivial ?_
      repeat ((refine seq_exact ?_ (by rfl) (by rfl) (fun w1 hU => ?_) ?_); (rotate_left 1); (focus (have hk := (HB3.out.ext hU.un).cell; have h1 := hq8; have h2 := hr8; have h3 := hwi; have h4 := hw8; have h5 := HV.out; clear hU; go_simp <;> with_reducible rfl)); (simp only [Act.put, List.setIfInBounds_toArray, List.set_cons_zero, List.set_cons_succ]))
      intro w12 hw12 _
      simp only [List.drop_succ_cons, List.drop_zero]
      have HB4 := hide (HB3.out.ext hw12.un)
      have HX4 := hide ((HX3.out.trans hw12.un).set (p := ⟨w.heap.size, 5, none⟩) (Nat.le_refl _) (.int .i64 v))
      have HS4 := hide ((HS3.out.ext hw12.un).put HB4.out (by simp [noByte]) 5 (.int .i64 v))
      have hcB := HB4.out.cell
      have hfB := HB4.out.frozen
      have HB5 := HB4.out.set 5 (.int .i64 v)
      have HB5 : Hid (Blk (w12.setCell ⟨w.heap.size, 5, none⟩ (.int .i64 v)) w.heap.size 29 #[.int .i64 s, .int .i64 d, .int .i64 k, .int .i64 q, .int .i64 a, .int .i64 v, .int .i64 c, .int .i64 r, .slice A2 l.length c2]) := hide (by simpa using HB5)
      clear hw12 hw8 hwi hq8 hr8
      go_wp2_with fail
      have hq := right_any s d k q a v c r A2 c2 l _ HS4.out hl2
      have hne : (r == ansI a v c l) = false := by
        have := HDM.out
        rw [HR.out] at this
        simp
        exact fun e => this e.symm
      rw [hne] at hq
      refine hq.mono ?_
      clear hq hne
      rintro e w13 ⟨rfl, he⟩
      have HX5 := hide (HX4.out.trans he)
      clear he
      go_wp2_with fail
      go_ret
      exact ⟨rfl, HX5.out⟩
    · have hq8 : (kn : Int) / 8 = 2 := by omega
      have hwi : IntKind.i64.wrap 2 = 2 := by decide
      have hw8 : IntKind.i64.wrap (8 * (kb : Int)) = 8 * (kb : Int) := IntWalk.i64_in _ (by omega)
      obtain ⟨v, hv⟩ : ∃ v, bits .xor .i64 c (IntKind.i64.wrap (IntKind.u64.wrap (IntKind.u64.wrap m * 2 ^ (8 * (kb : Int)).toNat))) = v := ⟨_, rfl⟩
      have HDM := hide (show ansI a b v l ≠ ansI a b c l by
        rw [← hv, shl_eq m kb hm0 hm1 hkb8]
        exact dam_2 a b c l m.toNat kb (by omega) (by have := HMZ.out; omega) hkb8)
      have HV := hide hv
      clear hi hkb hv
      refine wp_region_ext 14 3 [] mixed (by kernel_rfl) trivial ?_
      repeat ((refine seq_exact ?_ (by rfl) (by rfl) (fun w1 hU => ?_) ?_); (rotate_left 1); (focus (have hk := (HB3.out.ext hU.un).cell; have h1 := hq8; have h2 := hr8; have h3 := hwi; have h4 := hw8; have h5 := HV.out; clear hU; go_simp <;> with_reducible rfl)); (simp only [Act.put, List.setIfInBounds_toArray, List.set_cons_zero, List.set_cons_succ]))
      intro w12 hw12 _
      simp only [List.drop_succ_cons, List.drop_zero]
      have HB4 := hide (HB3.out.ext hw12.un)
      have HX4 := hide ((HX3.out.trans hw12.un).set (p := ⟨w.heap.size, 6, none⟩) (Nat.le_refl _) (.int .i64 v))
      have HS4 := hide ((HS3.out.ext hw12.un).put HB4.out (by simp [noByte]) 6 (.int .i64 v))
      have hcB := HB4.out.cell
      have hfB := HB4.out.frozen
      have HB5 := HB4.out.set 6 (.int .i64 v)
      have HB5 : Hid (Blk (w12.setCell ⟨w.heap.size, 6, none⟩ (.int .i64 v)) w.heap.size 29 #[.int .i64 s, .int .i64 d, .int .i64 k, .int .i64 q, .int .i64 a, .int .i64 b, .int .i64 v, .int .i64 r, .slice A2 l.length c2]) := hide (by simpa using HB5)
      clear hw12 hw8 hwi hq8 hr8
      go_wp2_with fail
      have hq := right_any s d k q a b v r A2 c2 l _ HS4.out hl2
      have hne : (r == ansI a b v l) = false := by
        have := HDM.out
        rw [HR.out] at this
        simp
        exact fun e => this e.symm
      rw [hne] at hq
      refine hq.mono ?_
      clear hq hne
      rintro e w13 ⟨rfl, he⟩
      have HX5 := hide (HX4.out.trans he)
      clear he
      go_wp2_with fail
      go_ret
      exact ⟨rfl, HX5.out⟩
  · obtain ⟨j, rfl⟩ : ∃ j, kn = 24 + j := ⟨kn - 24, by omega⟩
    have hk24' : ¬ (24 + (j : Int)) < 24 := by omega
    have hmod2 : at' % (24 + (l.length : Int)) = 24 + (j : Int) := by rw [hmod]; omega
    have hjl : j < l.length := by omega
    have HNE := hide (show l ≠ [] by intro e; rw [e] at hjl; simp at hjl)
    obtain ⟨y, hy⟩ : ∃ y, l[j] = y := ⟨_, rfl⟩
    have HY := hide hy
    obtain ⟨x, hx0⟩ : ∃ x, UInt8.ofNat (y.toNat ^^^ m.toNat) = x := ⟨_, rfl⟩
    have hlt : y.toNat ^^^ m.toNat < 256 := Nat.xor_lt_two_pow (n := 8) y.toNat_lt (by omega)
    have hxt : x.toNat = y.toNat ^^^ m.toNat := by rw [← hx0, UInt8.toNat_ofNat', Nat.mod_eq_of_lt hlt]
    have hx : bits .xor .u8 (y.toNat : Int) m = (x.toNat : Int) := by
      have hy256 := y.toNat_lt
      rw [hxt, u8_xor _ m (by omega) (by omega) hm0 (by omega), Int.toNat_natCast]
    have HXY := hide (show x ≠ l[j] by
      rw [hy]
      intro e
      rw [e] at hxt
      have h2 := congrArg (fun z => y.toNat ^^^ z) hxt
      simp only [← Nat.xor_assoc, Nat.xor_self, Nat.zero_xor] at h2
      have := HMZ.out
      omega)
    clear hmod hy hx0 hlt hxt hkl hk24
    go_wp2_with (first
      | (at_builtin; rw [HW9.out]; refine wpList_appendE bt rfl _ _ rfl w9.heap.size _ rfl (EmB.new w9 5 (Nat.le_refl _)) A cap l rfl (HS2.out.ext (Ext.alloc w9 _)) (by omega) (by simp) ?_; intro A2 c2 w10 q1 q2; have q2 := Ext.trans (Ext.alloc w9 _) q2; obtain ⟨g, rfl, hgb, hgl, _, hcc, hff⟩ := q1.at_ HNE.out; have hcB := (HB2.out.ext q2).cell; have hfB := (HB2.out.ext q2).frozen; have hzB := (HB2.out.ext q2).lt; have hcC := (HC2.out.ext q2).cell; have hck := hcc j hjl; rw [HY.out] at hck; have hfk := hff j; have hgB : g ≠ w.heap.size := (by omega); have hBg : w.heap.size ≠ g := (by omega); have HO2 := hide q1; have HX2 := hide q2; clear q1 q2 hc hf hc9 hf9 hcc hff)
      | fail)
    have HX3 := hide (((HX.out.trans HX2.out).set (p := ⟨w.heap.size, 8, none⟩) (Nat.le_refl _) (.slice (some ⟨g, 0, none⟩) l.length c2)).set (p := ⟨g, j, none⟩) (by have := HX.out.size; simp only; omega) (.int .u8 (x.toNat : Int)))
    have HO3 := hide ((HO2.out.grown (grown_set w10 ⟨w.heap.size, 8, none⟩ (.slice (some ⟨g, 0, none⟩) l.length c2)) (.inr (fun e => hgB (Option.some.inj e)))).set j x).sl.2
    have hl3 : (l.set j x).length ≤ 9223372036854775807 := by rw [List.length_set]; exact hl2
    have hq := right_any s d k q a b c r (some ⟨g, 0, none⟩) c2 (l.set j x) _ HO3.out hl3
    have hne : (r == ansI a b c (l.set j x)) = false := by
      have := dam_l a b c l j hjl x HXY.out
      rw [HR.out] at this
      simp
      exact fun e => this e.symm
    rw [hne, List.length_set] at hq
    refine hq.mono ?_
    clear hq hne
    rintro e w13 ⟨rfl, he⟩
    have HX5 := hide (HX3.out.trans he)
    clear he
    go_wp2_with fail
    go_ret
    exact ⟨rfl, HX5.out⟩
theorem damage_law' (s d k q a b c z : Int) (A : Option Addr) (cap : Nat) (l : List UInt8) (x y m : Int) (w : World) (wx : (Lit.int .u16 x).wf = true) (wm : (Lit.int .u8 m).wf = true) (ht : TZ w) (hs : Sl w A cap l) :
    Calls Tryd.prog 5 #[.agg #[.int .i64 s, .int .i64 d, .int .i64 k, .int .i64 q, .int .i64 a, .int .i64 b, .int .i64 c, .int .i64 z, .slice A l.length cap], .agg #[.int .u16 x, .int .u8 y], .int .u8 m] w fun e w' => e = .returned (.bool true) ∧ Ext w w' := by
  have hx := (by simpa [Lit.wf, IntKind.min, IntKind.max, IntKind.signed, IntKind.bits] using wx : 0 ≤ x ∧ x ≤ 65535)
  have hm := (by simpa [Lit.wf, IntKind.min, IntKind.max, IntKind.signed, IntKind.bits] using wm : 0 ≤ m ∧ m ≤ 255)
  exact damage_law s d k q a b c z A cap l x y m w ht hs hx.1 hx.2 hm.1 hm.2
end Go.Proofs.YtpnniiildnkeaaaDoor
