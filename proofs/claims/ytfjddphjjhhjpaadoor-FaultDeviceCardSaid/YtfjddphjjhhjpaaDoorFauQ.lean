/-
  FaultDevice: Apply of both (printed by gen_fauo.py).
-/
import Derived.Test.YtfjddphjjhhjpaaDoorFauO
namespace Go.Proofs.YtfjddphjjhhjpaaDoor
open Go.RowKit
set_option linter.unusedVariables false

theorem bv_wrap (S : Int) : BitVec.ofInt 64 (IntKind.i64.wrap S) = BitVec.ofInt 64 S := by
  apply BitVec.eq_of_toNat_eq
  simp only [BitVec.toNat_ofInt, IntKind.wrap, IntKind.signed, IntKind.bits]
  simp
  congr 1
  omega
theorem bv_wrapu (S : Int) : BitVec.ofInt 64 (IntKind.u64.wrap S) = BitVec.ofInt 64 S := by
  apply BitVec.eq_of_toNat_eq
  simp only [BitVec.toNat_ofInt, IntKind.wrap, IntKind.signed, IntKind.bits]
  simp
theorem xor_conv (c S : Int) : IntKind.i64.wrap (bits .xor .u64 (IntKind.u64.wrap c) S) = bits .xor .i64 c (IntKind.i64.wrap S) := by
  show IntKind.i64.wrap (IntKind.u64.wrap ((BitVec.ofInt 64 (IntKind.u64.wrap c) ^^^ BitVec.ofInt 64 S).toNat : Int)) = IntKind.i64.wrap ((BitVec.ofInt 64 c ^^^ BitVec.ofInt 64 (IntKind.i64.wrap S)).toNat : Int)
  rw [bv_wrap, bv_wrapu]
  generalize BitVec.ofInt 64 c ^^^ BitVec.ofInt 64 S = X
  have := X.isLt
  congr 1
  simp only [IntKind.wrap, IntKind.signed, IntKind.bits]
  simp
  omega
theorem xor_ne (c S : Int) (h : 0 < S ∧ S < 18446744073709551616) : (bits .xor .i64 c (IntKind.i64.wrap S) == c) = false := by
  rw [beq_eq_false_iff_ne]
  intro e
  have e2 : BitVec.ofInt 64 (IntKind.i64.wrap ((BitVec.ofInt 64 c ^^^ BitVec.ofInt 64 (IntKind.i64.wrap S)).toNat : Int)) = BitVec.ofInt 64 c := congrArg (BitVec.ofInt 64) e
  rw [bv_wrap, bv_wrap, BitVec.ofInt_natCast, BitVec.ofNat_toNat, BitVec.setWidth_eq] at e2
  have e3 : BitVec.ofInt 64 S = 0#64 := by
    have := congrArg (BitVec.ofInt 64 c ^^^ ·) e2
    simp only [← BitVec.xor_assoc, BitVec.xor_self, BitVec.zero_xor] at this
    exact this
  have e4 := congrArg BitVec.toNat e3
  rw [BitVec.toNat_ofInt] at e4
  simp at e4
  omega
theorem ansX_ne (c p m : Int) (hm : 1 ≤ m ∧ m ≤ 255) : (ansX c p m == c) = false := by
  unfold ansX
  obtain ⟨r, hr⟩ : ∃ r, p.toNat % 8 = r := ⟨_, rfl⟩
  have h8 : r < 8 := by omega
  rw [hr]
  have key : 0 < IntKind.u64.wrap (m * 2 ^ (8 * r)) ∧ IntKind.u64.wrap (m * 2 ^ (8 * r)) < 18446744073709551616 := by
    simp only [IntKind.wrap, IntKind.signed, IntKind.bits]
    obtain rfl | rfl | rfl | rfl | rfl | rfl | rfl | rfl : r = 0 ∨ r = 1 ∨ r = 2 ∨ r = 3 ∨ r = 4 ∨ r = 5 ∨ r = 6 ∨ r = 7 := by omega
    all_goals (simp; omega)
  exact xor_ne _ _ key

set_option maxRecDepth 100000 in
set_option maxHeartbeats 8000000 in
theorem rapply_any (c n k p m : Int) (x : Mg) (u : Value) (w : World) (hu : MgV x u w) (hl : x.l.length ≤ 1048576) :
    Calls Tryd.prog 22 #[.agg #[.int .i64 c, .int .i64 n, .int .i64 k, .int .i64 p, .int .i64 m], u] w fun e w' => ∃ v, e = .returned (.tuple #[v, .bool (okD c n k p m)]) ∧ MgV (appL c n k p m x) v w' ∧ Ext w w' := by
  obtain ⟨I, ci, rfl, s1⟩ := hu
  obtain ⟨xs, xd, xk, xq, xa, xb, xc, xz, xl⟩ := x
  simp only at s1 hl ⊢
  have hP := ((Blk.new w 48 #[.int .i64 c, .int .i64 n, .int .i64 k, .int .i64 p, .int .i64 m]).alloc (.cells #[.int .i64 xs, .int .i64 xd, .int .i64 xk, .int .i64 xq, .int .i64 xa, .int .i64 xb, .int .i64 xc, .int .i64 xz, .slice I xl.length ci] 51)).alloc (.cells #[.int .i64 0, .int .i64 0, .int .i64 0, .int .i64 0, .int .i64 0, .int .i64 0, .int .i64 0, .int .i64 0, .slice none 0 0] 51)
  have hO := (Blk.new (w.alloc (.cells #[.int .i64 c, .int .i64 n, .int .i64 k, .int .i64 p, .int .i64 m] 48)) 51 #[.int .i64 xs, .int .i64 xd, .int .i64 xk, .int .i64 xq, .int .i64 xa, .int .i64 xb, .int .i64 xc, .int .i64 xz, .slice I xl.length ci]).alloc (.cells #[.int .i64 0, .int .i64 0, .int .i64 0, .int .i64 0, .int .i64 0, .int .i64 0, .int .i64 0, .int .i64 0, .slice none 0 0] 51)
  have hR := Blk.new ((w.alloc (.cells #[.int .i64 c, .int .i64 n, .int .i64 k, .int .i64 p, .int .i64 m] 48)).alloc (.cells #[.int .i64 xs, .int .i64 xd, .int .i64 xk, .int .i64 xq, .int .i64 xa, .int .i64 xb, .int .i64 xc, .int .i64 xz, .slice I xl.length ci] 51)) 51 #[.int .i64 0, .int .i64 0, .int .i64 0, .int .i64 0, .int .i64 0, .int .i64 0, .int .i64 0, .int .i64 0, .slice none 0 0]
  have he := ((Ext.alloc w (.cells #[.int .i64 c, .int .i64 n, .int .i64 k, .int .i64 p, .int .i64 m] 48)).alloc' (.cells #[.int .i64 xs, .int .i64 xd, .int .i64 xk, .int .i64 xq, .int .i64 xa, .int .i64 xb, .int .i64 xc, .int .i64 xz, .slice I xl.length ci] 51)).alloc' (.cells #[.int .i64 0, .int .i64 0, .int .i64 0, .int .i64 0, .int .i64 0, .int .i64 0, .int .i64 0, .int .i64 0, .slice none 0 0] 51)
  have HFV := hide (rvaliddev_any c n k p m)
  have HVK := hide (@valid_dev c n k p m)
  obtain ⟨vp, hvp⟩ : ∃ t, validDv c n k p m = t := ⟨_, rfl⟩
  have HVP := hide hvp
  rw [hvp] at HFV HVK
  clear hvp
  simp only [World.size_alloc] at hP hO hR
  have hcO := hO.cell
  go_enter Tryd.func22, Tryd.ntmps22
  go_wp2_with (
      at_builtin; go_loud (
      generalize hwb : ((w.alloc (.cells #[.int .i64 c, .int .i64 n, .int .i64 k, .int .i64 p, .int .i64 m] 48)).alloc (.cells #[.int .i64 xs, .int .i64 xd, .int .i64 xk, .int .i64 xq, .int .i64 xa, .int .i64 xb, .int .i64 xc, .int .i64 xz, .slice I xl.length ci] 51)).alloc (.cells #[.int .i64 0, .int .i64 0, .int .i64 0, .int .i64 0, .int .i64 0, .int .i64 0, .int .i64 0, .int .i64 0, .slice none 0 0] 51) = wb at *
      have hzb := hR.lt
      have hzb' : wb.heap.size = w.heap.size + 3 := by rw [← hwb]; simp
      clear hwb
      have HP := hide hP
      have HO := hide hO
      have HR := hide hR
      have HX := hide he
      have HS1 := hide (s1.ext he)
      clear hP hO hR he s1 hcO
      have hem : EmB wb.heap.size 5 (.slice (some ⟨w.heap.size + 1 + 1 + 1, 0, none⟩) 0 0) (wb.alloc (.cells #[] 5)) := by have := EmB.new wb 5 (Nat.le_refl _); rwa [hzb'] at this ⊢
      refine wpList_appendE bt rfl _ _ rfl wb.heap.size _ rfl hem I ci xl rfl (HS1.out.ext (Ext.alloc wb _)) (by omega) (by simp) ?_
      intro A1 c1 w7 hq hE7
      have hE7 := Ext.trans (Ext.alloc wb _) hE7
      have HE7 := hide hE7
      have HQ := hide (hq.slX (r := none) (show w.heap.size + 3 ≤ wb.heap.size by omega) (fun k e => by cases e))
      have hb := HO.out.ext hE7
      have hc := hb.cell
      have hf := hb.frozen
      have HP7 := hide ((HP.out.ext hE7).far (p := ⟨w.heap.size + 1, 8, none⟩) (by simp) (.slice A1 xl.length c1))
      have HR7 := hide ((HR.out.ext hE7).far (p := ⟨w.heap.size + 1, 8, none⟩) (by simp) (.slice A1 xl.length c1))
      have HO7 := hide (show Blk (w7.setCell ⟨w.heap.size + 1, 8, none⟩ (.slice A1 xl.length c1)) (w.heap.size + 1) 51 #[.int .i64 xs, .int .i64 xd, .int .i64 xk, .int .i64 xq, .int .i64 xa, .int .i64 xb, .int .i64 xc, .int .i64 xz, .slice A1 xl.length c1] from by
        have := hb.set 8 (.slice A1 xl.length c1)
        simpa using this)
      have HX7 := hide ((HX.out.trans hE7).set (p := ⟨w.heap.size + 1, 8, none⟩) (by simp) (.slice A1 xl.length c1))
      have HQ1 := hide (HQ.out.far (p := ⟨w.heap.size + 1, 8, none⟩) (by simp) (.slice A1 xl.length c1))
      have hcP := HP7.out.cell
      clear hE7 hq hb HP HO HR HX HS1 HQ HE7))
  go_at_call 25
  refine (HFV.out _).mono ?_
  rintro e w8 ⟨rfl, hE8⟩
  have HP8 := hide (HP7.out.ext hE8)
  have HO8 := hide (HO7.out.ext hE8)
  have HR8 := hide (HR7.out.ext hE8)
  have HX8 := hide (HX7.out.trans hE8)
  have HQ8 := hide (HQ1.out.grown (hE8.grownBy none))
  have hz8 := HR8.out.lt
  clear hE8 HP7 HO7 HR7 HX7 HQ1 hc hf HFV hcP
  have hcP := HP8.out.cell
  have hcO := HO8.out.cell
  have hfO := HO8.out.frozen
  have hcR := HR8.out.cell
  have hfR := HR8.out.frozen
  have HOK := hide (show okD c n k p m = !(vp && (k == 1)) from by unfold okD; rw [HVP.out])
  cases vp
  · have HRES := hide (show appL c n k p m ⟨xs, xd, xk, xq, xa, xb, xc, xz, xl⟩ = ⟨xs, xd, xk, xq, xa, xb, xc, xz, xl⟩ by unfold appL; simp only; rw [HVP.out, if_pos rfl])
    go_wp2_with fail
    have hset := HR8.out.put9 (.int .i64 xs) (.int .i64 xd) (.int .i64 xk) (.int .i64 xq) (.int .i64 xa) (.int .i64 xb) (.int .i64 xc) (.int .i64 xz) (.slice A1 xl.length c1)
    have hcc := hset.cell
    unfold w9 w5 at hcc
    refine bodyPost_ret (v := .tuple #[.agg #[.int .i64 xs, .int .i64 xd, .int .i64 xk, .int .i64 xq, .int .i64 xa, .int .i64 xb, .int .i64 xc, .int .i64 xz, .slice A1 xl.length c1], .bool true]) (by simp [results, Tryd.results22, go_sem, hcc]) rfl ?_
    rw [HRES.out, HOK.out]
    exact ⟨_, rfl, ⟨_, _, rfl, (HQ8.out.put9 (by omega) _ _ _ _ _ _ _ _ _).sl⟩, HX8.out.put9 (by omega) _ _ _ _ _ _ _ _ _⟩
  by_cases k1 : k = 1
  · subst k1
    have HRES := hide (show appL c n 1 p m ⟨xs, xd, xk, xq, xa, xb, xc, xz, xl⟩ = ⟨0, 0, 0, 0, 0, 0, 0, 0, []⟩ by unfold appL; simp only; rw [HVP.out, if_neg (by simp)]; exact if_pos trivial)
    go_wp2_with fail
    have hset := HR8.out.put9 (.int .i64 0) (.int .i64 0) (.int .i64 0) (.int .i64 0) (.int .i64 0) (.int .i64 0) (.int .i64 0) (.int .i64 0) (.slice none 0 0)
    have hcc := hset.cell
    unfold w9 w5 at hcc
    refine bodyPost_ret (v := .tuple #[.agg #[.int .i64 0, .int .i64 0, .int .i64 0, .int .i64 0, .int .i64 0, .int .i64 0, .int .i64 0, .int .i64 0, .slice none 0 0], .bool false]) (by simp [results, Tryd.results22, go_sem, hcc]) rfl ?_
    rw [HRES.out, HOK.out]
    exact ⟨_, rfl, ⟨_, _, rfl, Sl.none_ _⟩, HX8.out.put9 (by omega) _ _ _ _ _ _ _ _ _⟩
  have k1' : (k == 1) = false := by simp [k1]
  rw [k1'] at HOK
  by_cases k2 : k = 2
  · subst k2
    obtain ⟨hp0, hp1, hm0, hm1⟩ := HVK.out rfl (.inl rfl)
    have HRES := hide (show appL c n 2 p m ⟨xs, xd, xk, xq, xa, xb, xc, xz, xl⟩ = ⟨xs, xd, xk, xq, xa, xb, xc, xz, changeL xl p m⟩ by unfold appL; simp only; rw [HVP.out, if_neg (by simp), if_neg (by decide)]; exact if_pos trivial)
    go_wp2_with (go_at_call 18; refine (rchange_any A1 c1 xl p m w8 HQ8.out.sl hl (by omega)).mono ?_; rintro e w4 ⟨A4, c4, rfl, h4, hE4⟩; have HQ4 := hide (h4.slX (r := none) (show w.heap.size + 3 ≤ w8.heap.size by omega) (fun k e => by cases e)); have HX4 := hide (HX8.out.trans hE4); have HR4 := hide (HR8.out.ext hE4); have HO4 := hide (HO8.out.ext hE4); clear hcP hcO hfO hcR hfR h4 hE4; have hcO := HO4.out.cell; have hfO := HO4.out.frozen; have hcR := HR4.out.cell; have hfR := HR4.out.frozen)
    have HR8 := hide (HR4.out.far (p := ⟨w.heap.size + 1, 8, none⟩) (by simp) (.slice A4 xl.length c4))
    have hset := HR8.out.put9 (.int .i64 xs) (.int .i64 xd) (.int .i64 xk) (.int .i64 xq) (.int .i64 xa) (.int .i64 xb) (.int .i64 xc) (.int .i64 xz) (.slice A4 xl.length c4)
    have hcc := hset.cell
    unfold w9 w5 at hcc
    refine bodyPost_ret (v := .tuple #[.agg #[.int .i64 xs, .int .i64 xd, .int .i64 xk, .int .i64 xq, .int .i64 xa, .int .i64 xb, .int .i64 xc, .int .i64 xz, .slice A4 xl.length c4], .bool true]) (by simp [results, Tryd.results22, go_sem, hcc]) rfl ?_
    rw [HRES.out, HOK.out]
    have hql := changeL_length xl p m
    refine ⟨_, rfl, ⟨A4, c4, by simp only [hql], ((HQ4.out.far (p := ⟨w.heap.size + 1, 8, none⟩) (by simp) _).put9 (by omega) _ _ _ _ _ _ _ _ _).sl⟩, (HX4.out.set (p := ⟨w.heap.size + 1, 8, none⟩) (by simp) _).put9 (by omega) _ _ _ _ _ _ _ _ _⟩
  have k2' : (k == 2) = false := by simp [k2]
  by_cases k3 : k = 3
  · subst k3
    obtain ⟨hp0, hp1, hm0, hm1⟩ := HVK.out rfl (.inr rfl)
    have HRES := hide (show appL c n 3 p m ⟨xs, xd, xk, xq, xa, xb, xc, xz, xl⟩ = ⟨xs, xd, xk, xq, xa, xb, ansX xc p m, xz, xl⟩ by unfold appL; simp only; rw [HVP.out, if_neg (by simp), if_neg (by decide), if_neg (by decide)]; exact if_pos trivial)
    obtain ⟨q, rfl⟩ := Int.eq_ofNat_of_zero_le hp0
    obtain ⟨r, hr⟩ : ∃ r, q % 8 = r := ⟨_, rfl⟩
    have hr8 : r < 8 := by omega
    have hmod : (q : Int).tmod 8 = (r : Int) := by rw [← hr]; exact (Int.ofNat_tmod q 8).symm
    have hmul : IntKind.i64.wrap (8 * (r : Int)) = ((8 * r : Nat) : Int) := by simp [IntKind.wrap, IntKind.signed, IntKind.bits]; omega
    have hwm : IntKind.u64.wrap m = m := by simp [IntKind.wrap, IntKind.signed, IntKind.bits]; omega
    go_wp2_with fail
    refine wp_region_ext 15 15 [] mixed (by kernel_rfl) trivial ?_
    repeat ((refine seq_exact ?_ (by rfl) (by rfl) (fun w1 hU => ?_) ?_); (rotate_left 1); (focus (have f1 := (HP8.out.ext hU.un).cell; have f2 := (HO8.out.ext hU.un).cell; clear hU; go_simp <;> with_reducible rfl)); (simp only [Act.put, List.setIfInBounds_toArray, List.set_cons_zero, List.set_cons_succ]))
    intro w4 hE4 _
    simp only [List.drop_succ_cons, List.drop_zero]
    have hv : bits .xor .i64 xc (IntKind.i64.wrap (IntKind.u64.wrap (m * 2 ^ (8 * (r : Int)).toNat))) = ansX xc (q : Int) m := by
      unfold ansX
      rw [Int.toNat_natCast, hr, show (8 * (r : Int)).toNat = 8 * r by omega]
    simp only [xor_conv, hv]
    generalize ansX xc (q : Int) m = y at *
    have HQ4 := hide ((HQ8.out.grown (hE4.un.grownBy none)).far (p := ⟨w.heap.size + 1, 6, none⟩) (by simp) (.int .i64 y))
    have HX4 := hide ((HX8.out.trans hE4.un).set (p := ⟨w.heap.size + 1, 6, none⟩) (by simp) (.int .i64 y))
    have hR4 := HR8.out.ext hE4.un
    have hO4 := HO8.out.ext hE4.un
    clear HR8 hcP hcO hfO hcR hfR
    have hcO := hO4.cell
    have hfO := hO4.frozen
    have hcR := hR4.cell
    have hfR := hR4.frozen
    have HR8 := hide (hR4.far (p := ⟨w.heap.size + 1, 6, none⟩) (by simp) (.int .i64 y))
    clear hE4 hO4 hR4 HP8 HO8 hmod hmul hwm hr hr8
    go_wp2_with fail
    have hset := HR8.out.put9 (.int .i64 xs) (.int .i64 xd) (.int .i64 xk) (.int .i64 xq) (.int .i64 xa) (.int .i64 xb) (.int .i64 y) (.int .i64 xz) (.slice A1 xl.length c1)
    have hcc := hset.cell
    unfold w9 w5 at hcc
    refine bodyPost_ret (v := .tuple #[.agg #[.int .i64 xs, .int .i64 xd, .int .i64 xk, .int .i64 xq, .int .i64 xa, .int .i64 xb, .int .i64 y, .int .i64 xz, .slice A1 xl.length c1], .bool true]) (by simp [results, Tryd.results22, go_sem, hcc]) rfl ?_
    rw [HRES.out, HOK.out]
    exact ⟨_, rfl, ⟨_, _, rfl, (HQ4.out.put9 (by omega) _ _ _ _ _ _ _ _ _).sl⟩, HX4.out.put9 (by omega) _ _ _ _ _ _ _ _ _⟩
  have k3' : (k == 3) = false := by simp [k3]
  have HRES := hide (show appL c n k p m ⟨xs, xd, xk, xq, xa, xb, xc, xz, xl⟩ = ⟨xs, xd, xk, xq, xa, xb, xc, xz, xl⟩ by unfold appL; simp only; rw [HVP.out, if_neg (by simp), if_neg k1, if_neg k2, if_neg k3])
  go_wp2_with fail
  · have hset := HR8.out.put9 (.int .i64 xs) (.int .i64 xd) (.int .i64 xk) (.int .i64 xq) (.int .i64 xa) (.int .i64 xb) (.int .i64 xc) (.int .i64 xz) (.slice A1 xl.length c1)
    have hcc := hset.cell
    unfold w9 w5 at hcc
    refine bodyPost_ret (v := .tuple #[.agg #[.int .i64 xs, .int .i64 xd, .int .i64 xk, .int .i64 xq, .int .i64 xa, .int .i64 xb, .int .i64 xc, .int .i64 xz, .slice A1 xl.length c1], .bool true]) (by simp [results, Tryd.results22, go_sem, hcc]) rfl ?_
    rw [HRES.out, HOK.out]
    exact ⟨_, rfl, ⟨_, _, rfl, (HQ8.out.put9 (by omega) _ _ _ _ _ _ _ _ _).sl⟩, HX8.out.put9 (by omega) _ _ _ _ _ _ _ _ _⟩
end Go.Proofs.YtfjddphjjhhjpaaDoor
