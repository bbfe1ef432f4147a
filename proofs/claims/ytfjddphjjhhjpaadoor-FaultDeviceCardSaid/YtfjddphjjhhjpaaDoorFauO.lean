/-
  FaultDevice: Apply of both (printed by gen_fauo.py).
-/
import Derived.Test.YtfjddphjjhhjpaaDoorFauN
namespace Go.Proofs.YtfjddphjjhhjpaaDoor
open Go.RowKit
set_option linter.unusedVariables false

def w9 (w : World) (g : Nat) (a b c d e f h i j : Value) : World := ((((w5 w g a b c d e).setCell ⟨g, 5, none⟩ f).setCell ⟨g, 6, none⟩ h).setCell ⟨g, 7, none⟩ i).setCell ⟨g, 8, none⟩ j
theorem Blk.put9 {w : World} {g : Nat} {t : TypeId} {x0 x1 x2 x3 x4 x5 x6 x7 x8 : Value} (h : Blk w g t #[x0, x1, x2, x3, x4, x5, x6, x7, x8]) (a b c d e f k i j : Value) : Blk (w9 w g a b c d e f k i j) g t #[a, b, c, d, e, f, k, i, j] := by
  have := ((((((((h.set 0 a).set 1 b).set 2 c).set 3 d).set 4 e).set 5 f).set 6 k).set 7 i).set 8 j
  unfold w9 w5
  simpa using this
theorem SlX.put9 {base g : Nat} {l : List UInt8} {v : Value} {w : World} (h : SlX base none l v w) (hp : g < base) (a b c d e f k i j : Value) : SlX base none l v (w9 w g a b c d e f k i j) :=
  ((((h.put5 hp a b c d e).far (p := ⟨g, 5, none⟩) hp f).far (p := ⟨g, 6, none⟩) hp k).far (p := ⟨g, 7, none⟩) hp i).far (p := ⟨g, 8, none⟩) hp j
theorem Ext.put9 {w0 w : World} {g : Nat} (h : Ext w0 w) (hp : w0.heap.size ≤ g) (a b c d e f k i j : Value) : Ext w0 (w9 w g a b c d e f k i j) :=
  ((((h.put5 hp a b c d e).set (p := ⟨g, 5, none⟩) hp f).set (p := ⟨g, 6, none⟩) hp k).set (p := ⟨g, 7, none⟩) hp i).set (p := ⟨g, 8, none⟩) hp j
/-- The damage of an answer. -/
def ansX (c p m : Int) : Int := bits .xor .i64 c (IntKind.i64.wrap (IntKind.u64.wrap (m * 2 ^ (8 * (p.toNat % 8)))))

/-- Whether a message of a device plan arrives. -/
def okD (c n k p m : Int) : Bool := !(validDv c n k p m && (k == 1))
/-- The message with the damage of a device plan. -/
def appL (c n k p m : Int) (x : Mg) : Mg :=
  if validDv c n k p m = false then x
  else if k = 1 then ⟨0, 0, 0, 0, 0, 0, 0, 0, []⟩
  else if k = 2 then ⟨x.s, x.d, x.k, x.q, x.a, x.b, x.c, x.z, changeL x.l p m⟩
  else if k = 3 then ⟨x.s, x.d, x.k, x.q, x.a, x.b, ansX x.c p m, x.z, x.l⟩
  else x
theorem valid_dev {c n k p m : Int} (h : validDv c n k p m = true) (hk : k = 2 ∨ k = 3) : 0 ≤ p ∧ p ≤ 24000 ∧ 1 ≤ m ∧ m ≤ 255 := by
  unfold validDv at h
  rw [if_neg (by rcases hk with rfl | rfl <;> simp)] at h
  split at h
  · cases h
  · split at h
    · cases h
    · rw [if_neg (by rcases hk with rfl | rfl <;> simp)] at h
      simp only [Bool.and_eq_true, inB_iff] at h
      omega

set_option maxRecDepth 100000 in
set_option maxHeartbeats 8000000 in
theorem apply_any (c n k p m : Int) (x : Mg) (u : Value) (w : World) (hu : MgV x u w) (hl : x.l.length ≤ 1048576) :
    Calls Tryd.prog 21 #[.agg #[.int .i64 c, .int .i64 n, .int .i64 k, .int .i64 p, .int .i64 m], u] w fun e w' => ∃ v, e = .returned (.tuple #[v, .bool (okD c n k p m)]) ∧ MgV (appL c n k p m x) v w' ∧ Ext w w' := by
  obtain ⟨I, ci, rfl, s1⟩ := hu
  obtain ⟨xs, xd, xk, xq, xa, xb, xc, xz, xl⟩ := x
  simp only at s1 hl ⊢
  have hP := ((Blk.new w 54 #[.int .i64 c, .int .i64 n, .int .i64 k, .int .i64 p, .int .i64 m]).alloc (.cells #[.int .i64 xs, .int .i64 xd, .int .i64 xk, .int .i64 xq, .int .i64 xa, .int .i64 xb, .int .i64 xc, .int .i64 xz, .slice I xl.length ci] 51)).alloc (.cells #[.int .i64 0, .int .i64 0, .int .i64 0, .int .i64 0, .int .i64 0, .int .i64 0, .int .i64 0, .int .i64 0, .slice none 0 0] 51)
  have hO := (Blk.new (w.alloc (.cells #[.int .i64 c, .int .i64 n, .int .i64 k, .int .i64 p, .int .i64 m] 54)) 51 #[.int .i64 xs, .int .i64 xd, .int .i64 xk, .int .i64 xq, .int .i64 xa, .int .i64 xb, .int .i64 xc, .int .i64 xz, .slice I xl.length ci]).alloc (.cells #[.int .i64 0, .int .i64 0, .int .i64 0, .int .i64 0, .int .i64 0, .int .i64 0, .int .i64 0, .int .i64 0, .slice none 0 0] 51)
  have hR := Blk.new ((w.alloc (.cells #[.int .i64 c, .int .i64 n, .int .i64 k, .int .i64 p, .int .i64 m] 54)).alloc (.cells #[.int .i64 xs, .int .i64 xd, .int .i64 xk, .int .i64 xq, .int .i64 xa, .int .i64 xb, .int .i64 xc, .int .i64 xz, .slice I xl.length ci] 51)) 51 #[.int .i64 0, .int .i64 0, .int .i64 0, .int .i64 0, .int .i64 0, .int .i64 0, .int .i64 0, .int .i64 0, .slice none 0 0]
  have he := ((Ext.alloc w (.cells #[.int .i64 c, .int .i64 n, .int .i64 k, .int .i64 p, .int .i64 m] 54)).alloc' (.cells #[.int .i64 xs, .int .i64 xd, .int .i64 xk, .int .i64 xq, .int .i64 xa, .int .i64 xb, .int .i64 xc, .int .i64 xz, .slice I xl.length ci] 51)).alloc' (.cells #[.int .i64 0, .int .i64 0, .int .i64 0, .int .i64 0, .int .i64 0, .int .i64 0, .int .i64 0, .int .i64 0, .slice none 0 0] 51)
  have HFV := hide (fvaliddev_any c n k p m)
  have HVK := hide (@valid_dev c n k p m)
  obtain ⟨vp, hvp⟩ : ∃ t, validDv c n k p m = t := ⟨_, rfl⟩
  have HVP := hide hvp
  rw [hvp] at HFV HVK
  clear hvp
  simp only [World.size_alloc] at hP hO hR
  have hcO := hO.cell
  go_enter Tryd.func21, Tryd.ntmps21
  go_wp2_with fail
  generalize hwb : ((w.alloc (.cells #[.int .i64 c, .int .i64 n, .int .i64 k, .int .i64 p, .int .i64 m] 54)).alloc (.cells #[.int .i64 xs, .int .i64 xd, .int .i64 xk, .int .i64 xq, .int .i64 xa, .int .i64 xb, .int .i64 xc, .int .i64 xz, .slice I xl.length ci] 51)).alloc (.cells #[.int .i64 0, .int .i64 0, .int .i64 0, .int .i64 0, .int .i64 0, .int .i64 0, .int .i64 0, .int .i64 0, .slice none 0 0] 51) = wb at *
  have hzb := hR.lt
  have hzb' : wb.heap.size = w.heap.size + 3 := by rw [← hwb]; simp
  clear hwb
  have HP := hide hP
  have HO := hide hO
  have HR := hide hR
  have HX := hide he
  have HS1 := hide (s1.ext he)
  clear hP hO hR he s1 hcO
  go_at_call 46
  refine (clone_any I ci xl wb HS1.out hl).mono ?_
  rintro e w7 ⟨A1, c1, rfl, hq, hE7⟩
  have HE7 := hide hE7
  have HQ := hide (hq.slX (r := none) (show w.heap.size + 3 ≤ wb.heap.size by omega) (fun k e => by cases e))
  have hb := HO.out.ext hE7
  have hc := hb.cell
  have hf := hb.frozen
  have HP7 := hide ((HP.out.ext hE7).far (p := ⟨w.heap.size + 1, 8, none⟩) (by simp) (.slice A1 xl.length c1))
  have HR7 := hide ((HR.out.ext hE7).far (p := ⟨w.heap.size + 1, 8, none⟩) (by simp) (.slice A1 xl.length c1))
  have HO7 := hide (show Blk (w7.setCell ⟨w.heap.size + 1, 8, none⟩ (.slice A1 xl.length c1)) (w.heap.size + 1) 51 #[.int .i64 xs, .int .i64 xd, .int .i64 xk, .int .i64 xq, .int .i64 xa, .int .i64 xb, .int .i64 xc, .int .i64 xz, .slice A1 xl.length c1] from by
    have := hb.set 8 (.slice A1 xl.length c1)
    simpa using this)
  have HX7 := hide ((HX.out.trans hE7).set (p := ⟨w.heap.size + 1, 8, none⟩) (by simp) (.slice A1 xl.length c1))
  have HQ1 := hide (HQ.out.far (p := ⟨w.heap.size + 1, 8, none⟩) (by simp) (.slice A1 xl.length c1))
  have hcP := HP7.out.cell
  clear hE7 hq hb HP HO HR HX HS1 HQ HE7
  go_wp2_with fail
  go_at_call 24
  refine (HFV.out _).mono ?_
  rintro e w8 ⟨rfl, hE8⟩
  have HP8 := hide (HP7.out.ext hE8)
  have HO8 := hide (HO7.out.ext hE8)
  have HR8 := hide (HR7.out.ext hE8)
  have HX8 := hide (HX7.out.trans hE8)
  have HQ8 := hide (HQ1.out.grown (hE8.grownBy none))
  have hz8 := HR8.out.lt
  clear hE8 HP7 HO7 HR7 HX7 HQ1 hc hf HFV hcP
  have hcP := HP8.out.cell
  have hcO := HO8.out.cell
  have hfO := HO8.out.frozen
  have hcR := HR8.out.cell
  have hfR := HR8.out.frozen
  have HOK := hide (show okD c n k p m = !(vp && (k == 1)) from by unfold okD; rw [HVP.out])
  cases vp
  · have HRES := hide (show appL c n k p m ⟨xs, xd, xk, xq, xa, xb, xc, xz, xl⟩ = ⟨xs, xd, xk, xq, xa, xb, xc, xz, xl⟩ by unfold appL; simp only; rw [HVP.out, if_pos rfl])
    go_wp2_with fail
    have hset := HR8.out.put9 (.int .i64 xs) (.int .i64 xd) (.int .i64 xk) (.int .i64 xq) (.int .i64 xa) (.int .i64 xb) (.int .i64 xc) (.int .i64 xz) (.slice A1 xl.length c1)
    have hcc := hset.cell
    unfold w9 w5 at hcc
    refine bodyPost_ret (v := .tuple #[.agg #[.int .i64 xs, .int .i64 xd, .int .i64 xk, .int .i64 xq, .int .i64 xa, .int .i64 xb, .int .i64 xc, .int .i64 xz, .slice A1 xl.length c1], .bool true]) (by simp [results, Tryd.results21, go_sem, hcc]) rfl ?_
    rw [HRES.out, HOK.out]
    exact ⟨_, rfl, ⟨_, _, rfl, (HQ8.out.put9 (by omega) _ _ _ _ _ _ _ _ _).sl⟩, HX8.out.put9 (by omega) _ _ _ _ _ _ _ _ _⟩
  by_cases k1 : k = 1
  · subst k1
    have HRES := hide (show appL c n 1 p m ⟨xs, xd, xk, xq, xa, xb, xc, xz, xl⟩ = ⟨0, 0, 0, 0, 0, 0, 0, 0, []⟩ by unfold appL; simp only; rw [HVP.out, if_neg (by simp)]; exact if_pos trivial)
    go_wp2_with fail
    have hset := HR8.out.put9 (.int .i64 0) (.int .i64 0) (.int .i64 0) (.int .i64 0) (.int .i64 0) (.int .i64 0) (.int .i64 0) (.int .i64 0) (.slice none 0 0)
    have hcc := hset.cell
    unfold w9 w5 at hcc
    refine bodyPost_ret (v := .tuple #[.agg #[.int .i64 0, .int .i64 0, .int .i64 0, .int .i64 0, .int .i64 0, .int .i64 0, .int .i64 0, .int .i64 0, .slice none 0 0], .bool false]) (by simp [results, Tryd.results21, go_sem, hcc]) rfl ?_
    rw [HRES.out, HOK.out]
    exact ⟨_, rfl, ⟨_, _, rfl, Sl.none_ _⟩, HX8.out.put9 (by omega) _ _ _ _ _ _ _ _ _⟩
  have k1' : (k == 1) = false := by simp [k1]
  rw [k1'] at HOK
  by_cases k2 : k = 2
  · subst k2
    obtain ⟨hp0, hp1, hm0, hm1⟩ := HVK.out rfl (.inl rfl)
    have HRES := hide (show appL c n 2 p m ⟨xs, xd, xk, xq, xa, xb, xc, xz, xl⟩ = ⟨xs, xd, xk, xq, xa, xb, xc, xz, changeL xl p m⟩ by unfold appL; simp only; rw [HVP.out, if_neg (by simp), if_neg (by decide)]; exact if_pos trivial)
    go_wp2_with (go_at_call 17; refine (change_any A1 c1 xl p m w8 HQ8.out.sl hl (by omega)).mono ?_; rintro e w4 ⟨A4, c4, rfl, h4, hE4⟩; have HQ4 := hide (h4.slX (r := none) (show w.heap.size + 3 ≤ w8.heap.size by omega) (fun k e => by cases e)); have HX4 := hide (HX8.out.trans hE4); have HR4 := hide (HR8.out.ext hE4); have HO4 := hide (HO8.out.ext hE4); clear hcP hcO hfO hcR hfR h4 hE4; have hcO := HO4.out.cell; have hfO := HO4.out.frozen; have hcR := HR4.out.cell; have hfR := HR4.out.frozen)
    have HR8 := hide (HR4.out.far (p := ⟨w.heap.size + 1, 8, none⟩) (by simp) (.slice A4 xl.length c4))
    have hset := HR8.out.put9 (.int .i64 xs) (.int .i64 xd) (.int .i64 xk) (.int .i64 xq) (.int .i64 xa) (.int .i64 xb) (.int .i64 xc) (.int .i64 xz) (.slice A4 xl.length c4)
    have hcc := hset.cell
    unfold w9 w5 at hcc
    refine bodyPost_ret (v := .tuple #[.agg #[.int .i64 xs, .int .i64 xd, .int .i64 xk, .int .i64 xq, .int .i64 xa, .int .i64 xb, .int .i64 xc, .int .i64 xz, .slice A4 xl.length c4], .bool true]) (by simp [results, Tryd.results21, go_sem, hcc]) rfl ?_
    rw [HRES.out, HOK.out]
    have hql := changeL_length xl p m
    refine ⟨_, rfl, ⟨A4, c4, by simp only [hql], ((HQ4.out.far (p := ⟨w.heap.size + 1, 8, none⟩) (by simp) _).put9 (by omega) _ _ _ _ _ _ _ _ _).sl⟩, (HX4.out.set (p := ⟨w.heap.size + 1, 8, none⟩) (by simp) _).put9 (by omega) _ _ _ _ _ _ _ _ _⟩
  have k2' : (k == 2) = false := by simp [k2]
  by_cases k3 : k = 3
  · subst k3
    obtain ⟨hp0, hp1, hm0, hm1⟩ := HVK.out rfl (.inr rfl)
    have HRES := hide (show appL c n 3 p m ⟨xs, xd, xk, xq, xa, xb, xc, xz, xl⟩ = ⟨xs, xd, xk, xq, xa, xb, ansX xc p m, xz, xl⟩ by unfold appL; simp only; rw [HVP.out, if_neg (by simp), if_neg (by decide), if_neg (by decide)]; exact if_pos trivial)
    obtain ⟨q, rfl⟩ := Int.eq_ofNat_of_zero_le hp0
    obtain ⟨r, hr⟩ : ∃ r, q % 8 = r := ⟨_, rfl⟩
    have hr8 : r < 8 := by omega
    have hmod : (q : Int).tmod 8 = (r : Int) := by rw [← hr]; exact (Int.ofNat_tmod q 8).symm
    have hmul : IntKind.i64.wrap (8 * (r : Int)) = ((8 * r : Nat) : Int) := by simp [IntKind.wrap, IntKind.signed, IntKind.bits]; omega
    have hwm : IntKind.u64.wrap m = m := by simp [IntKind.wrap, IntKind.signed, IntKind.bits]; omega
    go_wp2_with fail
    refine wp_region_ext 15 15 [] mixed (by kernel_rfl) trivial ?_
    repeat ((refine seq_exact ?_ (by rfl) (by rfl) (fun w1 hU => ?_) ?_); (rotate_left 1); (focus (have f1 := (HP8.out.ext hU.un).cell; have f2 := (HO8.out.ext hU.un).cell; clear hU; go_simp <;> with_reducible rfl)); (simp only [Act.put, List.setIfInBounds_toArray, List.set_cons_zero, List.set_cons_succ]))
    intro w4 hE4 _
    simp only [List.drop_succ_cons, List.drop_zero]
    have hv : bits .xor .i64 xc (IntKind.i64.wrap (IntKind.u64.wrap (m * 2 ^ (8 * (r : Int)).toNat))) = ansX xc (q : Int) m := by
      unfold ansX
      rw [Int.toNat_natCast, hr, show (8 * (r : Int)).toNat = 8 * r by omega]
    simp only [hv]
    generalize ansX xc (q : Int) m = y at *
    have HQ4 := hide ((HQ8.out.grown (hE4.un.grownBy none)).far (p := ⟨w.heap.size + 1, 6, none⟩) (by simp) (.int .i64 y))
    have HX4 := hide ((HX8.out.trans hE4.un).set (p := ⟨w.heap.size + 1, 6, none⟩) (by simp) (.int .i64 y))
    have hR4 := HR8.out.ext hE4.un
    have hO4 := HO8.out.ext hE4.un
    clear HR8 hcP hcO hfO hcR hfR
    have hcO := hO4.cell
    have hfO := hO4.frozen
    have hcR := hR4.cell
    have hfR := hR4.frozen
    have HR8 := hide (hR4.far (p := ⟨w.heap.size + 1, 6, none⟩) (by simp) (.int .i64 y))
    clear hE4 hO4 hR4 HP8 HO8 hmod hmul hwm hr hr8
    go_wp2_with fail
    have hset := HR8.out.put9 (.int .i64 xs) (.int .i64 xd) (.int .i64 xk) (.int .i64 xq) (.int .i64 xa) (.int .i64 xb) (.int .i64 y) (.int .i64 xz) (.slice A1 xl.length c1)
    have hcc := hset.cell
    unfold w9 w5 at hcc
    refine bodyPost_ret (v := .tuple #[.agg #[.int .i64 xs, .int .i64 xd, .int .i64 xk, .int .i64 xq, .int .i64 xa, .int .i64 xb, .int .i64 y, .int .i64 xz, .slice A1 xl.length c1], .bool true]) (by simp [results, Tryd.results21, go_sem, hcc]) rfl ?_
    rw [HRES.out, HOK.out]
    exact ⟨_, rfl, ⟨_, _, rfl, (HQ4.out.put9 (by omega) _ _ _ _ _ _ _ _ _).sl⟩, HX4.out.put9 (by omega) _ _ _ _ _ _ _ _ _⟩
  have k3' : (k == 3) = false := by simp [k3]
  have HRES := hide (show appL c n k p m ⟨xs, xd, xk, xq, xa, xb, xc, xz, xl⟩ = ⟨xs, xd, xk, xq, xa, xb, xc, xz, xl⟩ by unfold appL; simp only; rw [HVP.out, if_neg (by simp), if_neg k1, if_neg k2, if_neg k3])
  go_wp2_with fail
  · have hset := HR8.out.put9 (.int .i64 xs) (.int .i64 xd) (.int .i64 xk) (.int .i64 xq) (.int .i64 xa) (.int .i64 xb) (.int .i64 xc) (.int .i64 xz) (.slice A1 xl.length c1)
    have hcc := hset.cell
    unfold w9 w5 at hcc
    refine bodyPost_ret (v := .tuple #[.agg #[.int .i64 xs, .int .i64 xd, .int .i64 xk, .int .i64 xq, .int .i64 xa, .int .i64 xb, .int .i64 xc, .int .i64 xz, .slice A1 xl.length c1], .bool true]) (by simp [results, Tryd.results21, go_sem, hcc]) rfl ?_
    rw [HRES.out, HOK.out]
    exact ⟨_, rfl, ⟨_, _, rfl, (HQ8.out.put9 (by omega) _ _ _ _ _ _ _ _ _).sl⟩, HX8.out.put9 (by omega) _ _ _ _ _ _ _ _ _⟩
end Go.Proofs.YtfjddphjjhhjpaaDoor
