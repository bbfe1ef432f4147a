/-
  FaultDevice.
-/
import Derived.Test.YtfjddphjjhhjpaaDoorFauQ
namespace Go.Proofs.YtfjddphjjhhjpaaDoor
open Go.RowKit
set_option linter.unusedVariables false

theorem mb_pos {m : Int} (h : 1 ≤ m ∧ m ≤ 255) : (mb m != 0) = true := by
  rw [← mb_ne, ← wrap_u8]
  rw [show IntKind.u8.wrap m = m by simp [IntKind.wrap, IntKind.signed, IntKind.bits]; omega]
  simp; omega
theorem valid_kinds {c n k p m : Int} (h : validDv c n k p m = true) : k = 0 ∨ k = 1 ∨ k = 2 ∨ k = 3 := by
  unfold validDv at h
  split at h
  · rename_i hz
    simp only [Bool.and_eq_true, beq_iff_eq] at hz
    exact .inl hz.2.2.1
  · split at h
    · cases h
    · split at h
      · cases h
      · split at h
        · rename_i h1
          exact .inr (.inl (by simpa using h1))
        · simp only [Bool.and_eq_true, inB_iff] at h
          omega
theorem dev_vis {c n k p m : Int} {x : Mg} (ho : okD c n k p m = true) (hv : validDv c n k p m = true) (h0 : (k == 0) = false) (h2 : (k == 2) = true → x.l.length ≠ 0) : sameM (appL c n k p m x) x = false := by
  obtain ⟨xs, xd, xk, xq, xa, xb, xc, xz, xl⟩ := x
  unfold okD at ho
  rw [hv] at ho
  simp only [beq_eq_false_iff_ne] at h0
  have h1 : k ≠ 1 := by intro e; subst e; simp at ho
  unfold appL
  rw [hv, if_neg (by simp), if_neg h1]
  rcases valid_kinds hv with e | e | rfl | rfl
  · exact absurd e h0
  · exact absurd e h1
  · rw [if_pos rfl]
    obtain ⟨a, b, d⟩ := valid_dev hv (.inl rfl)
    have hl : xl.length ≠ 0 := h2 rfl
    unfold sameM
    simp only
    rw [changeL_vis, decide_eq_true (show 0 < xl.length by omega), decide_eq_true a, mb_pos d]
    simp
  · rw [if_neg (by decide), if_pos rfl]
    obtain ⟨a, b, d⟩ := valid_dev hv (.inr rfl)
    unfold sameM
    simp only
    rw [ansX_ne xc p m d]
    simp

set_option maxRecDepth 100000 in
set_option maxHeartbeats 1500000 in
theorem fdevice_law (c n k p m : Int) (xs xd xk xq xa xb xc xz : Int) (xl : List UInt8) (I : Option Addr) (ci : Nat) (w : World) (h1 : Sl w I ci xl) (ht : Tabs w) :
    Calls Tryd.prog 6 #[.agg #[.int .i64 c, .int .i64 n, .int .i64 k, .int .i64 p, .int .i64 m], .agg #[.int .i64 xs, .int .i64 xd, .int .i64 xk, .int .i64 xq, .int .i64 xa, .int .i64 xb, .int .i64 xc, .int .i64 xz, .slice I xl.length ci]] w fun e w' => e = .returned (.bool true) ∧ Ext w w' := by
  have hmx := h1.max
  have hle := h1.le
  have HX0 := hide ((Ext.alloc w (.cells #[.int .i64 c, .int .i64 n, .int .i64 k, .int .i64 p, .int .i64 m] 48)).alloc' (.cells #[.int .i64 xs, .int .i64 xd, .int .i64 xk, .int .i64 xq, .int .i64 xa, .int .i64 xb, .int .i64 xc, .int .i64 xz, .slice I xl.length ci] 51))
  have HP0 := hide ((Blk.new w 48 #[.int .i64 c, .int .i64 n, .int .i64 k, .int .i64 p, .int .i64 m]).alloc (.cells #[.int .i64 xs, .int .i64 xd, .int .i64 xk, .int .i64 xq, .int .i64 xa, .int .i64 xb, .int .i64 xc, .int .i64 xz, .slice I xl.length ci] 51))
  have HO0 := hide (show Blk ((w.alloc (.cells #[.int .i64 c, .int .i64 n, .int .i64 k, .int .i64 p, .int .i64 m] 48)).alloc (.cells #[.int .i64 xs, .int .i64 xd, .int .i64 xk, .int .i64 xq, .int .i64 xa, .int .i64 xb, .int .i64 xc, .int .i64 xz, .slice I xl.length ci] 51)) (w.heap.size + 1) 51 #[.int .i64 xs, .int .i64 xd, .int .i64 xk, .int .i64 xq, .int .i64 xa, .int .i64 xb, .int .i64 xc, .int .i64 xz, .slice I xl.length ci] from by
    have := Blk.new (w.alloc (.cells #[.int .i64 c, .int .i64 n, .int .i64 k, .int .i64 p, .int .i64 m] 48)) 51 #[.int .i64 xs, .int .i64 xd, .int .i64 xk, .int .i64 xq, .int .i64 xa, .int .i64 xb, .int .i64 xc, .int .i64 xz, .slice I xl.length ci]
    rwa [World.size_alloc] at this)
  have HV0 := hide (show MgV ⟨xs, xd, xk, xq, xa, xb, xc, xz, xl⟩ (.agg #[.int .i64 xs, .int .i64 xd, .int .i64 xk, .int .i64 xq, .int .i64 xa, .int .i64 xb, .int .i64 xc, .int .i64 xz, .slice I xl.length ci]) ((w.alloc (.cells #[.int .i64 c, .int .i64 n, .int .i64 k, .int .i64 p, .int .i64 m] 48)).alloc (.cells #[.int .i64 xs, .int .i64 xd, .int .i64 xk, .int .i64 xq, .int .i64 xa, .int .i64 xb, .int .i64 xc, .int .i64 xz, .slice I xl.length ci] 51)) from ⟨I, ci, rfl, h1.ext HX0.out⟩)
  have HT := hide (ht.ext HX0.out)
  clear h1 ht
  by_cases hbig : 400 < xl.length
  · have hpc := HP0.out.cell
    have hoc := HO0.out.cell
    go_enter Tryd.func6, Tryd.ntmps6
    go_wp2_with (go_at_call 8; refine (awake27_any _ HT.out).mono ?_; rintro e w1 ⟨rfl, hE1⟩; have HE1 := hide (HX0.out.trans hE1); have hpc := (HP0.out.ext hE1).cell; have hoc := (HO0.out.ext hE1).cell; clear hE1)
    go_ret
    exact ⟨rfl, HE1.out⟩
  have hn1 : xl.length ≤ 1048576 := by omega
  have HA := hide (fun u w h => apply_any c n k p m ⟨xs, xd, xk, xq, xa, xb, xc, xz, xl⟩ u w h hn1)
  have HR := hide (fun u w h => rapply_any c n k p m ⟨xs, xd, xk, xq, xa, xb, xc, xz, xl⟩ u w h hn1)
  have HVIS := hide (@dev_vis c n k p m ⟨xs, xd, xk, xq, xa, xb, xc, xz, xl⟩)
  have HFV := hide (fvaliddev_any c n k p m)
  have HRV := hide (rvaliddev_any c n k p m)
  generalize appL c n k p m ⟨xs, xd, xk, xq, xa, xb, xc, xz, xl⟩ = r at *
  obtain ⟨rs, rd, rk, rq, ra, rb, rc, rz, rl⟩ := r
  generalize okD c n k p m = ok at *
  generalize validDv c n k p m = vd at *
  have HSR := hide (fun u v w h1 h2 => samemsg_any ⟨rs, rd, rk, rq, ra, rb, rc, rz, rl⟩ ⟨rs, rd, rk, rq, ra, rb, rc, rz, rl⟩ u v w h1 h2)
  have HSX := hide (fun u v w h1 h2 => samemsg_any ⟨rs, rd, rk, rq, ra, rb, rc, rz, rl⟩ ⟨xs, xd, xk, xq, xa, xb, xc, xz, xl⟩ u v w h1 h2)
  rw [sameM_refl] at HSR
  generalize sameM ⟨rs, rd, rk, rq, ra, rb, rc, rz, rl⟩ ⟨xs, xd, xk, xq, xa, xb, xc, xz, xl⟩ = sm at *
  have hpc := HP0.out.cell
  have hoc := HO0.out.cell
  have hok : (ok != ok) = false := by simp
  have hvd : (vd != vd) = false := by simp
  go_enter Tryd.func6, Tryd.ntmps6
  go_wp2_with (go_at_call 8; refine (awake27_any _ HT.out).mono ?_; rintro e w1 ⟨rfl, hE1⟩; clear hpc hoc; have hpc := (HP0.out.ext hE1).cell; have hoc := (HO0.out.ext hE1).cell; have HE1 := hide hE1; clear hE1)
  go_at_call 21
  refine (HA.out _ _ (HV0.out.ext HE1.out)).mono ?_
  rintro e w3 ⟨u3, rfl, hV, hE⟩
  obtain ⟨A3, c3, rfl, s3⟩ := hV
  have HEE := hide hE
  have hZ := Blk.new w3 51 #[.int .i64 0, .int .i64 0, .int .i64 0, .int .i64 0, .int .i64 0, .int .i64 0, .int .i64 0, .int .i64 0, .slice none 0 0]
  have hXX := (Ext.refl w3).alloc' (.cells #[.int .i64 0, .int .i64 0, .int .i64 0, .int .i64 0, .int .i64 0, .int .i64 0, .int .i64 0, .int .i64 0, .slice none 0 0] 51)
  have HZ := hide hZ
  have HXX := hide hXX
  have HSS := hide s3
  clear hpc hoc hE hZ hXX s3
  iterate 15 (first | go_values | go_skip | go_guarded | go_step | go_upon | go_in | go_back | go_simp)
  generalize w3.alloc (.cells #[.int .i64 0, .int .i64 0, .int .i64 0, .int .i64 0, .int .i64 0, .int .i64 0, .int .i64 0, .int .i64 0, .slice none 0 0] 51) = W3 at *
  have hcZ := HZ.out.cell
  have hfZ := HZ.out.frozen
  have hX : Ext ((w.alloc (.cells #[.int .i64 c, .int .i64 n, .int .i64 k, .int .i64 p, .int .i64 m] 48)).alloc (.cells #[.int .i64 xs, .int .i64 xd, .int .i64 xk, .int .i64 xq, .int .i64 xa, .int .i64 xb, .int .i64 xc, .int .i64 xz, .slice I xl.length ci] 51)) (w9 W3 w3.heap.size (.int .i64 rs) (.int .i64 rd) (.int .i64 rk) (.int .i64 rq) (.int .i64 ra) (.int .i64 rb) (.int .i64 rc) (.int .i64 rz) (.slice A3 rl.length c3)) := ((HE1.out.trans HEE.out).trans HXX.out).put9 (Ext.size (HE1.out.trans HEE.out)) _ _ _ _ _ _ _ _ _
  have hY : Ext w3 (w9 W3 w3.heap.size (.int .i64 rs) (.int .i64 rd) (.int .i64 rk) (.int .i64 rq) (.int .i64 ra) (.int .i64 rb) (.int .i64 rc) (.int .i64 rz) (.slice A3 rl.length c3)) := HXX.out.put9 (Nat.le_refl _) _ _ _ _ _ _ _ _ _
  have hB := HZ.out.put9 (.int .i64 rs) (.int .i64 rd) (.int .i64 rk) (.int .i64 rq) (.int .i64 ra) (.int .i64 rb) (.int .i64 rc) (.int .i64 rz) (.slice A3 rl.length c3)
  have hsl := HSS.out.ext hY
  have hpc := (HP0.out.ext hX).cell
  have hoc := (HO0.out.ext hX).cell
  have HE3 := hide hX
  have HB3 := hide hB
  have HS3 := hide hsl
  unfold w9 w5 at hpc hoc HE3 HB3 HS3
  clear hX hY hB hsl HEE HSS HZ HXX
  go_wp2_with fail
  clear hcZ hfZ
  go_at_call 22
  refine (HR.out _ _ (HV0.out.ext HE3.out)).mono ?_
  rintro e w4 ⟨u4, rfl, hV, hE⟩
  obtain ⟨A4, c4, rfl, s4⟩ := hV
  have HEE := hide hE
  have hZ := Blk.new w4 51 #[.int .i64 0, .int .i64 0, .int .i64 0, .int .i64 0, .int .i64 0, .int .i64 0, .int .i64 0, .int .i64 0, .slice none 0 0]
  have hXX := (Ext.refl w4).alloc' (.cells #[.int .i64 0, .int .i64 0, .int .i64 0, .int .i64 0, .int .i64 0, .int .i64 0, .int .i64 0, .int .i64 0, .slice none 0 0] 51)
  have HZ := hide hZ
  have HXX := hide hXX
  have HSS := hide s4
  clear hpc hoc hE hZ hXX s4
  iterate 15 (first | go_values | go_skip | go_guarded | go_step | go_upon | go_in | go_back | go_simp)
  generalize w4.alloc (.cells #[.int .i64 0, .int .i64 0, .int .i64 0, .int .i64 0, .int .i64 0, .int .i64 0, .int .i64 0, .int .i64 0, .slice none 0 0] 51) = W4 at *
  have hcZ := HZ.out.cell
  have hfZ := HZ.out.frozen
  have hX : Ext ((w.alloc (.cells #[.int .i64 c, .int .i64 n, .int .i64 k, .int .i64 p, .int .i64 m] 48)).alloc (.cells #[.int .i64 xs, .int .i64 xd, .int .i64 xk, .int .i64 xq, .int .i64 xa, .int .i64 xb, .int .i64 xc, .int .i64 xz, .slice I xl.length ci] 51)) (w9 W4 w4.heap.size (.int .i64 rs) (.int .i64 rd) (.int .i64 rk) (.int .i64 rq) (.int .i64 ra) (.int .i64 rb) (.int .i64 rc) (.int .i64 rz) (.slice A4 rl.length c4)) := ((HE3.out.trans HEE.out).trans HXX.out).put9 (Ext.size (HE3.out.trans HEE.out)) _ _ _ _ _ _ _ _ _
  have hY : Ext w4 (w9 W4 w4.heap.size (.int .i64 rs) (.int .i64 rd) (.int .i64 rk) (.int .i64 rq) (.int .i64 ra) (.int .i64 rb) (.int .i64 rc) (.int .i64 rz) (.slice A4 rl.length c4)) := HXX.out.put9 (Nat.le_refl _) _ _ _ _ _ _ _ _ _
  have hB := HZ.out.put9 (.int .i64 rs) (.int .i64 rd) (.int .i64 rk) (.int .i64 rq) (.int .i64 ra) (.int .i64 rb) (.int .i64 rc) (.int .i64 rz) (.slice A4 rl.length c4)
  have hsl := HSS.out.ext hY
  have hpc := (HP0.out.ext hX).cell
  have hoc := (HO0.out.ext hX).cell
  have HB34 := hide (HB3.out.ext (HEE.out.trans hY))
  have HS34 := hide (HS3.out.ext (HEE.out.trans hY))
  unfold w9 w5 at HB34 HS34
  have HE4 := hide hX
  have HB4 := hide hB
  have HS4 := hide hsl
  unfold w9 w5 at hpc hoc HE4 HB4 HS4
  clear hX hY hB hsl HEE HSS HZ HXX
  go_wp2_with fail
  clear hcZ hfZ hpc hoc
  generalize hW5 : (World.setCell (World.setCell (World.setCell (World.setCell (World.setCell (World.setCell (World.setCell (World.setCell (World.setCell W4 ⟨w4.heap.size, 0, none⟩ (.int .i64 rs)) ⟨w4.heap.size, 1, none⟩ (.int .i64 rd)) ⟨w4.heap.size, 2, none⟩ (.int .i64 rk)) ⟨w4.heap.size, 3, none⟩ (.int .i64 rq)) ⟨w4.heap.size, 4, none⟩ (.int .i64 ra)) ⟨w4.heap.size, 5, none⟩ (.int .i64 rb)) ⟨w4.heap.size, 6, none⟩ (.int .i64 rc)) ⟨w4.heap.size, 7, none⟩ (.int .i64 rz)) ⟨w4.heap.size, 8, none⟩ (.slice A4 rl.length c4)) = W5 at *
  clear hW5
  have HP5 := hide (HP0.out.ext HE4.out)
  have HO5 := hide (HO0.out.ext HE4.out)
  refine wp_region_ext 16 9 [(2, fun v => v = .bool true, fun _ _ => True), (11, fun v => v = .bool vd, fun _ _ => True), (13, fun v => v = .bool vd, fun _ _ => True)] mixed (by kernel_rfl)
    ⟨fun _ _ _ _ _ => trivial, fun _ _ _ _ _ => trivial, fun _ _ _ _ _ => trivial, trivial⟩ ?_
  repeat ((refine seq_exact ?_ (by rfl) (by rfl) (fun w1 hU => ?_) ?_); (rotate_left 1); (focus (have f1 := (HP5.out.ext hU.un).cell; have f2 := (HO5.out.ext hU.un).cell; have f3 := (HB34.out.ext hU.un).cell; have f4 := (HB4.out.ext hU.un).cell; clear hU; go_simp <;> with_reducible rfl)); (simp only [Act.put, List.setIfInBounds_toArray, List.set_cons_zero, List.set_cons_succ]))
  refine seq_opaque _ _ (by rfl) rfl ⟨_, rfl⟩ (by simp) (fun w5 hU hp K hK => ?_) ?_
  · have hc := HSR.out _ _ w5 ⟨A3, c3, rfl, HS34.out.ext hU.un⟩ ⟨A4, c4, rfl, HS4.out.ext hU.un⟩
    clear hp
    go_simp
    refine hc.mono ?_
    rintro e w6 ⟨rfl, h2⟩
    exact hK _ _ h2 rfl trivial
  rintro _ rfl
  simp only [Act.put, List.setIfInBounds_toArray, List.set_cons_zero, List.set_cons_succ]
  repeat ((refine seq_exact ?_ (by rfl) (by rfl) (fun w1 hU => ?_) ?_); (rotate_left 1); (focus (have f1 := (HP5.out.ext hU.un).cell; have f2 := (HO5.out.ext hU.un).cell; have f3 := (HB34.out.ext hU.un).cell; have f4 := (HB4.out.ext hU.un).cell; clear hU; go_simp <;> with_reducible rfl)); (simp only [Act.put, List.setIfInBounds_toArray, List.set_cons_zero, List.set_cons_succ]))
  refine seq_opaque _ _ (by rfl) rfl ⟨_, rfl⟩ (by simp) (fun w5 hU hp K hK => ?_) ?_
  · have hc := HFV.out w5
    clear hp
    go_simp
    refine hc.mono ?_
    rintro e w6 ⟨rfl, h2⟩
    exact hK _ _ h2 rfl trivial
  rintro _ rfl
  simp only [Act.put, List.setIfInBounds_toArray, List.set_cons_zero, List.set_cons_succ]
  repeat ((refine seq_exact ?_ (by rfl) (by rfl) (fun w1 hU => ?_) ?_); (rotate_left 1); (focus (have f1 := (HP5.out.ext hU.un).cell; have f2 := (HO5.out.ext hU.un).cell; have f3 := (HB34.out.ext hU.un).cell; have f4 := (HB4.out.ext hU.un).cell; clear hU; go_simp <;> with_reducible rfl)); (simp only [Act.put, List.setIfInBounds_toArray, List.set_cons_zero, List.set_cons_succ]))
  refine seq_opaque _ _ (by rfl) rfl ⟨_, rfl⟩ (by simp) (fun w5 hU hp K hK => ?_) ?_
  · have hc := HRV.out w5
    clear hp
    go_simp
    refine hc.mono ?_
    rintro e w6 ⟨rfl, h2⟩
    exact hK _ _ h2 rfl trivial
  rintro _ rfl
  simp only [Act.put, List.setIfInBounds_toArray, List.set_cons_zero, List.set_cons_succ]
  repeat ((refine seq_exact ?_ (by rfl) (by rfl) (fun w1 hU => ?_) ?_); (rotate_left 1); (focus (go_simp <;> with_reducible rfl)); (simp only [Act.put, List.setIfInBounds_toArray, List.set_cons_zero, List.set_cons_succ]))
  intro w7 hw7 hp
  clear hp
  simp only [List.drop_succ_cons, List.drop_zero]
  have HE7 := hide (HE4.out.trans hw7.un)
  have HS7 := hide (HS34.out.ext hw7.un)
  have HB7 := hide (HB34.out.ext hw7.un)
  clear hw7 HE4 HS34 HB34 HP5 HO5 HB4 HS4 HFV HSR
  have hpc := (HP0.out.ext HE7.out).cell
  have hoc := (HO0.out.ext HE7.out).cell
  have hbc := HB7.out.cell
  obtain ⟨k0, hk0⟩ : ∃ t, (k == 0) = t := ⟨_, rfl⟩
  obtain ⟨k2, hk2⟩ : ∃ t, (k == 2) = t := ⟨_, rfl⟩
  obtain ⟨l0, hl0⟩ : ∃ t, ((xl.length : Int) == 0) = t := ⟨_, rfl⟩
  have HL := hide (show l0 = false → xl.length ≠ 0 from fun e => by rw [e] at hl0; simpa using hl0)
  rw [hk0, hk2] at HVIS
  cases ok
  · go_wp2_with fail
    go_ret
    exact ⟨ret_bool' (by simp), HX0.out.trans HE7.out⟩
  cases vd
  · go_wp2_with (go_at_call 25; refine (HRV.out _).mono ?_; rintro e w8 ⟨rfl, hE8⟩; have HE8 := hide (HE7.out.trans hE8); have HS8 := hide (HS7.out.ext hE8); clear hpc hoc hbc; have hpc := (HP0.out.ext HE8.out).cell; have hoc := (HO0.out.ext HE8.out).cell; have hbc := (HB7.out.ext hE8).cell; clear hE8)
    go_ret
    exact ⟨ret_bool' (by simp), HX0.out.trans HE8.out⟩
  cases k0
  rotate_left
  · go_wp2_with (go_at_call 25; refine (HRV.out _).mono ?_; rintro e w8 ⟨rfl, hE8⟩; have HE8 := hide (HE7.out.trans hE8); have HS8 := hide (HS7.out.ext hE8); clear hpc hoc hbc; have hpc := (HP0.out.ext HE8.out).cell; have hoc := (HO0.out.ext HE8.out).cell; have hbc := (HB7.out.ext hE8).cell; clear hE8)
    go_ret
    exact ⟨ret_bool' (by simp), HX0.out.trans HE8.out⟩
  cases k2
  · obtain rfl : sm = false := HVIS.out rfl rfl rfl (fun e => by cases e)
    go_wp2_with (first | (go_at_call 25; refine (HRV.out _).mono ?_; rintro e w8 ⟨rfl, hE8⟩; have HE8 := hide (HE7.out.trans hE8); have HS8 := hide (HS7.out.ext hE8); clear hpc hoc hbc; have hpc := (HP0.out.ext HE8.out).cell; have hoc := (HO0.out.ext HE8.out).cell; have hbc := (HB7.out.ext hE8).cell; clear hE8) | (go_at_call 23; refine (HSX.out _ _ _ ⟨A3, c3, rfl, HS8.out⟩ (HV0.out.ext HE8.out)).mono ?_; rintro e w9' ⟨rfl, hE9⟩; have HE9 := hide (HE8.out.trans hE9); clear hpc hoc hbc hE9))
    go_ret
    exact ⟨ret_bool' (by simp), HX0.out.trans HE9.out⟩
  cases l0
  rotate_left
  · go_wp2_with (go_at_call 25; refine (HRV.out _).mono ?_; rintro e w8 ⟨rfl, hE8⟩; have HE8 := hide (HE7.out.trans hE8); have HS8 := hide (HS7.out.ext hE8); clear hpc hoc hbc; have hpc := (HP0.out.ext HE8.out).cell; have hoc := (HO0.out.ext HE8.out).cell; have hbc := (HB7.out.ext hE8).cell; clear hE8)
    go_ret
    exact ⟨ret_bool' (by simp), HX0.out.trans HE8.out⟩
  obtain rfl : sm = false := HVIS.out rfl rfl rfl (fun _ => HL.out rfl)
  go_wp2_with (first | (go_at_call 25; refine (HRV.out _).mono ?_; rintro e w8 ⟨rfl, hE8⟩; have HE8 := hide (HE7.out.trans hE8); have HS8 := hide (HS7.out.ext hE8); clear hpc hoc hbc; have hpc := (HP0.out.ext HE8.out).cell; have hoc := (HO0.out.ext HE8.out).cell; have hbc := (HB7.out.ext hE8).cell; clear hE8) | (go_at_call 23; refine (HSX.out _ _ _ ⟨A3, c3, rfl, HS8.out⟩ (HV0.out.ext HE8.out)).mono ?_; rintro e w9' ⟨rfl, hE9⟩; have HE9 := hide (HE8.out.trans hE9); clear hpc hoc hbc hE9))
  go_ret
  exact ⟨ret_bool' (by simp), HX0.out.trans HE9.out⟩
end Go.Proofs.YtfjddphjjhhjpaaDoor
