/-
  Judge of the program.
-/
import Derived.Test.YtfcmngiekdhfpaaAttB
import Derived.Test.YtfcmngiekdhfpaaAttA
namespace Go.Proofs.Ytfcmngiekdhfpaa
open Go.RowKit
set_option linter.unusedVariables false

def stopd (o : Out) : Bool := (o.fin == 1) || ((o.fin == 0) && (o.err != 0))
def hangs (o : Out) : Bool := (o.fin == 2) || ((o.fin == 0) && decide (4000 < o.steps))
def touches (o : Out) : Bool := o.fin == 3
def causeL (a b : Out) (ok : Bool) : Int :=
  if stopd a || stopd b then 1 else if hangs a || hangs b then 2 else if touches a || touches b then 3 else if ok = false then 4 else if !(a.img == b.img) || !(a.eff == b.eff) then 5 else 0
set_option maxRecDepth 100000 in
theorem j2_any (of os oe : Int) (I E : Option Addr) (n m ci ce : Nat) (w : World) : Calls Try.prog 53 #[.agg #[.int .i64 of, .int .i64 os, .int .i64 oe, .slice I n ci, .slice E m ce]] w fun e w' => e = .returned (.bool ((of == 1) || ((of == 0) && (oe != 0)))) ∧ Ext w w' := by
  have hc := (Blk.new w 53 #[.int .i64 of, .int .i64 os, .int .i64 oe, .slice I n ci, .slice E m ce]).cell
  obtain ⟨t1, h1⟩ : ∃ t, (of == 1) = t := ⟨_, rfl⟩
  obtain ⟨t2, h2⟩ : ∃ t, (of == 0) = t := ⟨_, rfl⟩
  rw [h1, h2]
  go_enter Try.func53, Try.ntmps53
  cases t1
  · cases t2
    · go_wp2
      go_ret
      exact ⟨rfl, Ext.alloc w _⟩
    · go_wp2
      go_ret
      exact ⟨ret_bool (by simp), Ext.alloc w _⟩
  · go_wp2
    go_ret
    exact ⟨rfl, Ext.alloc w _⟩
set_option maxRecDepth 100000 in
theorem j3_any (of os oe : Int) (I E : Option Addr) (n m ci ce : Nat) (w : World) : Calls Try.prog 54 #[.agg #[.int .i64 of, .int .i64 os, .int .i64 oe, .slice I n ci, .slice E m ce]] w fun e w' => e = .returned (.bool ((of == 2) || ((of == 0) && decide (4000 < os)))) ∧ Ext w w' := by
  have hc := (Blk.new w 53 #[.int .i64 of, .int .i64 os, .int .i64 oe, .slice I n ci, .slice E m ce]).cell
  obtain ⟨t1, h1⟩ : ∃ t, (of == 2) = t := ⟨_, rfl⟩
  obtain ⟨t2, h2⟩ : ∃ t, (of == 0) = t := ⟨_, rfl⟩
  rw [h1, h2]
  go_enter Try.func54, Try.ntmps54
  cases t1
  · cases t2
    · go_wp2
      go_ret
      exact ⟨rfl, Ext.alloc w _⟩
    · go_wp2
      go_ret
      exact ⟨ret_bool (by simp), Ext.alloc w _⟩
  · go_wp2
    go_ret
    exact ⟨rfl, Ext.alloc w _⟩
theorem j4_any (of os oe : Int) (I E : Option Addr) (n m ci ce : Nat) (w : World) : Calls Try.prog 55 #[.agg #[.int .i64 of, .int .i64 os, .int .i64 oe, .slice I n ci, .slice E m ce]] w fun e w' => e = .returned (.bool (of == 3)) ∧ Ext w w' := by
  have hc := (Blk.new w 53 #[.int .i64 of, .int .i64 os, .int .i64 oe, .slice I n ci, .slice E m ce]).cell
  go_enter Try.func55, Try.ntmps55
  go_wp2
  go_ret
  exact ⟨rfl, Ext.alloc w _⟩

set_option maxRecDepth 100000 in
theorem one2_any (g h : Nat) (af ast ae bf bs be : Int) (I E J G : Option Addr) (n m n' m' ci ce cj cg : Nat) (p q : Bool) (w : World)
    (ha : Blk w g 53 #[.int .i64 af, .int .i64 ast, .int .i64 ae, .slice I n ci, .slice E m ce]) (hb : Blk w h 53 #[.int .i64 bf, .int .i64 bs, .int .i64 be, .slice J n' cj, .slice G m' cg])
    (h1 : ∀ w, Calls Try.prog 53 #[.agg #[.int .i64 af, .int .i64 ast, .int .i64 ae, .slice I n ci, .slice E m ce]] w fun e w' => e = .returned (.bool p) ∧ Ext w w')
    (h2 : ∀ w, Calls Try.prog 53 #[.agg #[.int .i64 bf, .int .i64 bs, .int .i64 be, .slice J n' cj, .slice G m' cg]] w fun e w' => e = .returned (.bool q) ∧ Ext w w') :
    Calls Try.prog 52 #[.func (.func 53) #[] #[], .pointer (some ⟨g, 0, none⟩), .pointer (some ⟨h, 0, none⟩)] w fun e w' => e = .returned (.bool (p || q)) ∧ Ext w w' := by
  have hca := ha.cell
  have hcb := hb.cell
  have HB := hide hb
  have H1 := hide h1
  have H2 := hide h2
  clear ha hb h1 h2
  go_enter Try.func52, Try.ntmps52
  go_wp2_with fail
  refine (H1.out _).mono ?_
  rintro e w1 ⟨rfl, he⟩
  have hcb := (HB.out.ext he).cell
  have HX := hide he
  clear he hca
  cases p
  · go_wp2_with fail
    refine (H2.out _).mono ?_
    rintro e w2 ⟨rfl, he⟩
    have HX := hide (HX.out.trans he)
    clear he hcb
    go_wp2_with fail
    go_ret
    exact ⟨ret_bool (by simp), HX.out⟩
  · go_wp2_with fail
    go_ret
    exact ⟨rfl, HX.out⟩
set_option maxRecDepth 100000 in
theorem one3_any (g h : Nat) (af ast ae bf bs be : Int) (I E J G : Option Addr) (n m n' m' ci ce cj cg : Nat) (p q : Bool) (w : World)
    (ha : Blk w g 53 #[.int .i64 af, .int .i64 ast, .int .i64 ae, .slice I n ci, .slice E m ce]) (hb : Blk w h 53 #[.int .i64 bf, .int .i64 bs, .int .i64 be, .slice J n' cj, .slice G m' cg])
    (h1 : ∀ w, Calls Try.prog 54 #[.agg #[.int .i64 af, .int .i64 ast, .int .i64 ae, .slice I n ci, .slice E m ce]] w fun e w' => e = .returned (.bool p) ∧ Ext w w')
    (h2 : ∀ w, Calls Try.prog 54 #[.agg #[.int .i64 bf, .int .i64 bs, .int .i64 be, .slice J n' cj, .slice G m' cg]] w fun e w' => e = .returned (.bool q) ∧ Ext w w') :
    Calls Try.prog 52 #[.func (.func 54) #[] #[], .pointer (some ⟨g, 0, none⟩), .pointer (some ⟨h, 0, none⟩)] w fun e w' => e = .returned (.bool (p || q)) ∧ Ext w w' := by
  have hca := ha.cell
  have hcb := hb.cell
  have HB := hide hb
  have H1 := hide h1
  have H2 := hide h2
  clear ha hb h1 h2
  go_enter Try.func52, Try.ntmps52
  go_wp2_with fail
  refine (H1.out _).mono ?_
  rintro e w1 ⟨rfl, he⟩
  have hcb := (HB.out.ext he).cell
  have HX := hide he
  clear he hca
  cases p
  · go_wp2_with fail
    refine (H2.out _).mono ?_
    rintro e w2 ⟨rfl, he⟩
    have HX := hide (HX.out.trans he)
    clear he hcb
    go_wp2_with fail
    go_ret
    exact ⟨ret_bool (by simp), HX.out⟩
  · go_wp2_with fail
    go_ret
    exact ⟨rfl, HX.out⟩
set_option maxRecDepth 100000 in
theorem one4_any (g h : Nat) (af ast ae bf bs be : Int) (I E J G : Option Addr) (n m n' m' ci ce cj cg : Nat) (p q : Bool) (w : World)
    (ha : Blk w g 53 #[.int .i64 af, .int .i64 ast, .int .i64 ae, .slice I n ci, .slice E m ce]) (hb : Blk w h 53 #[.int .i64 bf, .int .i64 bs, .int .i64 be, .slice J n' cj, .slice G m' cg])
    (h1 : ∀ w, Calls Try.prog 55 #[.agg #[.int .i64 af, .int .i64 ast, .int .i64 ae, .slice I n ci, .slice E m ce]] w fun e w' => e = .returned (.bool p) ∧ Ext w w')
    (h2 : ∀ w, Calls Try.prog 55 #[.agg #[.int .i64 bf, .int .i64 bs, .int .i64 be, .slice J n' cj, .slice G m' cg]] w fun e w' => e = .returned (.bool q) ∧ Ext w w') :
    Calls Try.prog 52 #[.func (.func 55) #[] #[], .pointer (some ⟨g, 0, none⟩), .pointer (some ⟨h, 0, none⟩)] w fun e w' => e = .returned (.bool (p || q)) ∧ Ext w w' := by
  have hca := ha.cell
  have hcb := hb.cell
  have HB := hide hb
  have H1 := hide h1
  have H2 := hide h2
  clear ha hb h1 h2
  go_enter Try.func52, Try.ntmps52
  go_wp2_with fail
  refine (H1.out _).mono ?_
  rintro e w1 ⟨rfl, he⟩
  have hcb := (HB.out.ext he).cell
  have HX := hide he
  clear he hca
  cases p
  · go_wp2_with fail
    refine (H2.out _).mono ?_
    rintro e w2 ⟨rfl, he⟩
    have HX := hide (HX.out.trans he)
    clear he hcb
    go_wp2_with fail
    go_ret
    exact ⟨ret_bool (by simp), HX.out⟩
  · go_wp2_with fail
    go_ret
    exact ⟨rfl, HX.out⟩
set_option maxRecDepth 100000 in
set_option maxHeartbeats 1000000 in
theorem judge_any (a b : Out) (u v : Value) (ok : Bool) (w : World) (hu : OutV a u w) (hv : OutV b v w) :
    Calls Try.prog 33 #[u, v, .bool ok] w fun e w' => e = .returned (.agg #[.int .i64 (causeL a b ok), .int .i64 (wrap64 (wrap64 (a.steps + b.steps) + 1))]) ∧ Ext w w' := by
  obtain ⟨I, ci, E, ce, rfl, s1, s2⟩ := hu
  obtain ⟨J, cj, G, cg, rfl, s3, s4⟩ := hv
  obtain ⟨af, ast, ae, ai, ax⟩ := a
  obtain ⟨bf, bs, be, bi, bx⟩ := b
  simp only at s1 s2 s3 s4 ⊢
  have hA := (((Blk.new w 53 #[.int .i64 af, .int .i64 ast, .int .i64 ae, .slice I ai.length ci, .slice E ax.length ce]).alloc (.cells #[.int .i64 bf, .int .i64 bs, .int .i64 be, .slice J bi.length cj, .slice G bx.length cg] 53)).alloc (.cells #[.int .i64 0, .int .i64 0] 66)).alloc (.cells #[.int .i64 0, .int .i64 (wrap64 (wrap64 (ast + bs) + 1))] 66)
  have hB := ((Blk.new (w.alloc (.cells #[.int .i64 af, .int .i64 ast, .int .i64 ae, .slice I ai.length ci, .slice E ax.length ce] 53)) 53 #[.int .i64 bf, .int .i64 bs, .int .i64 be, .slice J bi.length cj, .slice G bx.length cg]).alloc (.cells #[.int .i64 0, .int .i64 0] 66)).alloc (.cells #[.int .i64 0, .int .i64 (wrap64 (wrap64 (ast + bs) + 1))] 66)
  have hR := (Blk.new ((w.alloc (.cells #[.int .i64 af, .int .i64 ast, .int .i64 ae, .slice I ai.length ci, .slice E ax.length ce] 53)).alloc (.cells #[.int .i64 bf, .int .i64 bs, .int .i64 be, .slice J bi.length cj, .slice G bx.length cg] 53)) 66 #[.int .i64 0, .int .i64 0]).alloc (.cells #[.int .i64 0, .int .i64 (wrap64 (wrap64 (ast + bs) + 1))] 66)
  have hV := Blk.new (((w.alloc (.cells #[.int .i64 af, .int .i64 ast, .int .i64 ae, .slice I ai.length ci, .slice E ax.length ce] 53)).alloc (.cells #[.int .i64 bf, .int .i64 bs, .int .i64 be, .slice J bi.length cj, .slice G bx.length cg] 53)).alloc (.cells #[.int .i64 0, .int .i64 0] 66)) 66 #[.int .i64 0, .int .i64 (wrap64 (wrap64 (ast + bs) + 1))]
  have he := (((Ext.alloc w (.cells #[.int .i64 af, .int .i64 ast, .int .i64 ae, .slice I ai.length ci, .slice E ax.length ce] 53)).alloc' (.cells #[.int .i64 bf, .int .i64 bs, .int .i64 be, .slice J bi.length cj, .slice G bx.length cg] 53)).alloc' (.cells #[.int .i64 0, .int .i64 0] 66)).alloc' (.cells #[.int .i64 0, .int .i64 (wrap64 (wrap64 (ast + bs) + 1))] 66)
  simp only [World.size_alloc] at hA hB hR hV
  have HS1 := hide (s1.ext he)
  have HS2 := hide (s2.ext he)
  have HS3 := hide (s3.ext he)
  have HS4 := hide (s4.ext he)
  have HA := hide hA
  have HB := hide hB
  have HR := hide hR
  have HV := hide hV
  have HX := hide he
  obtain ⟨q1, hq1⟩ : ∃ t, ((af == 1) || ((af == 0) && (ae != 0))) = t := ⟨_, rfl⟩
  obtain ⟨q2, hq2⟩ : ∃ t, ((bf == 1) || ((bf == 0) && (be != 0))) = t := ⟨_, rfl⟩
  obtain ⟨r1, hr1⟩ : ∃ t, ((af == 2) || ((af == 0) && decide (4000 < ast))) = t := ⟨_, rfl⟩
  obtain ⟨r2, hr2⟩ : ∃ t, ((bf == 2) || ((bf == 0) && decide (4000 < bs))) = t := ⟨_, rfl⟩
  obtain ⟨u1, hu1⟩ : ∃ t, (af == 3) = t := ⟨_, rfl⟩
  obtain ⟨u2, hu2⟩ : ∃ t, (bf == 3) = t := ⟨_, rfl⟩
  obtain ⟨m1, hm1⟩ : ∃ t, (ai == bi) = t := ⟨_, rfl⟩
  obtain ⟨m2, hm2⟩ : ∃ t, (ax == bx) = t := ⟨_, rfl⟩
  obtain ⟨Q, hQ⟩ : ∃ t, (q1 || q2) = t := ⟨_, rfl⟩
  obtain ⟨R, hR'⟩ : ∃ t, (r1 || r2) = t := ⟨_, rfl⟩
  obtain ⟨U, hU⟩ : ∃ t, (u1 || u2) = t := ⟨_, rfl⟩
  have HQ := hide hQ
  have HRR := hide hR'
  have HU := hide hU
  have HCL := hide (show causeL ⟨af, ast, ae, ai, ax⟩ ⟨bf, bs, be, bi, bx⟩ ok = if Q then 1 else if R then 2 else if U then 3 else if ok = false then 4 else if !m1 || !m2 then 5 else 0 by
    unfold causeL stopd hangs touches; simp only [hq1, hq2, hr1, hr2, hu1, hu2, hm1, hm2, hQ, hR', hU])
  rw [HCL.out]
  have J1 := hide (fun w => by have := j2_any af ast ae I E ai.length ax.length ci ce w; rw [hq1] at this; exact this)
  have J2 := hide (fun w => by have := j2_any bf bs be J G bi.length bx.length cj cg w; rw [hq2] at this; exact this)
  have K1 := hide (fun w => by have := j3_any af ast ae I E ai.length ax.length ci ce w; rw [hr1] at this; exact this)
  have K2 := hide (fun w => by have := j3_any bf bs be J G bi.length bx.length cj cg w; rw [hr2] at this; exact this)
  have L1 := hide (fun w => by have := j4_any af ast ae I E ai.length ax.length ci ce w; rw [hu1] at this; exact this)
  have L2 := hide (fun w => by have := j4_any bf bs be J G bi.length bx.length cj cg w; rw [hu2] at this; exact this)
  have HM1 := hide hm1
  have HM2 := hide hm2
  clear hA hB hR hV he s1 s2 s3 s4 hq1 hq2 hr1 hr2 hu1 hu2 hm1 hm2 hQ hR' hU
  go_enter Try.func33, Try.ntmps33
  go_wp2_with fail
  generalize hwb : (((w.alloc (.cells #[.int .i64 af, .int .i64 ast, .int .i64 ae, .slice I ai.length ci, .slice E ax.length ce] 53)).alloc (.cells #[.int .i64 bf, .int .i64 bs, .int .i64 be, .slice J bi.length cj, .slice G bx.length cg] 53)).alloc (.cells #[.int .i64 0, .int .i64 0] 66)).alloc (.cells #[.int .i64 0, .int .i64 (wrap64 (wrap64 (ast + bs) + 1))] 66) = wb at *
  clear hwb
  have h1 := one2_any _ _ _ _ _ _ _ _ _ _ _ _ _ _ _ _ _ _ _ _ _ _ _ HA.out HB.out J1.out J2.out
  rw [HQ.out] at h1
  refine h1.mono ?_
  clear h1
  rintro e w1 ⟨rfl, he⟩
  have HA := hide (HA.out.ext he)
  have HB := hide (HB.out.ext he)
  have HR := hide (HR.out.ext he)
  have HV := hide (HV.out.ext he)
  have HX := hide (HX.out.trans he)
  have HS1 := hide (HS1.out.ext he)
  have HS2 := hide (HS2.out.ext he)
  have HS3 := hide (HS3.out.ext he)
  have HS4 := hide (HS4.out.ext he)
  have hcV := HV.out.cell
  have hfV := HV.out.frozen
  have hcR := HR.out.cell
  have hfR := HR.out.frozen
  have hcA := HA.out.cell
  have hcB := HB.out.cell
  clear he
  cases Q
  rotate_left 1
  · go_wp2_with fail
    have hset := (HR.out.far (p := ⟨w.heap.size + 1 + 1 + 1, 0, none⟩) (by simp) (.int .i64 1)).set 0 (.int .i64 1) |>.set 1 (.int .i64 (wrap64 (wrap64 (ast + bs) + 1)))
    have hcc := hset.cell
    refine bodyPost_ret (v := .agg #[.int .i64 1, .int .i64 (wrap64 (wrap64 (ast + bs) + 1))]) (by simp [results, Try.results33, go_sem, hcc]) rfl ?_
    exact ⟨rfl, ((HX.out.set (p := ⟨w.heap.size + 1 + 1 + 1, 0, none⟩) (by simp; omega) (.int .i64 1)).set (p := ⟨w.heap.size + 1 + 1, 0, none⟩) (by simp; omega) _).set (p := ⟨w.heap.size + 1 + 1, 1, none⟩) (by simp; omega) _⟩
  go_wp2_with fail
  have h1 := one3_any _ _ _ _ _ _ _ _ _ _ _ _ _ _ _ _ _ _ _ _ _ _ _ HA.out HB.out K1.out K2.out
  rw [HRR.out] at h1
  refine h1.mono ?_
  clear h1
  rintro e w2 ⟨rfl, he⟩
  have HA := hide (HA.out.ext he)
  have HB := hide (HB.out.ext he)
  have HR := hide (HR.out.ext he)
  have HV := hide (HV.out.ext he)
  have HX := hide (HX.out.trans he)
  have HS1 := hide (HS1.out.ext he)
  have HS2 := hide (HS2.out.ext he)
  have HS3 := hide (HS3.out.ext he)
  have HS4 := hide (HS4.out.ext he)
  have hcV := HV.out.cell
  have hfV := HV.out.frozen
  have hcR := HR.out.cell
  have hfR := HR.out.frozen
  have hcA := HA.out.cell
  have hcB := HB.out.cell
  clear he
  cases R
  rotate_left 1
  · go_wp2_with fail
    have hset := (HR.out.far (p := ⟨w.heap.size + 1 + 1 + 1, 0, none⟩) (by simp) (.int .i64 2)).set 0 (.int .i64 2) |>.set 1 (.int .i64 (wrap64 (wrap64 (ast + bs) + 1)))
    have hcc := hset.cell
    refine bodyPost_ret (v := .agg #[.int .i64 2, .int .i64 (wrap64 (wrap64 (ast + bs) + 1))]) (by simp [results, Try.results33, go_sem, hcc]) rfl ?_
    exact ⟨rfl, ((HX.out.set (p := ⟨w.heap.size + 1 + 1 + 1, 0, none⟩) (by simp; omega) (.int .i64 2)).set (p := ⟨w.heap.size + 1 + 1, 0, none⟩) (by simp; omega) _).set (p := ⟨w.heap.size + 1 + 1, 1, none⟩) (by simp; omega) _⟩
  go_wp2_with fail
  have h1 := one4_any _ _ _ _ _ _ _ _ _ _ _ _ _ _ _ _ _ _ _ _ _ _ _ HA.out HB.out L1.out L2.out
  rw [HU.out] at h1
  refine h1.mono ?_
  clear h1
  rintro e w3 ⟨rfl, he⟩
  have HA := hide (HA.out.ext he)
  have HB := hide (HB.out.ext he)
  have HR := hide (HR.out.ext he)
  have HV := hide (HV.out.ext he)
  have HX := hide (HX.out.trans he)
  have HS1 := hide (HS1.out.ext he)
  have HS2 := hide (HS2.out.ext he)
  have HS3 := hide (HS3.out.ext he)
  have HS4 := hide (HS4.out.ext he)
  have hcV := HV.out.cell
  have hfV := HV.out.frozen
  have hcR := HR.out.cell
  have hfR := HR.out.frozen
  have hcA := HA.out.cell
  have hcB := HB.out.cell
  clear he
  cases U
  rotate_left 1
  · go_wp2_with fail
    have hset := (HR.out.far (p := ⟨w.heap.size + 1 + 1 + 1, 0, none⟩) (by simp) (.int .i64 3)).set 0 (.int .i64 3) |>.set 1 (.int .i64 (wrap64 (wrap64 (ast + bs) + 1)))
    have hcc := hset.cell
    refine bodyPost_ret (v := .agg #[.int .i64 3, .int .i64 (wrap64 (wrap64 (ast + bs) + 1))]) (by simp [results, Try.results33, go_sem, hcc]) rfl ?_
    exact ⟨rfl, ((HX.out.set (p := ⟨w.heap.size + 1 + 1 + 1, 0, none⟩) (by simp; omega) (.int .i64 3)).set (p := ⟨w.heap.size + 1 + 1, 0, none⟩) (by simp; omega) _).set (p := ⟨w.heap.size + 1 + 1, 1, none⟩) (by simp; omega) _⟩
  cases ok
  · go_wp2_with fail
    have hset := (HR.out.far (p := ⟨w.heap.size + 1 + 1 + 1, 0, none⟩) (by simp) (.int .i64 4)).set 0 (.int .i64 4) |>.set 1 (.int .i64 (wrap64 (wrap64 (ast + bs) + 1)))
    have hcc := hset.cell
    refine bodyPost_ret (v := .agg #[.int .i64 4, .int .i64 (wrap64 (wrap64 (ast + bs) + 1))]) (by simp [results, Try.results33, go_sem, hcc]) rfl ?_
    exact ⟨rfl, ((HX.out.set (p := ⟨w.heap.size + 1 + 1 + 1, 0, none⟩) (by simp; omega) (.int .i64 4)).set (p := ⟨w.heap.size + 1 + 1, 0, none⟩) (by simp; omega) _).set (p := ⟨w.heap.size + 1 + 1, 1, none⟩) (by simp; omega) _⟩
  go_wp2_with fail
  have h1 := equal_any _ _ _ _ _ _ _ HS1.out HS3.out
  rw [HM1.out] at h1
  refine h1.mono ?_
  clear h1
  rintro e w4 ⟨rfl, rfl⟩
  cases m1
  · go_wp2_with fail
    have hset := (HR.out.far (p := ⟨w.heap.size + 1 + 1 + 1, 0, none⟩) (by simp) (.int .i64 5)).set 0 (.int .i64 5) |>.set 1 (.int .i64 (wrap64 (wrap64 (ast + bs) + 1)))
    have hcc := hset.cell
    refine bodyPost_ret (v := .agg #[.int .i64 5, .int .i64 (wrap64 (wrap64 (ast + bs) + 1))]) (by simp [results, Try.results33, go_sem, hcc]) rfl ?_
    exact ⟨rfl, ((HX.out.set (p := ⟨w.heap.size + 1 + 1 + 1, 0, none⟩) (by simp; omega) (.int .i64 5)).set (p := ⟨w.heap.size + 1 + 1, 0, none⟩) (by simp; omega) _).set (p := ⟨w.heap.size + 1 + 1, 1, none⟩) (by simp; omega) _⟩
  go_wp2_with fail
  have h1 := equal_any _ _ _ _ _ _ _ HS2.out HS4.out
  rw [HM2.out] at h1
  refine h1.mono ?_
  clear h1
  rintro e w4 ⟨rfl, rfl⟩
  cases m2
  · go_wp2_with fail
    have hset := (HR.out.far (p := ⟨w.heap.size + 1 + 1 + 1, 0, none⟩) (by simp) (.int .i64 5)).set 0 (.int .i64 5) |>.set 1 (.int .i64 (wrap64 (wrap64 (ast + bs) + 1)))
    have hcc := hset.cell
    refine bodyPost_ret (v := .agg #[.int .i64 5, .int .i64 (wrap64 (wrap64 (ast + bs) + 1))]) (by simp [results, Try.results33, go_sem, hcc]) rfl ?_
    exact ⟨rfl, ((HX.out.set (p := ⟨w.heap.size + 1 + 1 + 1, 0, none⟩) (by simp; omega) (.int .i64 5)).set (p := ⟨w.heap.size + 1 + 1, 0, none⟩) (by simp; omega) _).set (p := ⟨w.heap.size + 1 + 1, 1, none⟩) (by simp; omega) _⟩
  go_wp2_with fail
  have hset := HR.out.set 0 (.int .i64 0) |>.set 1 (.int .i64 (wrap64 (wrap64 (ast + bs) + 1)))
  have hcc := hset.cell
  refine bodyPost_ret (v := .agg #[.int .i64 0, .int .i64 (wrap64 (wrap64 (ast + bs) + 1))]) (by simp [results, Try.results33, go_sem, hcc]) rfl ?_
  exact ⟨rfl, (HX.out.set (p := ⟨w.heap.size + 1 + 1, 0, none⟩) (by simp; omega) _).set (p := ⟨w.heap.size + 1 + 1, 1, none⟩) (by simp; omega) _⟩
end Go.Proofs.Ytfcmngiekdhfpaa
