/-
  FaultDevice: SameMsg.
-/
import Derived.Test.YtfjddphjjhhjpaaDoorFauM
import Derived.ChangeKeysEq
namespace Go.Proofs.YtfjddphjjhhjpaaDoor
open Go.RowKit
set_option linter.unusedVariables false

theorem eq4 (a b c z a' b' c' z' : Int) (w : World) : (Op.equalIn 10000 49 (.agg #[.int .i64 a, .int .i64 b, .int .i64 c, .int .i64 z]) (.agg #[.int .i64 a', .int .i64 b', .int .i64 c', .int .i64 z'])).run Tryd.prog w = .ok ((a == a') && ((b == b') && ((c == c') && (z == z')))) w := by
  obtain ⟨i, hi⟩ : ∃ i, Tryd.prog.info? 3 = some i := Option.isSome_iff_exists.1 (by kernel_rfl)
  have hp : Tryd.prog.plainKey 3 = true := by kernel_rfl
  have hC : Tryd.prog.cellsOf 3 = 1 := by kernel_rfl
  rw [show (10000 : Nat) = 9999 + 1 from rfl, run_equalIn_array w 9999 _ _ Tryd.underlying49 hi, hC]
  have st : ∀ (xs ys : Array Value) (j : Nat) (p q : Int) (is : List Nat), xs[j]? = some (.int .i64 p) → ys[j]? = some (.int .i64 q) →
      (Op.eqItems 9999 3 1 xs ys (j :: is)).run Tryd.prog w = if (p == q) then (Op.eqItems 9999 3 1 xs ys is).run Tryd.prog w else .ok false w := fun xs ys j p q is h1 h2 => by
    have p1 := run_part_plain w hp (off := j * 1) (xs := xs) (by rw [Nat.mul_one]; exact h1)
    have p2 := run_part_plain w hp (off := j * 1) (xs := ys) (by rw [Nat.mul_one]; exact h2)
    have p3 := run_equalIn_int w 9998 3 .i64 .i64 p q Tryd.underlying3
    simp only [Op.eqItems, Sem.run_bind, p1, p2, p3, Result.andThen_ok]
    cases p == q <;> simp
  show (Op.eqItems 9999 3 1 _ _ [0, 1, 2, 3]).run Tryd.prog w = _
  rw [st _ _ 0 a a' _ rfl rfl, st _ _ 1 b b' _ rfl rfl, st _ _ 2 c c' _ rfl rfl, st _ _ 3 z z' _ rfl rfl]
  cases a == a' <;> cases b == b' <;> cases c == c' <;> cases z == z' <;> simp [Op.eqItems]
/-- A message. -/
structure Mg where
  s : Int
  d : Int
  k : Int
  q : Int
  a : Int
  b : Int
  c : Int
  z : Int
  l : List UInt8
def MgV (x : Mg) (v : Value) (w : World) : Prop :=
  ∃ A cap, v = .agg #[.int .i64 x.s, .int .i64 x.d, .int .i64 x.k, .int .i64 x.q, .int .i64 x.a, .int .i64 x.b, .int .i64 x.c, .int .i64 x.z, .slice A x.l.length cap] ∧ Sl w A cap x.l
theorem MgV.ext {x : Mg} {v : Value} {w w' : World} (h : MgV x v w) (he : Ext w w') : MgV x v w' := let ⟨A, c, h1, h2⟩ := h; ⟨A, c, h1, h2.ext he⟩
def sameM (x y : Mg) : Bool := (x.s == y.s) && ((x.d == y.d) && ((x.k == y.k) && ((x.q == y.q) && (((x.a == y.a) && ((x.b == y.b) && ((x.c == y.c) && (x.z == y.z)))) && (x.l == y.l)))))
theorem sameM_refl (x : Mg) : sameM x x = true := by unfold sameM; simp

set_option maxRecDepth 100000 in
set_option maxHeartbeats 1000000 in
theorem same01_any (A B : Option Addr) (ca cb : Nat) (l m : List UInt8) (w : World) (h1 : Sl w A ca l) (h2 : Sl w B cb m) : Calls Tryd.prog 47 #[.slice A l.length ca, .slice B m.length cb] w fun e w' => e = .returned (.bool (l == m)) ∧ w = w' := by
  have k1 := conv_at rfl h1
  have k2 := conv_at rfl h2
  clear h1 h2
  go_enter Tryd.func47, Tryd.ntmps47
  go_wp2
  go_ret
  exact ⟨ret_bool (by simp), rfl⟩
set_option maxRecDepth 100000 in
set_option maxHeartbeats 16000000 in
theorem samemsg_any (x y : Mg) (u v : Value) (w : World) (hu : MgV x u w) (hv : MgV y v w) : Calls Tryd.prog 23 #[u, v] w fun e w' => e = .returned (.bool (sameM x y)) ∧ Ext w w' := by
  obtain ⟨I, ci, rfl, s1⟩ := hu
  obtain ⟨J, cj, rfl, s2⟩ := hv
  obtain ⟨xs, xd, xk, xq, xa, xb, xc, xz, xl⟩ := x
  obtain ⟨ys, yd, yk, yq, ya, yb, yc, yz, yl⟩ := y
  simp only at s1 s2 ⊢
  have he : Ext w ((w.alloc (.cells #[.int .i64 xs, .int .i64 xd, .int .i64 xk, .int .i64 xq, .int .i64 xa, .int .i64 xb, .int .i64 xc, .int .i64 xz, .slice I xl.length ci] 51)).alloc (.cells #[.int .i64 ys, .int .i64 yd, .int .i64 yk, .int .i64 yq, .int .i64 ya, .int .i64 yb, .int .i64 yc, .int .i64 yz, .slice J yl.length cj] 51)) := (Ext.alloc w _).alloc' _
  have hc1 := ((Blk.new w 51 #[.int .i64 xs, .int .i64 xd, .int .i64 xk, .int .i64 xq, .int .i64 xa, .int .i64 xb, .int .i64 xc, .int .i64 xz, .slice I xl.length ci]).alloc (.cells #[.int .i64 ys, .int .i64 yd, .int .i64 yk, .int .i64 yq, .int .i64 ya, .int .i64 yb, .int .i64 yc, .int .i64 yz, .slice J yl.length cj] 51)).cell
  have hc2 := (Blk.new (w.alloc (.cells #[.int .i64 xs, .int .i64 xd, .int .i64 xk, .int .i64 xq, .int .i64 xa, .int .i64 xb, .int .i64 xc, .int .i64 xz, .slice I xl.length ci] 51)) 51 #[.int .i64 ys, .int .i64 yd, .int .i64 yk, .int .i64 yq, .int .i64 ya, .int .i64 yb, .int .i64 yc, .int .i64 yz, .slice J yl.length cj]).cell
  have K1 := hide (same01_any I J ci cj xl yl _ (s1.ext he) (s2.ext he))
  obtain ⟨t1, ht1⟩ : ∃ t, (xs == ys) = t := ⟨_, rfl⟩
  obtain ⟨t2, ht2⟩ : ∃ t, (xd == yd) = t := ⟨_, rfl⟩
  obtain ⟨t3, ht3⟩ : ∃ t, (xk == yk) = t := ⟨_, rfl⟩
  obtain ⟨t4, ht4⟩ : ∃ t, (xq == yq) = t := ⟨_, rfl⟩
  obtain ⟨b1, hb1⟩ : ∃ t, (xa == ya) = t := ⟨_, rfl⟩
  obtain ⟨b2, hb2⟩ : ∃ t, (xb == yb) = t := ⟨_, rfl⟩
  obtain ⟨b3, hb3⟩ : ∃ t, (xc == yc) = t := ⟨_, rfl⟩
  obtain ⟨b4, hb4⟩ : ∃ t, (xz == yz) = t := ⟨_, rfl⟩
  have h4 := eq4 xa xb xc xz ya yb yc yz ((w.alloc (.cells #[.int .i64 xs, .int .i64 xd, .int .i64 xk, .int .i64 xq, .int .i64 xa, .int .i64 xb, .int .i64 xc, .int .i64 xz, .slice I xl.length ci] 51)).alloc (.cells #[.int .i64 ys, .int .i64 yd, .int .i64 yk, .int .i64 yq, .int .i64 ya, .int .i64 yb, .int .i64 yc, .int .i64 yz, .slice J yl.length cj] 51))
  rw [hb1, hb2, hb3, hb4] at h4
  obtain ⟨t5, ht5⟩ : ∃ t, (b1 && (b2 && (b3 && b4))) = t := ⟨_, rfl⟩
  rw [ht5] at h4
  obtain ⟨t6, ht6⟩ : ∃ t, (xl == yl) = t := ⟨_, rfl⟩
  have hE : sameM ⟨xs, xd, xk, xq, xa, xb, xc, xz, xl⟩ ⟨ys, yd, yk, yq, ya, yb, yc, yz, yl⟩ = (t1 && (t2 && (t3 && (t4 && (t5 && t6))))) := by unfold sameM; simp only [ht1, ht2, ht3, ht4, hb1, hb2, hb3, hb4, ht5, ht6]
  rw [hE]
  rw [ht6] at K1
  have HE := hide he
  clear s1 s2 he hE ht6
  go_enter Tryd.func23, Tryd.ntmps23
  cases t1
  · go_wp2_with fail
    all_goals (go_ret; exact ⟨ret_bool' (by simp_all), HE.out⟩)
  cases t2
  · go_wp2_with fail
    all_goals (go_ret; exact ⟨ret_bool' (by simp_all), HE.out⟩)
  cases t3
  · go_wp2_with fail
    all_goals (go_ret; exact ⟨ret_bool' (by simp_all), HE.out⟩)
  cases t4
  · go_wp2_with fail
    all_goals (go_ret; exact ⟨ret_bool' (by simp_all), HE.out⟩)
  clear ht5 hb1 hb2 hb3 hb4
  cases t5
  · go_wp2_with fail
    go_ret
    exact ⟨ret_bool' (by simp), HE.out⟩
  go_wp2_with (go_at_call 47; refine K1.out.mono ?_; rintro e w' ⟨rfl, rfl⟩)
  go_ret
  exact ⟨ret_bool' (by simp), HE.out⟩
end Go.Proofs.YtfjddphjjhhjpaaDoor
