/-
  Cut out of an elder text of mine (AttA) by cutdecl.py.
-/
import Derived.Test.YtfjddphjjhhjpaaDoorSeq
import Derived.Test.YtfjddphjjhhjpaaDoorVoc
import Derived.Test.YtfjddphjjhhjpaaDoorSeqIn
import Derived.Test.YtfjddphjjhhjpaaDoorFcImgA
import Derived.Test.YtfjddphjjhhjpaaDoorFcChg
import Derived.Test.YtfjddphjjhhjpaaDoorFcImgB
import Derived.Test.YtfjddphjjhhjpaaDoorFcEqA
import Derived.Test.YtfjddphjjhhjpaaDoorFcLawD
namespace Go.Proofs.YtfjddphjjhhjpaaDoor
open Go.RowKit
set_option linter.unusedVariables false


def inB (n l m : Int) : Bool := decide (l ≤ n) && decide (n ≤ m)
theorem in_any (n l m : Int) (w : World) : Calls Tryd.prog 39 #[.int .i64 n, .int .i64 l, .int .i64 m] w fun e w' => e = .returned (.bool (inB n l m)) ∧ w = w' := by
  obtain ⟨p, hp⟩ : ∃ p, decide (l ≤ n) = p := ⟨_, rfl⟩
  obtain ⟨q, hq⟩ : ∃ q, decide (n ≤ m) = q := ⟨_, rfl⟩
  have HP := hide hp
  have HQ := hide hq
  go_enter Tryd.func39, Tryd.ntmps39
  cases p
  · go_wp2_with fail
    go_ret
    exact ⟨ret_bool (by unfold inB; rw [HP.out]; rfl), rfl⟩
  · go_wp2_with fail
    go_ret
    exact ⟨ret_bool (by unfold inB; rw [HP.out, HQ.out]; rfl), rfl⟩
theorem within_any (n l m : Int) (w : World) : Calls Tryd.prog 45 #[.int .i64 n, .int .i64 l, .int .i64 m] w fun e w' => e = .returned (.bool (inB n l m)) ∧ w = w' := by
  obtain ⟨p, hp⟩ : ∃ p, decide (l ≤ n) = p := ⟨_, rfl⟩
  obtain ⟨q, hq⟩ : ∃ q, decide (n ≤ m) = q := ⟨_, rfl⟩
  have HP := hide hp
  have HQ := hide hq
  go_enter Tryd.func45, Tryd.ntmps45
  cases p
  · go_wp2_with fail
    go_ret
    exact ⟨ret_bool (by unfold inB; rw [HP.out]; rfl), rfl⟩
  · go_wp2_with fail
    go_ret
    exact ⟨ret_bool (by unfold inB; rw [HP.out, HQ.out]; rfl), rfl⟩
theorem flips_any (n : Int) (w : World) : Calls Tryd.prog 40 #[.int .i64 n] w fun e w' => e = .returned (.bool (inB n 4 7)) ∧ w = w' := by
  go_enter Tryd.func40, Tryd.ntmps40
  go_wp2_with (go_at_call 39; refine (in_any _ _ _ _).mono ?_; rintro e w' ⟨rfl, rfl⟩)
  go_ret
  exact ⟨rfl, rfl⟩
/-- An outcome. -/
structure Out where
  fin : Int
  steps : Int
  err : Int
  img : List UInt8
  eff : List UInt8
def OutV (o : Out) (v : Value) (w : World) : Prop :=
  ∃ I ci E ce, v = .agg #[.int .i64 o.fin, .int .i64 o.steps, .int .i64 o.err, .slice I o.img.length ci, .slice E o.eff.length ce] ∧ Sl w I ci o.img ∧ Sl w E ce o.eff
theorem OutV.ext {o : Out} {v : Value} {w w' : World} (h : OutV o v w) (he : Ext w w') : OutV o v w' := let ⟨I, ci, E, ce, h1, h2, h3⟩ := h; ⟨I, ci, E, ce, h1, h2.ext he, h3.ext he⟩
theorem few_any (f s e : Int) (I E : Option Addr) (ci ce n m : Nat) (hn : n ≤ 9223372036854775807) (hm : m ≤ 9223372036854775807) (h : n + m ≤ 9223372036854775807) (w : World) :
    Calls Tryd.prog 26 #[.agg #[.int .i64 f, .int .i64 s, .int .i64 e, .slice I n ci, .slice E m ce]] w fun e w' => e = .returned (.bool (decide (n + m ≤ 400))) ∧ Ext w w' := by
  have hc := (Blk.new w 61 #[.int .i64 f, .int .i64 s, .int .i64 e, .slice I n ci, .slice E m ce]).cell
  go_enter Tryd.func26, Tryd.ntmps26
  go_wp2
  go_ret
  exact ⟨ret_bool (by rw [Bool.eq_iff_iff]; simp; omega), Ext.alloc w _⟩

def outEq (a b : Out) : Bool := (a.fin == b.fin) && ((a.steps == b.steps) && ((a.err == b.err) && ((a.img == b.img) && (a.eff == b.eff))))
set_option maxRecDepth 100000 in
theorem equal27_any (a b : Out) (u v : Value) (w : World) (hu : OutV a u w) (hv : OutV b v w) : Calls Tryd.prog 29 #[u, v] w fun e w' => e = .returned (.bool (outEq a b)) ∧ Ext w w' := by
  obtain ⟨I, ci, E, ce, rfl, s1, s2⟩ := hu
  obtain ⟨J, cj, G, cg, rfl, s3, s4⟩ := hv
  obtain ⟨af, ast, ae, ai, ax⟩ := a
  obtain ⟨bf, bs, be, bi, bx⟩ := b
  simp only at s1 s2 s3 s4 ⊢
  obtain ⟨t1, ht1⟩ : ∃ t, (af == bf) = t := ⟨_, rfl⟩
  obtain ⟨t2, ht2⟩ : ∃ t, (ast == bs) = t := ⟨_, rfl⟩
  obtain ⟨t3, ht3⟩ : ∃ t, (ae == be) = t := ⟨_, rfl⟩
  obtain ⟨t4, ht4⟩ : ∃ t, (ai == bi) = t := ⟨_, rfl⟩
  obtain ⟨t5, ht5⟩ : ∃ t, (ax == bx) = t := ⟨_, rfl⟩
  have hE : outEq ⟨af, ast, ae, ai, ax⟩ ⟨bf, bs, be, bi, bx⟩ = (t1 && (t2 && (t3 && (t4 && t5)))) := by unfold outEq; simp only [ht1, ht2, ht3, ht4, ht5]
  rw [hE]
  have he : Ext w ((w.alloc (.cells #[.int .i64 af, .int .i64 ast, .int .i64 ae, .slice I ai.length ci, .slice E ax.length ce] 61)).alloc (.cells #[.int .i64 bf, .int .i64 bs, .int .i64 be, .slice J bi.length cj, .slice G bx.length cg] 61)) := (Ext.alloc w _).alloc' _
  have hc1 := ((Blk.new w 61 #[.int .i64 af, .int .i64 ast, .int .i64 ae, .slice I ai.length ci, .slice E ax.length ce]).alloc (.cells #[.int .i64 bf, .int .i64 bs, .int .i64 be, .slice J bi.length cj, .slice G bx.length cg] 61)).cell
  have hc2 := (Blk.new (w.alloc (.cells #[.int .i64 af, .int .i64 ast, .int .i64 ae, .slice I ai.length ci, .slice E ax.length ce] 61)) 61 #[.int .i64 bf, .int .i64 bs, .int .i64 be, .slice J bi.length cj, .slice G bx.length cg]).cell
  have k1 := (s1.ext he).convert (P := Tryd.prog) (src := 39) (dst := 9) Tryd.underlying39 Tryd.underlying5 Tryd.underlying9
  have k2 := (s2.ext he).convert (P := Tryd.prog) (src := 39) (dst := 9) Tryd.underlying39 Tryd.underlying5 Tryd.underlying9
  have k3 := (s3.ext he).convert (P := Tryd.prog) (src := 39) (dst := 9) Tryd.underlying39 Tryd.underlying5 Tryd.underlying9
  have k4 := (s4.ext he).convert (P := Tryd.prog) (src := 39) (dst := 9) Tryd.underlying39 Tryd.underlying5 Tryd.underlying9
  have HE := hide he
  clear s1 s2 s3 s4 he hE
  go_enter Tryd.func29, Tryd.ntmps29
  cases t1
  · go_wp2_with fail
    go_ret
    exact ⟨ret_bool (by simp), HE.out⟩
  cases t2
  · go_wp2_with fail
    go_ret
    exact ⟨ret_bool (by simp), HE.out⟩
  cases t3
  · go_wp2_with fail
    go_ret
    exact ⟨ret_bool (by simp), HE.out⟩
  cases t4
  · go_wp2_with fail
    go_ret
    exact ⟨ret_bool (by simp), HE.out⟩
  go_wp2_with fail
  go_ret
  exact ⟨ret_bool (by simp), HE.out⟩
end Go.Proofs.YtfjddphjjhhjpaaDoor
