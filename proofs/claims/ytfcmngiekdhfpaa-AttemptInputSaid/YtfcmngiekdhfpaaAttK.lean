/-
  The example that every statement of layer 28 checks first.
-/
import Derived.Test.YtfcmngiekdhfpaaAttI
import Derived.Test.YtfcmngiekdhfpaaAttJ
namespace Go.Proofs.Ytfcmngiekdhfpaa
open Go.RowKit
set_option linter.unusedVariables false

def z3 : List UInt8 := List.replicate 300 0
def z4 : List UInt8 := List.replicate 400 0
theorem z3_length : z3.length = 300 := List.length_replicate
theorem z4_length : z4.length = 400 := List.length_replicate
def awP : Pl := ⟨6, 1, 0, 1, 3, 0, 0⟩
theorem awP_valid : validPl awP = true := by decide
theorem aw28_cost : costN 300 400 5 = 14 := by decide
theorem aw28_out0 : outL awP 0 ⟨0, 14, 0, z4, []⟩ = ⟨1, 4, 0, [], []⟩ := by unfold outL; rw [awP_valid]; simp [awP]
theorem aw28_out1 : outL awP 1 ⟨0, 14, 0, z4, []⟩ = ⟨0, 14, 0, z4, []⟩ := by unfold outL; rw [awP_valid]; simp [awP]
theorem aw28_cause : causeL ⟨1, 4, 0, [], []⟩ ⟨0, 14, 0, z4, []⟩ true = 1 := by unfold causeL stopd; simp
theorem aw28_steps : wrap64 (wrap64 (4 + 14) + 1) = 19 := by unfold wrap64; omega
theorem wp_makeB {P : Program} {w : World} {o : Oper} {a : Act} {K : Act → World → Prop} {Q : Exit → Act → World → Prop} {t e : TypeId} (hT : ByteT P t e) (s c : Operand) (ho : o.op = .makeSlice t s c)
    (n : Nat) (hn : n ≤ 1073741824) (kl kc : IntKind) (hs : a.eval s = .int kl (n : Int)) (hc : a.eval c = .int kc (n : Int))
    (h : ∀ w', Own w' w.heap.size e (.slice (some ⟨w.heap.size, 0, none⟩) n n) (List.replicate n 0) → Ext w w' → K (a.put o.dst (.slice (some ⟨w.heap.size, 0, none⟩) n n)) w') : o.wp P a w K Q := by
  obtain ⟨w', hr, h1, h2⟩ := run_makeB (P := P) hT kl kc n hn w
  unfold Oper.wp execOp
  simp only [ho, Sem.run_bind, Sem.run_pure, hs, hc, hr, Result.andThen_ok]
  exact h w' h1 h2
theorem OutV.cast {o : Out} {f s e : Int} {I E : Option Addr} {n m ci ce : Nat} {w : World} (h : OutV o (.agg #[.int .i64 f, .int .i64 s, .int .i64 e, .slice I n ci, .slice E m ce]) w) : f = o.fin ∧ s = o.steps ∧ e = o.err ∧ n = o.img.length ∧ m = o.eff.length ∧ Sl w I ci o.img ∧ Sl w E ce o.eff := by
  obtain ⟨I', ci', E', ce', h1, h2, h3⟩ := h
  simp only [Value.agg.injEq, Array.mk.injEq, List.cons.injEq, Value.int.injEq, Value.slice.injEq, and_true, true_and] at h1
  obtain ⟨rfl, rfl, rfl, ⟨rfl, rfl, rfl⟩, rfl, rfl, rfl⟩ := h1
  exact ⟨rfl, rfl, rfl, rfl, rfl, h2, h3⟩
/-- Bytes do not lie in a block that holds none. -/
theorem Sl.off {w : World} {A : Option Addr} {c : Nat} {l : List UInt8} {g : Nat} {t : TypeId} {cs : Array Value} (h : Sl w A c l) (hb : Blk w g t cs) (hn : ∀ (i : Nat) (x : Int), cs[i]? ≠ some (.int .u8 x)) : l = [] ∨ ∀ a, A = some a → some a.block ≠ some g := by
  rcases h.rd with h0 | ⟨b, off, rfl, _, hc⟩
  · exact .inl h0
  · cases l with
    | nil => exact .inl rfl
    | cons x l =>
      refine .inr fun a ha e => ?_
      injection ha with ha
      subst ha
      injection e with e
      simp only at e
      subst e
      have := hc 0 (by simp)
      rw [hb.cell] at this
      exact hn _ _ this
theorem grown_set (w : World) (p : Addr) (u : Value) : w.grownBy (w.setCell p u) (some p.block) := ⟨rfl, rfl, rfl, by simp [World.setCell], fun k _ hk => Below.heap_setCell w p u k (fun e => hk (by rw [e]))⟩
theorem grown5 (w : World) (g : Nat) (a b c d e : Value) : w.grownBy (w5 w g a b c d e) (some g) :=
  grown_trans (grown_trans (grown_trans (grown_trans (grown_set w ⟨g, 0, none⟩ a) (grown_set _ ⟨g, 1, none⟩ b)) (grown_set _ ⟨g, 2, none⟩ c)) (grown_set _ ⟨g, 3, none⟩ d)) (grown_set _ ⟨g, 4, none⟩ e)
def noByte (v : Value) : Bool := match v with
  | .int .u8 _ => false
  | _ => true
theorem no_bytes {cs : Array Value} (h : cs.all noByte = true) (i : Nat) (x : Int) : cs[i]? ≠ some (.int .u8 x) := fun e => by
  rw [Array.all_eq_true_iff_forall_mem] at h
  have := h _ (Array.mem_of_getElem? e)
  simp [noByte] at this
theorem OutV.put5 {o : Out} {v : Value} {w : World} {g : Nat} {t : TypeId} {cs : Array Value} (h : OutV o v w) (hb : Blk w g t cs) (hn : cs.all noByte = true) (a b c d e : Value) : OutV o v (w5 w g a b c d e) := by
  obtain ⟨I, ci, E, ce, h1, h2, h3⟩ := h
  exact ⟨I, ci, E, ce, h1, h2.grown (grown5 w g a b c d e) (h2.off hb (no_bytes hn)), h3.grown (grown5 w g a b c d e) (h3.off hb (no_bytes hn))⟩
set_option maxRecDepth 100000 in
set_option maxHeartbeats 1000000 in
theorem awake28_any (w : World) : Calls Try.prog 25 #[] w fun e w' => e = .returned (.bool true) ∧ Ext w w' := by
  go_enter Try.func25, Try.ntmps25
  go_wp2_with fail
  refine wp_region_ext 4 3 [(0, ShSl 300, SlX 0 none z3), (1, ShSl 400, SlX 0 none z4), (2, ShOut ⟨0, 14, 0, z4, []⟩, OutV ⟨0, 14, 0, z4, []⟩),
      (3, fun v => ∃ g, v = .pointer (some ⟨g, 0, none⟩), fun v w' => ∃ g, v = .pointer (some ⟨g, 0, none⟩) ∧ w.heap.size ≤ g ∧ Blk w' g 53 #[.int .i64 0, .int .i64 0, .int .i64 0, .slice none 0 0, .slice none 0 0])] mixed (by kernel_rfl)
    ⟨fun _ _ _ h hx => h.grown (hx.grownBy _), fun _ _ _ h hx => h.grown (hx.grownBy _), fun _ _ _ h hx => h.ext hx, fun _ _ _ ⟨g, h1, h2, h3⟩ hx => ⟨g, h1, h2, h3.ext hx⟩, trivial⟩ ?_
  refine seq_opaque _ _ (by rfl) rfl ⟨_, none, 0, rfl⟩ (by simp) (fun w5 hU _ K hK => ?_) ?_
  · exact wp_makeB bt _ _ rfl 300 (by omega) .i64 .i64 rfl rfl fun w' h1 h2 => hK _ _ h2 ⟨_, _, rfl⟩ (by have := h1.slX (base' := 0) (r := none) (Nat.zero_le _) (fun k e => by cases e); rw [List.length_replicate] at this; exact this)
  rintro _ ⟨A1, c1, rfl⟩
  simp only [Act.put, List.setIfInBounds_toArray, List.set_cons_zero, List.set_cons_succ]
  refine seq_opaque _ _ (by rfl) rfl ⟨_, none, 0, rfl⟩ (by simp) (fun w5 hU _ K hK => ?_) ?_
  · exact wp_makeB bt _ _ rfl 400 (by omega) .i64 .i64 rfl rfl fun w' h1 h2 => hK _ _ h2 ⟨_, _, rfl⟩ (by have := h1.slX (base' := 0) (r := none) (Nat.zero_le _) (fun k e => by cases e); rw [List.length_replicate] at this; exact this)
  rintro _ ⟨A2, c2, rfl⟩
  simp only [Act.put, List.setIfInBounds_toArray, List.set_cons_zero, List.set_cons_succ]
  refine seq_opaque _ _ (by rfl) rfl ⟨_, none, 0, none, 0, rfl⟩ (by simp) (fun w5 hU hp K hK => ?_) ?_
  · have hs := SlX.sl (hp _ (.head _) (by kernel_rfl))
    clear hp
    have hn := normal_any A1 A2 none 300 c1 c2 0 z4 [] 5 w5 (by omega) hs (Sl.none_ _) (by rw [z4_length]; omega) (by simp) (by omega)
    rw [z4_length] at hn
    go_simp
    refine hn.mono ?_
    rintro e w6 ⟨u, rfl, h1, h2⟩
    have h1 : OutV ⟨0, 14, 0, z4, []⟩ u w6 := h1
    exact hK _ _ h2 h1.sh h1
  rintro _ ⟨I, ci, E, ce, rfl⟩
  simp only [Act.put, List.setIfInBounds_toArray, List.set_cons_zero, List.set_cons_succ]
  refine seq_opaque _ _ (by rfl) rfl ⟨_, 0, rfl⟩ (by simp) (fun w5 hU _ K hK => ?_) ?_
  · have hz := Ext.size hU.un
    go_simp
    exact hK _ _ (Ext.alloc w5 _) ⟨_, rfl⟩ ⟨_, rfl, hz, Blk.new w5 _ _⟩
  rintro _ ⟨g1, rfl⟩
  simp only [Act.put, List.setIfInBounds_toArray, List.set_cons_zero, List.set_cons_succ]
  intro w7 hw7 hp
  obtain ⟨_, e8, hg8, hb8⟩ := hp _ (.head _)
  injection e8 with e8
  injection e8 with e8
  injection e8 with e8
  subst e8
  have ho := hp _ (.tail _ (.head _))
  clear hp
  simp only [List.drop_succ_cons, List.drop_zero]
  have hcc := hb8.cell
  have hff := hb8.frozen
  have hO := ho.put5 hb8 (by simp [noByte]) (.int .i64 0) (.int .i64 14) (.int .i64 0) (.slice I z4.length ci) (.slice E 0 ce)
  have hset := hb8.put5 (.int .i64 0) (.int .i64 14) (.int .i64 0) (.slice I z4.length ci) (.slice E 0 ce)
  have hx := (Ext.un hw7).put5 hg8 (.int .i64 0) (.int .i64 14) (.int .i64 0) (.slice I z4.length ci) (.slice E 0 ce)
  unfold w5 at hO hset hx
  clear ho hb8 hw7
  go_wp2_with fail
  generalize hwa : ((((w7.setCell ⟨g1, 0, none⟩ (.int .i64 0)).setCell ⟨g1, 1, none⟩ (.int .i64 14)).setCell ⟨g1, 2, none⟩ (.int .i64 0)).setCell ⟨g1, 3, none⟩ (.slice I z4.length ci)).setCell ⟨g1, 4, none⟩ (.slice E 0 ce) = wa at *
  have hsz : w7.heap.size = wa.heap.size := by rw [← hwa]; simp [World.setCell]
  rw [hsz]
  clear hwa hsz hcc hff
  have hp := Blk.new wa 64 #[.int .i64 6, .int .i64 1, .int .i64 0, .int .i64 1, .int .i64 3, .int .i64 0, .int .i64 0]
  have he := Ext.alloc wa (.cells #[.int .i64 6, .int .i64 1, .int .i64 0, .int .i64 1, .int .i64 3, .int .i64 0, .int .i64 0] 64)
  have HP := hide hp
  have HO := hide (hO.ext he)
  have HB := hide (hset.ext he)
  have HX := hide (hx.trans he)
  clear hp hO hset hx
  generalize hwb : wa.alloc (.cells #[.int .i64 6, .int .i64 1, .int .i64 0, .int .i64 1, .int .i64 3, .int .i64 0, .int .i64 0] 64) = wb at *
  clear hwb he
  have HO : Hid (OutV ⟨0, 14, 0, z4, []⟩ (.agg #[.int .i64 0, .int .i64 14, .int .i64 0, .slice I z4.length ci, .slice E 0 ce]) wb) := HO
  have hl4 := z4_length
  refine wp_region_ext 8 3 [(2, ShOut ⟨1, 4, 0, [], []⟩, OutV ⟨1, 4, 0, [], []⟩), (5, ShOut ⟨0, 14, 0, z4, []⟩, OutV ⟨0, 14, 0, z4, []⟩), (6, fun v => v = .agg #[.int .i64 1, .int .i64 19], fun _ _ => True),
      (7, fun v => ∃ g, v = .pointer (some ⟨g, 0, none⟩), fun v w' => ∃ g, v = .pointer (some ⟨g, 0, none⟩) ∧ wb.heap.size ≤ g ∧ Blk w' g 66 #[.int .i64 0, .int .i64 0])] mixed (by kernel_rfl)
    ⟨fun _ _ _ h hx => h.ext hx, fun _ _ _ h hx => h.ext hx, fun _ _ _ _ _ => trivial, fun _ _ _ ⟨g, h1, h2, h3⟩ hx => ⟨g, h1, h2, h3.ext hx⟩, trivial⟩ ?_
  repeat ((refine seq_exact ?_ (by rfl) (by rfl) (fun w1 hU => ?_) ?_); (rotate_left 1); (focus (have h4 := (HP.out.ext hU.un).cell; have h5 := (HB.out.ext hU.un).cell; clear hU; go_simp; with_reducible rfl)); (simp only [Act.put, List.setIfInBounds_toArray, List.set_cons_zero, List.set_cons_succ]))
  refine seq_opaque _ _ (by rfl) rfl ⟨_, none, 0, none, 0, rfl⟩ (by simp) (fun w5 hU hp K hK => ?_) ?_
  · have hn := output_any awP 0 ⟨0, 14, 0, z4, []⟩ _ w5 (HO.out.ext hU.un) (by simp only; omega) (by simp)
    rw [aw28_out0] at hn
    go_simp
    refine hn.mono ?_
    rintro e w6 ⟨u, rfl, h1, h2⟩
    exact hK _ _ h2 h1.sh h1
  rintro _ ⟨I1, ci1, E1, ce1, rfl⟩
  simp only [Act.put, List.setIfInBounds_toArray, List.set_cons_zero, List.set_cons_succ]
  repeat ((refine seq_exact ?_ (by rfl) (by rfl) (fun w1 hU => ?_) ?_); (rotate_left 1); (focus (have h4 := (HP.out.ext hU.un).cell; have h5 := (HB.out.ext hU.un).cell; clear hU; go_simp; with_reducible rfl)); (simp only [Act.put, List.setIfInBounds_toArray, List.set_cons_zero, List.set_cons_succ]))
  refine seq_opaque _ _ (by rfl) rfl ⟨_, none, 0, none, 0, rfl⟩ (by simp) (fun w5 hU hp K hK => ?_) ?_
  · have hn := output_any awP 1 ⟨0, 14, 0, z4, []⟩ _ w5 (HO.out.ext hU.un) (by simp only; omega) (by simp)
    rw [aw28_out1] at hn
    go_simp
    refine hn.mono ?_
    rintro e w6 ⟨u, rfl, h1, h2⟩
    exact hK _ _ h2 h1.sh h1
  rintro _ ⟨I2, ci2, E2, ce2, rfl⟩
  simp only [Act.put, List.setIfInBounds_toArray, List.set_cons_zero, List.set_cons_succ]
  refine seq_opaque _ _ (by rfl) rfl ⟨_, rfl⟩ (by simp) (fun w5 hU hp K hK => ?_) ?_
  · have h1 := hp _ (.head _) (by kernel_rfl)
    have h2 := hp _ (.tail _ (.head _)) (by kernel_rfl)
    have hn := judge_any _ _ _ _ true w5 h2 h1
    rw [aw28_cause] at hn
    simp only [aw28_steps] at hn
    clear hp
    go_simp
    refine hn.mono ?_
    rintro e w6 ⟨rfl, h2⟩
    exact hK _ _ h2 rfl trivial
  rintro _ rfl
  simp only [Act.put, List.setIfInBounds_toArray, List.set_cons_zero, List.set_cons_succ]
  refine seq_opaque _ _ (by rfl) rfl ⟨_, 0, rfl⟩ (by simp) (fun w5 hU _ K hK => ?_) ?_
  · have hz := Ext.size hU.un
    go_simp
    exact hK _ _ (Ext.alloc w5 _) ⟨_, rfl⟩ ⟨_, rfl, hz, Blk.new w5 _ _⟩
  rintro _ ⟨g2, rfl⟩
  simp only [Act.put, List.setIfInBounds_toArray, List.set_cons_zero, List.set_cons_succ]
  intro w8 hw8 hp
  obtain ⟨_, e8, hg9, hb9⟩ := hp _ (.head _)
  injection e8 with e8
  injection e8 with e8
  injection e8 with e8
  subst e8
  clear hp
  simp only [List.drop_succ_cons, List.drop_zero]
  have hzb := HB.out.lt
  have hB2 := HB.out.ext hw8.un
  have hcc := hb9.cell
  have hff := hb9.frozen
  have hcB := hB2.cell
  have hX2 := HX.out.trans hw8.un
  have hgne : g1 ≠ g2 := by omega
  have HX3 := hide ((hX2.set (p := ⟨g2, 0, none⟩) (Nat.le_trans HX.out.size hg9) (.int .i64 1)).set (p := ⟨g2, 1, none⟩) (Nat.le_trans HX.out.size hg9) (.int .i64 19))
  clear hw8 hX2 HX
  go_wp2_with fail
  go_ret
  exact ⟨rfl, HX3.out⟩
end Go.Proofs.Ytfcmngiekdhfpaa
