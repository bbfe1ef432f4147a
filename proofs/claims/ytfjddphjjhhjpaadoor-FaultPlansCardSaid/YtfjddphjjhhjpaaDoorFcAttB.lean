/-
  Cut out of an elder text of mine (AttB) by cutdecl.py.
-/
import Derived.Test.YtfjddphjjhhjpaaDoorSeq
import Derived.Test.YtfjddphjjhhjpaaDoorVoc
import Derived.Test.YtfjddphjjhhjpaaDoorSeqIn
import Derived.Test.YtfjddphjjhhjpaaDoorFcImgA
import Derived.Test.YtfjddphjjhhjpaaDoorFcChg
import Derived.Test.YtfjddphjjhhjpaaDoorFcImgB
import Derived.Test.YtfjddphjjhhjpaaDoorFcEqA
import Derived.Test.YtfjddphjjhhjpaaDoorFcLawD
import Derived.Test.YtfjddphjjhhjpaaDoorFcAttA
namespace Go.Proofs.YtfjddphjjhhjpaaDoor
open Go.RowKit
set_option linter.unusedVariables false


theorem SlX.far {base : Nat} {l : List UInt8} {v : Value} {w : World} (h : SlX base none l v w) {p : Addr} (hp : p.block < base) (u : Value) : SlX base none l v (w.setCell p u) := by
  obtain ⟨A, cap, h1, h2, h3⟩ := h
  refine ⟨A, cap, h1, h2.grown (row := some p.block) ⟨rfl, rfl, rfl, by simp [World.setCell], fun k _ hk => Below.heap_setCell w p u k (fun e => hk (by rw [e]))⟩ (h3.imp id fun h a ha e => ?_), h3⟩
  have := (h a ha).1
  injection e with e
  omega
/-- Five cells of block g are written. -/
def w5 (w : World) (g : Nat) (a b c d e : Value) : World := ((((w.setCell ⟨g, 0, none⟩ a).setCell ⟨g, 1, none⟩ b).setCell ⟨g, 2, none⟩ c).setCell ⟨g, 3, none⟩ d).setCell ⟨g, 4, none⟩ e
theorem Blk.put5 {w : World} {g : Nat} {t : TypeId} {x0 x1 x2 x3 x4 : Value} (h : Blk w g t #[x0, x1, x2, x3, x4]) (a b c d e : Value) : Blk (w5 w g a b c d e) g t #[a, b, c, d, e] := by
  have := ((((h.set 0 a).set 1 b).set 2 c).set 3 d).set 4 e
  unfold w5
  simpa using this
theorem SlX.put5 {base g : Nat} {l : List UInt8} {v : Value} {w : World} (h : SlX base none l v w) (hp : g < base) (a b c d e : Value) : SlX base none l v (w5 w g a b c d e) :=
  ((((h.far (p := ⟨g, 0, none⟩) hp a).far (p := ⟨g, 1, none⟩) hp b).far (p := ⟨g, 2, none⟩) hp c).far (p := ⟨g, 3, none⟩) hp d).far (p := ⟨g, 4, none⟩) hp e
theorem Ext.put5 {w0 w : World} {g : Nat} (h : Ext w0 w) (hp : w0.heap.size ≤ g) (a b c d e : Value) : Ext w0 (w5 w g a b c d e) :=
  ((((h.set (p := ⟨g, 0, none⟩) hp a).set (p := ⟨g, 1, none⟩) hp b).set (p := ⟨g, 2, none⟩) hp c).set (p := ⟨g, 3, none⟩) hp d).set (p := ⟨g, 4, none⟩) hp e
set_option maxRecDepth 100000 in
set_option maxHeartbeats 1000000 in
theorem from27_any (o : Out) (v : Value) (w : World) (hv : OutV o v w) (hi : o.img.length ≤ 1048576) (hx : o.eff.length ≤ 1048576) : Calls Tryd.prog 30 #[v] w fun e w' => ∃ u, e = .returned u ∧ OutV o u w' ∧ Ext w w' := by
  obtain ⟨I, ci, E, ce, rfl, s1, s2⟩ := hv
  obtain ⟨of, os, oe, oi, ox⟩ := o
  simp only at s1 s2 hi hx ⊢
  have he : Ext w ((w.alloc (.cells #[.int .i64 of, .int .i64 os, .int .i64 oe, .slice I oi.length ci, .slice E ox.length ce] 63)).alloc (.cells #[.int .i64 0, .int .i64 0, .int .i64 0, .slice none 0 0, .slice none 0 0] 61)) := (Ext.alloc w _).alloc' _
  have HE := hide he
  have HS1 := hide (s1.ext he)
  have HS2 := hide (s2.ext he)
  have HB1 := hide ((Blk.new w 63 #[.int .i64 of, .int .i64 os, .int .i64 oe, .slice I oi.length ci, .slice E ox.length ce]).alloc (.cells #[.int .i64 0, .int .i64 0, .int .i64 0, .slice none 0 0, .slice none 0 0] 61))
  have HB2 := hide (Blk.new (w.alloc (.cells #[.int .i64 of, .int .i64 os, .int .i64 oe, .slice I oi.length ci, .slice E ox.length ce] 63)) 61 #[.int .i64 0, .int .i64 0, .int .i64 0, .slice none 0 0, .slice none 0 0])
  clear s1 s2 he
  go_enter Tryd.func30, Tryd.ntmps30
  go_wp2_with fail
  simp only [World.size_alloc] at HB2 ⊢
  generalize hwb : (w.alloc (.cells #[.int .i64 of, .int .i64 os, .int .i64 oe, .slice I oi.length ci, .slice E ox.length ce] 63)).alloc (.cells #[.int .i64 0, .int .i64 0, .int .i64 0, .slice none 0 0, .slice none 0 0] 61) = wb at *
  clear hwb
  have hzb := HB2.out.lt
  refine wp_region_ext 15 3 [(6, ShEm, EmB wb.heap.size 5), (9, ShSl oi.length, SlX (w.heap.size + 2) none oi), (10, ShEm, EmB wb.heap.size 5), (13, ShSl ox.length, SlX (w.heap.size + 2) none ox)] mixed (by kernel_rfl)
    ⟨fun _ _ _ h hx => h.ext hx, fun _ _ _ h hx => h.grown (hx.grownBy _), fun _ _ _ h hx => h.ext hx, fun _ _ _ h hx => h.grown (hx.grownBy _), trivial⟩ ?_
  repeat ((refine seq_exact ?_ (by rfl) (by rfl) (fun w1 hU => ?_) ?_); (rotate_left 1); (focus (have h4 := (HB1.out.ext hU.un).cell; clear hU; go_simp <;> with_reducible rfl)); (simp only [Act.put, List.setIfInBounds_toArray, List.set_cons_zero, List.set_cons_succ]))
  refine seq_opaque _ _ (by rfl) rfl ⟨_, 0, rfl⟩ (by simp) (fun w5 hU _ K hK => ?_) ?_
  · have hz := Ext.size hU.un
    go_simp
    exact hK _ _ (Ext.alloc w5 _) ⟨_, rfl⟩ (EmB.new w5 5 hz)
  rintro _ ⟨g1, rfl⟩
  simp only [Act.put, List.setIfInBounds_toArray, List.set_cons_zero, List.set_cons_succ]
  repeat ((refine seq_exact ?_ (by rfl) (by rfl) (fun w1 hU => ?_) ?_); (rotate_left 1); (focus (have h4 := (HB1.out.ext hU.un).cell; clear hU; go_simp <;> with_reducible rfl)); (simp only [Act.put, List.setIfInBounds_toArray, List.set_cons_zero, List.set_cons_succ]))
  refine seq_opaque _ _ (by rfl) rfl ⟨_, none, 0, rfl⟩ (by simp) (fun w5 hU hp K hK => ?_) ?_
  · have hs := hp _ (.head _) (by kernel_rfl)
    have hz := Ext.size hU.un
    exact wp_appendE bt _ _ rfl wb.heap.size _ rfl hs I ci oi rfl (HS1.out.ext hU.un) (by omega) hz fun A' cap' w' h1 h2 h3 => hK _ _ h2 ⟨A', cap', rfl⟩ (h1.slX (by omega) (fun k e => by cases e))
  rintro _ ⟨A1, c1, rfl⟩
  simp only [Act.put, List.setIfInBounds_toArray, List.set_cons_zero, List.set_cons_succ]
  refine seq_opaque _ _ (by rfl) rfl ⟨_, 0, rfl⟩ (by simp) (fun w5 hU _ K hK => ?_) ?_
  · have hz := Ext.size hU.un
    go_simp
    exact hK _ _ (Ext.alloc w5 _) ⟨_, rfl⟩ (EmB.new w5 5 hz)
  rintro _ ⟨g2, rfl⟩
  simp only [Act.put, List.setIfInBounds_toArray, List.set_cons_zero, List.set_cons_succ]
  repeat ((refine seq_exact ?_ (by rfl) (by rfl) (fun w1 hU => ?_) ?_); (rotate_left 1); (focus (have h4 := (HB1.out.ext hU.un).cell; clear hU; go_simp <;> with_reducible rfl)); (simp only [Act.put, List.setIfInBounds_toArray, List.set_cons_zero, List.set_cons_succ]))
  refine seq_opaque _ _ (by rfl) rfl ⟨_, none, 0, rfl⟩ (by simp) (fun w5 hU hp K hK => ?_) ?_
  · have hs := hp _ (.head _) (by kernel_rfl)
    have hz := Ext.size hU.un
    exact wp_appendE bt _ _ rfl wb.heap.size _ rfl hs E ce ox rfl (HS2.out.ext hU.un) (by omega) hz fun A' cap' w' h1 h2 h3 => hK _ _ h2 ⟨A', cap', rfl⟩ (h1.slX (by omega) (fun k e => by cases e))
  rintro _ ⟨A2, c2, rfl⟩
  simp only [Act.put, List.setIfInBounds_toArray, List.set_cons_zero, List.set_cons_succ]
  repeat ((refine seq_exact ?_ (by rfl) (by rfl) (fun w1 hU => ?_) ?_); (rotate_left 1); (focus (go_simp <;> with_reducible rfl)); (simp only [Act.put, List.setIfInBounds_toArray, List.set_cons_zero, List.set_cons_succ]))
  intro w7 hw7 hp
  have hs2 := (hp _ (.head _))
  have hs1 := (hp _ (.tail _ (.tail _ (.head _))))
  clear hp
  simp only [List.drop_succ_cons, List.drop_zero]
  have hb := HB2.out.ext hw7.un
  have hc := hb.cell
  have hf := hb.frozen
  have HX := hide (HE.out.trans hw7.un)
  have HQ1 := hide hs1
  have HQ2 := hide hs2
  have HQB := hide hb
  clear hw7 hs1 hs2 hb HB1 HB2 HS1 HS2 HE
  go_wp2_with fail
  have hset := HQB.out.put5 (.int .i64 of) (.int .i64 os) (.int .i64 oe) (.slice A1 oi.length c1) (.slice A2 ox.length c2)
  have hcc := hset.cell
  unfold w5 at hcc
  refine bodyPost_ret (v := .agg #[.int .i64 of, .int .i64 os, .int .i64 oe, .slice A1 oi.length c1, .slice A2 ox.length c2]) (by simp [results, Tryd.results30, go_sem, hcc]) rfl ?_
  refine ⟨_, rfl, ⟨A1, c1, A2, c2, rfl, (HQ1.out.put5 (by omega) _ _ _ _ _).sl, (HQ2.out.put5 (by omega) _ _ _ _ _).sl⟩, HX.out.put5 (by omega) _ _ _ _ _⟩

set_option maxRecDepth 100000 in
set_option maxHeartbeats 1000000 in
theorem to27_any (o : Out) (v : Value) (w : World) (hv : OutV o v w) (hi : o.img.length ≤ 1048576) (hx : o.eff.length ≤ 1048576) : Calls Tryd.prog 27 #[v] w fun e w' => ∃ u, e = .returned u ∧ OutV o u w' ∧ Ext w w' := by
  obtain ⟨I, ci, E, ce, rfl, s1, s2⟩ := hv
  obtain ⟨of, os, oe, oi, ox⟩ := o
  simp only at s1 s2 hi hx ⊢
  have he : Ext w ((w.alloc (.cells #[.int .i64 of, .int .i64 os, .int .i64 oe, .slice I oi.length ci, .slice E ox.length ce] 61)).alloc (.cells #[.int .i64 0, .int .i64 0, .int .i64 0, .slice none 0 0, .slice none 0 0] 63)) := (Ext.alloc w _).alloc' _
  have HE := hide he
  have HS1 := hide (s1.ext he)
  have HS2 := hide (s2.ext he)
  have HB1 := hide ((Blk.new w 61 #[.int .i64 of, .int .i64 os, .int .i64 oe, .slice I oi.length ci, .slice E ox.length ce]).alloc (.cells #[.int .i64 0, .int .i64 0, .int .i64 0, .slice none 0 0, .slice none 0 0] 63))
  have HB2 := hide (Blk.new (w.alloc (.cells #[.int .i64 of, .int .i64 os, .int .i64 oe, .slice I oi.length ci, .slice E ox.length ce] 61)) 63 #[.int .i64 0, .int .i64 0, .int .i64 0, .slice none 0 0, .slice none 0 0])
  clear s1 s2 he
  go_enter Tryd.func27, Tryd.ntmps27
  go_wp2_with fail
  simp only [World.size_alloc] at HB2 ⊢
  generalize hwb : (w.alloc (.cells #[.int .i64 of, .int .i64 os, .int .i64 oe, .slice I oi.length ci, .slice E ox.length ce] 61)).alloc (.cells #[.int .i64 0, .int .i64 0, .int .i64 0, .slice none 0 0, .slice none 0 0] 63) = wb at *
  clear hwb
  have hzb := HB2.out.lt
  refine wp_region_ext 15 3 [(6, ShEm, EmB wb.heap.size 5), (9, ShSl oi.length, SlX (w.heap.size + 2) none oi), (10, ShEm, EmB wb.heap.size 5), (13, ShSl ox.length, SlX (w.heap.size + 2) none ox)] mixed (by kernel_rfl)
    ⟨fun _ _ _ h hx => h.ext hx, fun _ _ _ h hx => h.grown (hx.grownBy _), fun _ _ _ h hx => h.ext hx, fun _ _ _ h hx => h.grown (hx.grownBy _), trivial⟩ ?_
  repeat ((refine seq_exact ?_ (by rfl) (by rfl) (fun w1 hU => ?_) ?_); (rotate_left 1); (focus (have h4 := (HB1.out.ext hU.un).cell; clear hU; go_simp <;> with_reducible rfl)); (simp only [Act.put, List.setIfInBounds_toArray, List.set_cons_zero, List.set_cons_succ]))
  refine seq_opaque _ _ (by rfl) rfl ⟨_, 0, rfl⟩ (by simp) (fun w5 hU _ K hK => ?_) ?_
  · have hz := Ext.size hU.un
    go_simp
    exact hK _ _ (Ext.alloc w5 _) ⟨_, rfl⟩ (EmB.new w5 5 hz)
  rintro _ ⟨g1, rfl⟩
  simp only [Act.put, List.setIfInBounds_toArray, List.set_cons_zero, List.set_cons_succ]
  repeat ((refine seq_exact ?_ (by rfl) (by rfl) (fun w1 hU => ?_) ?_); (rotate_left 1); (focus (have h4 := (HB1.out.ext hU.un).cell; clear hU; go_simp <;> with_reducible rfl)); (simp only [Act.put, List.setIfInBounds_toArray, List.set_cons_zero, List.set_cons_succ]))
  refine seq_opaque _ _ (by rfl) rfl ⟨_, none, 0, rfl⟩ (by simp) (fun w5 hU hp K hK => ?_) ?_
  · have hs := hp _ (.head _) (by kernel_rfl)
    have hz := Ext.size hU.un
    exact wp_appendE bt _ _ rfl wb.heap.size _ rfl hs I ci oi rfl (HS1.out.ext hU.un) (by omega) hz fun A' cap' w' h1 h2 h3 => hK _ _ h2 ⟨A', cap', rfl⟩ (h1.slX (by omega) (fun k e => by cases e))
  rintro _ ⟨A1, c1, rfl⟩
  simp only [Act.put, List.setIfInBounds_toArray, List.set_cons_zero, List.set_cons_succ]
  refine seq_opaque _ _ (by rfl) rfl ⟨_, 0, rfl⟩ (by simp) (fun w5 hU _ K hK => ?_) ?_
  · have hz := Ext.size hU.un
    go_simp
    exact hK _ _ (Ext.alloc w5 _) ⟨_, rfl⟩ (EmB.new w5 5 hz)
  rintro _ ⟨g2, rfl⟩
  simp only [Act.put, List.setIfInBounds_toArray, List.set_cons_zero, List.set_cons_succ]
  repeat ((refine seq_exact ?_ (by rfl) (by rfl) (fun w1 hU => ?_) ?_); (rotate_left 1); (focus (have h4 := (HB1.out.ext hU.un).cell; clear hU; go_simp <;> with_reducible rfl)); (simp only [Act.put, List.setIfInBounds_toArray, List.set_cons_zero, List.set_cons_succ]))
  refine seq_opaque _ _ (by rfl) rfl ⟨_, none, 0, rfl⟩ (by simp) (fun w5 hU hp K hK => ?_) ?_
  · have hs := hp _ (.head _) (by kernel_rfl)
    have hz := Ext.size hU.un
    exact wp_appendE bt _ _ rfl wb.heap.size _ rfl hs E ce ox rfl (HS2.out.ext hU.un) (by omega) hz fun A' cap' w' h1 h2 h3 => hK _ _ h2 ⟨A', cap', rfl⟩ (h1.slX (by omega) (fun k e => by cases e))
  rintro _ ⟨A2, c2, rfl⟩
  simp only [Act.put, List.setIfInBounds_toArray, List.set_cons_zero, List.set_cons_succ]
  repeat ((refine seq_exact ?_ (by rfl) (by rfl) (fun w1 hU => ?_) ?_); (rotate_left 1); (focus (go_simp <;> with_reducible rfl)); (simp only [Act.put, List.setIfInBounds_toArray, List.set_cons_zero, List.set_cons_succ]))
  intro w7 hw7 hp
  have hs2 := (hp _ (.head _))
  have hs1 := (hp _ (.tail _ (.tail _ (.head _))))
  clear hp
  simp only [List.drop_succ_cons, List.drop_zero]
  have hb := HB2.out.ext hw7.un
  have hc := hb.cell
  have hf := hb.frozen
  have HX := hide (HE.out.trans hw7.un)
  have HQ1 := hide hs1
  have HQ2 := hide hs2
  have HQB := hide hb
  clear hw7 hs1 hs2 hb HB1 HB2 HS1 HS2 HE
  go_wp2_with fail
  have hset := HQB.out.put5 (.int .i64 of) (.int .i64 os) (.int .i64 oe) (.slice A1 oi.length c1) (.slice A2 ox.length c2)
  have hcc := hset.cell
  unfold w5 at hcc
  refine bodyPost_ret (v := .agg #[.int .i64 of, .int .i64 os, .int .i64 oe, .slice A1 oi.length c1, .slice A2 ox.length c2]) (by simp [results, Tryd.results27, go_sem, hcc]) rfl ?_
  refine ⟨_, rfl, ⟨A1, c1, A2, c2, rfl, (HQ1.out.put5 (by omega) _ _ _ _ _).sl, (HQ2.out.put5 (by omega) _ _ _ _ _).sl⟩, HX.out.put5 (by omega) _ _ _ _ _⟩
end Go.Proofs.YtfjddphjjhhjpaaDoor
