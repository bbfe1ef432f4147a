/-
  The walk of SumOne.
-/
import Derived.Test.YtpnniiildnkeaaaDoorSumF
import Derived.Test.YtpnniiildnkeaaaDoorMem
namespace Go.Proofs.YtpnniiildnkeaaaDoor
open Go.RowKit
set_option linter.unusedVariables false

theorem sum_eq (g h : UInt64) (l : List UInt8) : (((sumU g l).toNat : Int) == ((sumU h l).toNat : Int)) = ((g.toNat : Int) == (h.toNat : Int)) := by
  rw [Bool.eq_iff_iff]
  simp only [beq_iff_eq, Int.natCast_inj, UInt64.toNat_inj]
  exact ⟨fun e => sum_inj l e, fun e => by rw [e]⟩
theorem sum_set_eq (h : UInt64) (l : List UInt8) (i : Nat) (hi : i < l.length) (x : UInt8) : (((sumU h l).toNat : Int) == ((sumU h (l.set i x)).toNat : Int)) = ((l[i].toNat : Int) == (x.toNat : Int)) := by
  rw [Bool.eq_iff_iff]
  simp only [beq_iff_eq, Int.natCast_inj, UInt64.toNat_inj, UInt8.toNat_inj]
  exact ⟨fun e => ((sum_set h l i hi x).1 e.symm).symm, fun e => ((sum_set h l i hi x).2 e.symm).symm⟩
theorem of_set_eq (l : List UInt8) (i : Nat) (hi : i < l.length) (x : UInt8) : (((ofU l).toNat : Int) == ((ofU (l.set i x)).toNat : Int)) = ((l[i].toNat : Int) == (x.toNat : Int)) := by
  unfold ofU
  rw [List.length_set, sum_eq, sum_set_eq]
set_option maxRecDepth 100000 in
set_option maxHeartbeats 4000000 in
theorem one_law (h0 h1 : UInt64) (A : Option Addr) (cap : Nat) (l : List UInt8) (at' : Int) (tb : UInt8) (w : World) (ht : TZ w) (hs : Sl w A cap l) (ha0 : 0 ≤ at') (ha1 : at' ≤ 65535) :
    Calls Tryd.prog 7 #[.agg #[.int .u64 (h0.toNat : Int), .int .u64 (h1.toNat : Int)], .slice A l.length cap, .agg #[.int .u16 at', .int .u8 (tb.toNat : Int)]] w fun e w' => e = .returned (.bool true) ∧ Ext w w' := by
  have hma := hs.max
  have hla := hs.le
  unfold maxLen at hma
  have hl2 : l.length ≤ 9223372036854775807 := by omega
  have he := (Ext.alloc w (.cells #[.int .u64 (h0.toNat : Int), .int .u64 (h1.toNat : Int)] 40)).alloc' (.cells #[.int .u16 at', .int .u8 (tb.toNat : Int)] 34)
  have HH := hide ((Blk.new w 40 #[.int .u64 (h0.toNat : Int), .int .u64 (h1.toNat : Int)]).alloc (.cells #[.int .u16 at', .int .u8 (tb.toNat : Int)] 34))
  have hC := Blk.new (w.alloc (.cells #[.int .u64 (h0.toNat : Int), .int .u64 (h1.toNat : Int)] 40)) 34 #[.int .u16 at', .int .u8 (tb.toNat : Int)]
  simp only [World.size_alloc] at hC
  have HC := hide hC
  have HS := hide (hs.ext he)
  have HT := hide (ht.ext he)
  have HX := hide he
  clear hs ht hma hla he hC
  go_enter Tryd.func7, Tryd.ntmps7
  go_wp2_with fail
  generalize hwb : (w.alloc (.cells #[.int .u64 (h0.toNat : Int), .int .u64 (h1.toNat : Int)] 40)).alloc (.cells #[.int .u16 at', .int .u8 (tb.toNat : Int)] 34) = wb at *
  clear hwb
  refine (awake02_any wb HT.out).mono ?_
  rintro e w1 ⟨rfl, he⟩
  have HH := hide (HH.out.ext he)
  have HC := hide (HC.out.ext he)
  have HS := hide (HS.out.ext he)
  have HX := hide (HX.out.trans he)
  clear he
  by_cases hbig : 600 < l.length
  · go_wp2_with fail
    go_ret
    exact ⟨rfl, HX.out⟩
  go_wp2_with fail
  obtain ⟨s0, hs0⟩ : ∃ s, sumU h0 l = s := ⟨_, rfl⟩
  obtain ⟨s1, hs1⟩ : ∃ s, sumU h1 l = s := ⟨_, rfl⟩
  have heq := sum_eq h0 h1 l
  rw [hs0, hs1] at heq
  obtain ⟨e0, he0⟩ : ∃ e, ((h0.toNat : Int) == (h1.toNat : Int)) = e := ⟨_, rfl⟩
  rw [he0] at heq
  have HS0 := hide hs0
  have HS1 := hide hs1
  have HQ1 := hide heq
  have HQ2 := hide he0
  clear hs0 hs1 heq he0
  refine wp_region_ext 15 3 [(3, fun v => v = .int .u64 (s0.toNat : Int), fun _ _ => True), (7, fun v => v = .int .u64 (s1.toNat : Int), fun _ _ => True)] mixed (by kernel_rfl) ⟨fun _ _ _ _ _ => trivial, fun _ _ _ _ _ => trivial, trivial⟩ ?_
  repeat ((refine seq_exact ?_ (by rfl) (by rfl) (fun w1 hU => ?_) ?_); (rotate_left 1); (focus (have hk := (HH.out.ext hU.un).cell; clear hU; go_simp <;> with_reducible rfl)); (simp only [Act.put, List.setIfInBounds_toArray, List.set_cons_zero, List.set_cons_succ]))
  refine seq_opaque _ _ (by rfl) rfl ⟨_, rfl⟩ (by simp) (fun w5 hU _ K hK => ?_) ?_
  · have hq := from_any h0 A cap l _ (HS.out.ext hU.un)
    rw [HS0.out] at hq
    go_simp
    refine hq.mono ?_
    rintro e w6 ⟨rfl, rfl⟩
    exact hK _ _ (Ext.refl _) rfl trivial
  rintro _ rfl
  simp only [Act.put, List.setIfInBounds_toArray, List.set_cons_zero, List.set_cons_succ]
  repeat ((refine seq_exact ?_ (by rfl) (by rfl) (fun w1 hU => ?_) ?_); (rotate_left 1); (focus (have hk := (HH.out.ext hU.un).cell; clear hU; go_simp <;> with_reducible rfl)); (simp only [Act.put, List.setIfInBounds_toArray, List.set_cons_zero, List.set_cons_succ]))
  refine seq_opaque _ _ (by rfl) rfl ⟨_, rfl⟩ (by simp) (fun w5 hU _ K hK => ?_) ?_
  · have hq := from_any h1 A cap l _ (HS.out.ext hU.un)
    rw [HS1.out] at hq
    go_simp
    refine hq.mono ?_
    rintro e w6 ⟨rfl, rfl⟩
    exact hK _ _ (Ext.refl _) rfl trivial
  rintro _ rfl
  simp only [Act.put, List.setIfInBounds_toArray, List.set_cons_zero, List.set_cons_succ]
  repeat ((refine seq_exact ?_ (by rfl) (by rfl) (fun w1 hU => ?_) ?_); (rotate_left 1); (focus (have hk := (HH.out.ext hU.un).cell; have h1 := HQ1.out; have h2 := HQ2.out; clear hU; go_simp <;> with_reducible rfl)); (simp only [Act.put, List.setIfInBounds_toArray, List.set_cons_zero, List.set_cons_succ]))
  intro w7 hw7 _
  simp only [List.drop_succ_cons, List.drop_nil]
  have HH := hide (HH.out.ext hw7.un)
  have HC := hide (HC.out.ext hw7.un)
  have HS := hide (HS.out.ext hw7.un)
  have HX := hide (HX.out.trans hw7.un)
  clear hw7
  by_cases hl0 : l = []
  · subst hl0
    go_wp2_with fail
    go_ret
    exact ⟨rfl, HX.out⟩
  have hpos : 0 < l.length := List.length_pos_iff.2 hl0
  have hlz : ((l.length : Int) == 0) = false := by simp; exact hl0
  obtain ⟨kn, hkn⟩ : ∃ kn, at'.toNat % l.length = kn := ⟨_, rfl⟩
  have hkl : kn < l.length := by rw [← hkn]; exact Nat.mod_lt _ hpos
  have hmod : at' % (l.length : Int) = (kn : Int) := by rw [← hkn, Int.natCast_emod, Int.toNat_of_nonneg ha0]
  have hcC := HC.out.cell
  have HNE := hide hl0
  rcases HS.out.rd with h | ⟨b0, off, rfl, hb0, hcb⟩
  · exact absurd h hl0
  have HCB := hide (hcb kn hkl)
  obtain ⟨y, hy⟩ : ∃ y, l[kn] = y := ⟨_, rfl⟩
  have HY := hide hy
  rw [hy] at HCB
  clear hl0 hkn hy hcb
  go_wp2_with (first
    | (at_builtin; refine wpList_appendE bt rfl _ _ rfl w7.heap.size _ rfl (EmB.new w7 5 (Nat.le_refl _)) (some ⟨b0, off, none⟩) cap l rfl (HS.out.ext (Ext.alloc w7 _)) (by omega) (by simp) ?_; intro A2 c2 w2 q1 q2; have q2 := Ext.trans (Ext.alloc w7 _) q2; obtain ⟨g, rfl, hgb, hgl, _, hcc, hff⟩ := q1.at_ HNE.out; have HO2 := hide q1; have HX2 := hide q2; have hck := hcc kn hkl; have hfk := hff kn; have hcC2 := (HC.out.ext q2).cell; clear q1 q2 hcc hff hcC)
    | fail)
  have HX3 := hide (HX2.out.set (p := ⟨g, kn, none⟩) hgb (.int .u8 (tb.toNat : Int)))
  have HO3 := hide (HO2.out.set kn tb).sl.2
  generalize hw3 : w2.setCell ⟨g, kn, none⟩ (.int .u8 (tb.toNat : Int)) = w3 at *
  clear hw3 hck hfk hcC2
  have HH := hide (HH.out.ext HX3.out)
  have HC := hide (HC.out.ext HX3.out)
  have HS := hide (HS.out.ext HX3.out)
  have HX := hide (HX.out.trans HX3.out)
  have HCB := hide ((HX3.out.cell _ _ hb0).trans HCB.out)
  obtain ⟨qb, hqb⟩ : ∃ q, ((y.toNat : Int) == (tb.toNat : Int)) = q := ⟨_, rfl⟩
  obtain ⟨s3, hs3⟩ : ∃ s, sumU h0 (l.set kn tb) = s := ⟨_, rfl⟩
  obtain ⟨o1, ho1⟩ : ∃ s, ofU l = s := ⟨_, rfl⟩
  obtain ⟨o3, ho3⟩ : ∃ s, ofU (l.set kn tb) = s := ⟨_, rfl⟩
  have f1 := sum_set_eq h0 l kn hkl tb
  have f2 := of_set_eq l kn hkl tb
  rw [HS0.out, hs3, HY.out, hqb] at f1
  rw [ho1, ho3, HY.out, hqb] at f2
  have F1 := hide f1
  have F2 := hide f2
  have F3 := hide hqb
  have HS3 := hide hs3
  have HO1 := hide ho1
  have HOO3 := hide ho3
  have hlen : (l.set kn tb).length = l.length := List.length_set
  have HLEN := hide hlen
  have hb3 := HX3.out.size
  clear f1 f2 hqb hs3 ho1 ho3 HQ1 HQ2 hlen
  refine wp_region_ext 33 3 [(3, fun v => v = .int .u64 (s0.toNat : Int), fun _ _ => True), (7, fun v => v = .int .u64 (s3.toNat : Int), fun _ _ => True), (19, fun v => v = .int .u64 (o1.toNat : Int), fun _ _ => True), (21, fun v => v = .int .u64 (o3.toNat : Int), fun _ _ => True)] mixed (by kernel_rfl)
    ⟨fun _ _ _ _ _ => trivial, fun _ _ _ _ _ => trivial, fun _ _ _ _ _ => trivial, fun _ _ _ _ _ => trivial, trivial⟩ ?_
  repeat (first | ((refine seq_skip (by rfl) ?_); (simp only [Act.put, List.setIfInBounds_toArray, List.set_cons_zero, List.set_cons_succ])) | ((refine seq_exact ?_ (by rfl) (by rfl) (fun w1 hU => ?_) ?_); (rotate_left 1); (focus (have hk := (HH.out.ext hU.un).cell; have hj := (HC.out.ext hU.un).cell; have hy := (hU.un.cell _ (off + kn) (Nat.lt_of_lt_of_le hb0 hb3)).trans HCB.out; have h1 := F1.out; have h2 := F2.out; have h3 := F3.out; clear hU; go_simp <;> with_reducible rfl)); (simp only [Act.put, List.setIfInBounds_toArray, List.set_cons_zero, List.set_cons_succ])))
  refine seq_opaque _ _ (by rfl) rfl ⟨_, rfl⟩ (by simp) (fun w5 hU _ K hK => ?_) ?_
  · have hq := from_any h0 (some ⟨b0, off, none⟩) cap l _ (HS.out.ext hU.un)
    rw [HS0.out] at hq
    go_simp
    refine hq.mono ?_
    rintro e w6 ⟨rfl, rfl⟩
    exact hK _ _ (Ext.refl _) rfl trivial
  rintro _ rfl
  simp only [Act.put, List.setIfInBounds_toArray, List.set_cons_zero, List.set_cons_succ]
  repeat (first | ((refine seq_skip (by rfl) ?_); (simp only [Act.put, List.setIfInBounds_toArray, List.set_cons_zero, List.set_cons_succ])) | ((refine seq_exact ?_ (by rfl) (by rfl) (fun w1 hU => ?_) ?_); (rotate_left 1); (focus (have hk := (HH.out.ext hU.un).cell; have hj := (HC.out.ext hU.un).cell; have hy := (hU.un.cell _ (off + kn) (Nat.lt_of_lt_of_le hb0 hb3)).trans HCB.out; have h1 := F1.out; have h2 := F2.out; have h3 := F3.out; clear hU; go_simp <;> with_reducible rfl)); (simp only [Act.put, List.setIfInBounds_toArray, List.set_cons_zero, List.set_cons_succ])))
  refine seq_opaque _ _ (by rfl) rfl ⟨_, rfl⟩ (by simp) (fun w5 hU _ K hK => ?_) ?_
  · have hq := from_any h0 (some ⟨g, 0, none⟩) c2 (l.set kn tb) _ (HO3.out.ext hU.un)
    rw [HS3.out, HLEN.out] at hq
    go_simp
    refine hq.mono ?_
    rintro e w6 ⟨rfl, rfl⟩
    exact hK _ _ (Ext.refl _) rfl trivial
  rintro _ rfl
  simp only [Act.put, List.setIfInBounds_toArray, List.set_cons_zero, List.set_cons_succ]
  repeat (first | ((refine seq_skip (by rfl) ?_); (simp only [Act.put, List.setIfInBounds_toArray, List.set_cons_zero, List.set_cons_succ])) | ((refine seq_exact ?_ (by rfl) (by rfl) (fun w1 hU => ?_) ?_); (rotate_left 1); (focus (have hk := (HH.out.ext hU.un).cell; have hj := (HC.out.ext hU.un).cell; have hy := (hU.un.cell _ (off + kn) (Nat.lt_of_lt_of_le hb0 hb3)).trans HCB.out; have h1 := F1.out; have h2 := F2.out; have h3 := F3.out; clear hU; go_simp <;> with_reducible rfl)); (simp only [Act.put, List.setIfInBounds_toArray, List.set_cons_zero, List.set_cons_succ])))
  refine seq_opaque _ _ (by rfl) rfl ⟨_, rfl⟩ (by simp) (fun w5 hU _ K hK => ?_) ?_
  · have hq := of_any (some ⟨b0, off, none⟩) cap l _ (HS.out.ext hU.un) hl2
    rw [HO1.out] at hq
    go_simp
    refine hq.mono ?_
    rintro e w6 ⟨rfl, h6⟩
    exact hK _ _ h6 rfl trivial
  rintro _ rfl
  simp only [Act.put, List.setIfInBounds_toArray, List.set_cons_zero, List.set_cons_succ]
  repeat (first | ((refine seq_skip (by rfl) ?_); (simp only [Act.put, List.setIfInBounds_toArray, List.set_cons_zero, List.set_cons_succ])) | ((refine seq_exact ?_ (by rfl) (by rfl) (fun w1 hU => ?_) ?_); (rotate_left 1); (focus (have hk := (HH.out.ext hU.un).cell; have hj := (HC.out.ext hU.un).cell; have hy := (hU.un.cell _ (off + kn) (Nat.lt_of_lt_of_le hb0 hb3)).trans HCB.out; have h1 := F1.out; have h2 := F2.out; have h3 := F3.out; clear hU; go_simp <;> with_reducible rfl)); (simp only [Act.put, List.setIfInBounds_toArray, List.set_cons_zero, List.set_cons_succ])))
  refine seq_opaque _ _ (by rfl) rfl ⟨_, rfl⟩ (by simp) (fun w5 hU _ K hK => ?_) ?_
  · have hq := of_any (some ⟨g, 0, none⟩) c2 (l.set kn tb) _ (HO3.out.ext hU.un) (by rw [HLEN.out]; exact hl2)
    rw [HOO3.out, HLEN.out] at hq
    go_simp
    refine hq.mono ?_
    rintro e w6 ⟨rfl, h6⟩
    exact hK _ _ h6 rfl trivial
  rintro _ rfl
  simp only [Act.put, List.setIfInBounds_toArray, List.set_cons_zero, List.set_cons_succ]
  repeat (first | ((refine seq_skip (by rfl) ?_); (simp only [Act.put, List.setIfInBounds_toArray, List.set_cons_zero, List.set_cons_succ])) | ((refine seq_exact ?_ (by rfl) (by rfl) (fun w1 hU => ?_) ?_); (rotate_left 1); (focus (have hk := (HH.out.ext hU.un).cell; have hj := (HC.out.ext hU.un).cell; have hy := (hU.un.cell _ (off + kn) (Nat.lt_of_lt_of_le hb0 hb3)).trans HCB.out; have h1 := F1.out; have h2 := F2.out; have h3 := F3.out; clear hU; go_simp <;> with_reducible rfl)); (simp only [Act.put, List.setIfInBounds_toArray, List.set_cons_zero, List.set_cons_succ])))
  intro w9 hw9 _
  simp only [List.drop_succ_cons, List.drop_nil]
  have HX := hide (HX.out.trans hw9.un)
  clear hw9
  go_wp2_with fail
  go_ret
  exact ⟨ret_bool (by simp), HX.out⟩
theorem one_law' (h0 h1 : Int) (A : Option Addr) (cap : Nat) (l : List UInt8) (x y : Int) (w : World) (w0 : (Lit.int .u64 h0).wf = true) (w1 : (Lit.int .u64 h1).wf = true) (wx : (Lit.int .u16 x).wf = true) (wy : (Lit.int .u8 y).wf = true) (ht : TZ w) (hs : Sl w A cap l) :
    Calls Tryd.prog 7 #[.agg #[.int .u64 h0, .int .u64 h1], .slice A l.length cap, .agg #[.int .u16 x, .int .u8 y]] w fun e w' => e = .returned (.bool true) ∧ Ext w w' := by
  have hx := (by simpa [Lit.wf, IntKind.min, IntKind.max, IntKind.signed, IntKind.bits] using wx : 0 ≤ x ∧ x ≤ 65535)
  have hy := (by simpa [Lit.wf, IntKind.min, IntKind.max, IntKind.signed, IntKind.bits] using wy : 0 ≤ y ∧ y ≤ 255)
  have ey : y = ((UInt8.ofNat y.toNat).toNat : Int) := by rw [UInt8.toNat_ofNat']; omega
  rw [u64_of_wf w0, u64_of_wf w1, ey]
  exact one_law _ _ A cap l x _ w ht hs hx.1 hx.2
end Go.Proofs.YtpnniiildnkeaaaDoor
