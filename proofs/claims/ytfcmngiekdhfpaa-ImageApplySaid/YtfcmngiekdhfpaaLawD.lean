/-
  The walk of ImageLocal.
-/
import Derived.Test.YtfcmngiekdhfpaaLawC
import Derived.Laws.BitsAllLaws
import Derived.Laws.BitsLemmas
namespace Go.Proofs.Ytfcmngiekdhfpaa
open Go.RowKit
set_option linter.unusedVariables false

theorem u8_xor (x y : UInt8) : bits .xor .u8 (x.toNat : Int) (y.toNat : Int) = ((x ^^^ y).toNat : Int) := by
  show IntKind.u8.wrap ((BitVec.ofInt 8 (x.toNat : Int) ^^^ BitVec.ofInt 8 (y.toNat : Int)).toNat : Int) = _
  have e : ∀ z : UInt8, BitVec.ofInt 8 (z.toNat : Int) = z.toBitVec := fun z => by
    rw [BitVec.ofInt_natCast]; exact BitVec.eq_of_toNat_eq (by simp)
  rw [e, e, ← UInt8.toBitVec_xor]
  generalize x ^^^ y = z
  have hz := z.toNat_lt
  show IntKind.u8.wrap (z.toNat : Int) = (z.toNat : Int)
  simp only [IntKind.wrap, IntKind.signed, IntKind.bits]
  simp
  omega
theorem pageL_set_ne (a : List UInt8) (k j : Nat) (x : UInt8) (h : j ≠ k / 128) : pageL (a.set k x) j = pageL a j := by
  unfold pageL
  apply List.ext_getElem?
  intro i
  simp only [List.getElem?_take, List.getElem?_drop, List.getElem?_set]
  split
  · rw [if_neg (by omega)]
  · rfl
theorem pageL_set_same (a : List UInt8) (k : Nat) (x : UInt8) (hk : k < a.length) (h : x ≠ a[k]) : pageL (a.set k x) (k / 128) ≠ pageL a (k / 128) := by
  intro e
  have := congrArg (fun l => l[k % 128]?) e
  simp only [pageL, List.getElem?_take, List.getElem?_drop, List.getElem?_set] at this
  rw [if_pos (by omega), if_pos (by omega), if_pos (by omega), show k / 128 * 128 + k % 128 = k from by omega, if_pos (by omega), List.getElem?_eq_getElem hk] at this
  injection this with this
  exact h this
theorem diffTo_set (a : List UInt8) (k : Nat) (x : UInt8) (hk : k < a.length) (h : x ≠ a[k]) : ∀ n, diffTo a (a.set k x) n = if n ≤ k / 128 then [] else [(((k / 128 : Nat) : Int), pageL (a.set k x) (k / 128))]
  | 0 => by rw [if_pos (by omega)]; rfl
  | n + 1 => by
    simp only [diffTo]
    rw [diffTo_set a k x hk h n]
    by_cases hn : n = k / 128
    · subst hn
      rw [if_neg (fun e => pageL_set_same a k x hk h e.symm), if_pos (by omega), if_neg (by omega)]
      rfl
    · rw [if_pos (pageL_set_ne a k n x hn).symm]
      by_cases hlt : n ≤ k / 128
      · rw [if_pos hlt, if_pos (by omega)]
      · rw [if_neg hlt, if_neg (by omega)]
theorem diffL_set (a : List UInt8) (k : Nat) (x : UInt8) (hk : k < a.length) (h : x ≠ a[k]) : diffL a (a.set k x) = [(((k / 128 : Nat) : Int), pageL (a.set k x) (k / 128))] := by
  unfold diffL
  rw [diffTo_set a k x hk h, if_neg]
  rw [List.length_set]
  unfold cntN cnt
  split <;> omega

set_option maxRecDepth 100000 in
set_option maxHeartbeats 1000000 in
theorem local_law (A : Option Addr) (ca : Nat) (a : List UInt8) (t m : Int) (w : World) (ha : Sl w A ca a) (ht : 0 ≤ t ∧ t ≤ 65535) (hm : 0 ≤ m ∧ m ≤ 255) :
    Calls Try.prog 5 #[.slice A a.length ca, .int .u16 t, .int .u8 m] w fun e w' => e = .returned (.bool true) ∧ Ext w w' := by
  have HA := hide ha
  have hma := ha.max
  have hla := ha.le
  unfold maxLen at hma
  obtain ⟨ht1, ht2⟩ := ht
  obtain ⟨hm1, hm2⟩ := hm
  clear ha
  by_cases h0 : a.length = 0
  · have h0' : ((a.length : Int) == 0) = true := by simp [h0]
    clear h0
    go_enter Try.func5, Try.ntmps5
    go_wp2_with (go_at_call 14; refine (awake_any _).mono ?_; rintro e w1 ⟨rfl, hE1⟩)
    go_ret
    exact ⟨rfl, hE1⟩
  have h0' : ((a.length : Int) == 0) = false := by rw [beq_eq_false_iff_ne]; omega
  by_cases hl : 2000 < a.length
  · have hl' : (2000 : Int) < a.length := by omega
    clear h0
    go_enter Try.func5, Try.ntmps5
    go_wp2_with (go_at_call 14; refine (awake_any _).mono ?_; rintro e w1 ⟨rfl, hE1⟩)
    go_ret
    exact ⟨rfl, hE1⟩
  have hl' : ¬ (2000 : Int) < a.length := by omega
  by_cases hz : m = 0
  · have hz' : (m == 0) = true := by simp [hz]
    clear h0 hz
    go_enter Try.func5, Try.ntmps5
    go_wp2_with (go_at_call 14; refine (awake_any _).mono ?_; rintro e w1 ⟨rfl, hE1⟩)
    go_ret
    exact ⟨rfl, hE1⟩
  have hz' : (m == 0) = false := by simp [hz]
  obtain ⟨q, rfl⟩ := Int.eq_ofNat_of_zero_le ht1
  obtain ⟨p, hp⟩ := Int.eq_ofNat_of_zero_le hm1
  obtain ⟨y, hy⟩ : ∃ y : UInt8, m = (y.toNat : Int) := ⟨UInt8.ofNat p, by rw [UInt8.toNat_ofNat']; omega⟩
  subst hy
  have hpos : 0 < a.length := by omega
  have hk : q % a.length < a.length := Nat.mod_lt _ hpos
  have hlen1 : (1 : Int) ≤ a.length := by omega
  clear hp
  have hne : a ≠ [] := fun e => by rw [e] at hpos; simp at hpos
  have hx : a[q % a.length] ^^^ y ≠ a[q % a.length] := fun e => hz (by
    have h1 : a[q % a.length] ^^^ (a[q % a.length] ^^^ y) = a[q % a.length] ^^^ a[q % a.length] := by rw [e]
    rw [← UInt8.xor_assoc, UInt8.xor_self, UInt8.zero_xor] at h1
    rw [h1]; rfl)
  have HD := hide (diffL_set a _ _ hk hx)
  have HX := hide (u8_xor a[q % a.length] y)
  clear hz hx h0
  go_enter Try.func5, Try.ntmps5
  go_wp2_with (first
    | (go_at_call 14; refine (awake_any _).mono ?_; rintro e w1 ⟨rfl, hE1⟩; have HE1 := hide hE1; clear hE1)
    | (at_builtin; refine wpList_appendE bt rfl _ _ rfl w1.heap.size _ rfl (EmB.new w1 5 (Nat.le_refl _)) A ca a rfl ((HA.out.ext HE1.out).ext (Ext.alloc w1 _)) (by omega) (by simp) ?_; intro A2 c2 w2 hm2 he2; obtain ⟨g2, rfl, hb2, hg2, hcap2, hcell2, hfr2⟩ := hm2.at_ hne; have hc2 := hcell2 _ hk; have HM2 := hide hm2; have HE2 := hide (HE1.out.trans (Ext.trans (Ext.alloc w1 _) he2)); clear hm2 he2 hcell2)
    | fail)
  rw [HX.out]
  have hset := HM2.out.set (q % a.length) (a[q % a.length] ^^^ y)
  have hsl := hset.sl.2
  have he3 : Ext w (w2.setCell ⟨g2, q % a.length, none⟩ (.int .u8 ((a[q % a.length] ^^^ y).toNat : Int))) := HE2.out.set (p := ⟨g2, q % a.length, none⟩) (Nat.le_trans HE1.out.size hb2) _
  have hlen : (a.set (q % a.length) (a[q % a.length] ^^^ y)).length = a.length := List.length_set
  have hd := diff_any _ _ _ _ a (a.set (q % a.length) (a[q % a.length] ^^^ y)) _ (HA.out.ext he3) hsl (by omega) (by omega)
  rw [hlen, HD.out] at hd
  refine hd.mono ?_
  rintro e w4 ⟨C, c, rfl, hc, he4⟩
  obtain ⟨b, off, Ai, ci, rfl, hb, hc1, _, _⟩ := hc.at_ 0 (by simp)
  simp only [Nat.zero_mul, Nat.add_zero, List.getElem_cons_zero] at hc1
  have HE4 := hide (he3.trans he4)
  clear hd hlen hset hsl he3 hc he4 hc2 hfr2 HM2
  go_wp2_with fail
  go_ret
  exact ⟨rfl, HE4.out.trans (Ext.alloc w4 _)⟩
end Go.Proofs.Ytfcmngiekdhfpaa
