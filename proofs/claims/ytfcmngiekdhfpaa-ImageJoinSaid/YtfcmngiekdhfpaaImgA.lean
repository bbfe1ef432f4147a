/-
  The leaves of layer 3: pages of an image, clones, equality of byte strings.
-/
import Derived.Test.YtfcmngiekdhfpaaProg
import Derived.Test.YtfcmngiekdhfpaaVoc
import Derived.Maps.AppendAt
import Derived.OwnWalk
import Derived.Outline
namespace Go.Proofs.Ytfcmngiekdhfpaa
open Go.RowKit
set_option linter.unusedVariables false

def cnt (n : Int) : Int := if n ≤ 0 then 0 else (n - 1) / 128 + 1
def szI (n k : Int) : Int := if k < 0 ∨ cnt n ≤ k then 0 else min 128 (n - k * 128)
theorem cnt_neg {n : Int} (h : n ≤ 0) : cnt n = 0 := if_pos h
theorem cnt_pos {n : Int} (h : 0 < n) : cnt n = (n - 1) / 128 + 1 := if_neg (by omega)
theorem bt : ByteT Try.prog 22 5 := ⟨Try.underlying22, by kernel_rfl⟩
theorem ret_int {k : IntKind} {a b : Int} (h : a = b) : Ending.returned (.int k a) = .returned (.int k b) := by rw [h]

set_option maxHeartbeats 400000 in
theorem count_any (n : Int) (w : World) (h2 : n ≤ 9223372036854775807) :
    Calls Try.prog 15 #[.int .i64 n] w fun e w' => e = .returned (.int .i64 (cnt n)) ∧ w = w' := by
  by_cases h : 0 < n
  · go_enter Try.func15, Try.ntmps15
    go_wp2
    go_ret
    exact ⟨ret_int (cnt_pos h).symm, rfl⟩
  · have h : n ≤ 0 := by omega
    go_enter Try.func15, Try.ntmps15
    go_wp2
    go_ret
    exact ⟨ret_int (cnt_neg h).symm, rfl⟩
set_option maxHeartbeats 400000 in
theorem rcount_any (n : Int) (w : World) (h2 : n ≤ 9223372036854775807) :
    Calls Try.prog 17 #[.int .i64 n] w fun e w' => e = .returned (.int .i64 (cnt n)) ∧ w = w' := by
  by_cases h : 0 < n
  · go_enter Try.func17, Try.ntmps17
    go_wp2
    go_ret
    exact ⟨ret_int (cnt_pos h).symm, rfl⟩
  · have h : n ≤ 0 := by omega
    go_enter Try.func17, Try.ntmps17
    go_wp2
    go_ret
    exact ⟨ret_int (cnt_neg h).symm, rfl⟩

set_option maxRecDepth 100000 in
set_option maxHeartbeats 400000 in
theorem clone_any (A : Option Addr) (cap : Nat) (l : List UInt8) (w : World) (hs : Sl w A cap l) (hl : l.length ≤ 1048576) :
    Calls Try.prog 45 #[.slice A l.length cap] w fun e w' => ∃ A' cap', e = .returned (.slice A' l.length cap') ∧ Own w' w.heap.size 5 (.slice A' l.length cap') l ∧ Ext w w' := by
  have hk := fun (w : World) => Lib.run_eql_slice_nil (P := Try.prog) w 22 5 A l.length cap 0 0 Try.underlying22
  rcases A with _ | ad
  · obtain rfl : cap = 0 := hs.nil rfl
    obtain rfl : l = [] := List.eq_nil_of_length_eq_zero (by have := hs.le; omega)
    simp only [List.length_nil] at hk ⊢
    clear hl hs
    go_enter Try.func45, Try.ntmps45
    go_wp2_with fail
    go_ret
    exact ⟨none, 0, rfl, Own.nil_ _ _ _, Ext.refl _⟩
  · have hs' := hs.ext (Ext.alloc w (.cells #[] 5))
    have Hs := hide hs'
    have hown := Own.empty w 5
    clear hs hs'
    go_enter Try.func45, Try.ntmps45
    go_wp2_with (at_builtin; refine wpList_appendB bt rfl _ _ rfl w.heap.size (.slice (some ⟨w.heap.size, 0, none⟩) 0 0) [] rfl hown _ _ l rfl Hs.out (by simp; omega) (by simp) ?_; intro A' cap' w1 hown1 hg1 _)
    go_ret
    simp only [List.length_nil, Nat.zero_add, List.nil_append] at hown1 ⊢
    exact ⟨A', cap', rfl, hown1, (Ext.alloc w _).grown hg1 (by simp [Value.ownBlock])⟩

set_option maxRecDepth 100000 in
set_option maxHeartbeats 400000 in
theorem equal_any (A B : Option Addr) (ca cb : Nat) (l m : List UInt8) (w : World) (ha : Sl w A ca l) (hb : Sl w B cb m) :
    Calls Try.prog 48 #[.slice A l.length ca, .slice B m.length cb] w fun e w' => e = .returned (.bool (l == m)) ∧ w = w' := by
  have h1 := ha.convert (P := Try.prog) Try.underlying22 Try.underlying5 Try.underlying9
  have h2 := hb.convert (P := Try.prog) Try.underlying22 Try.underlying5 Try.underlying9
  clear ha hb
  go_enter Try.func48, Try.ntmps48
  go_wp2_with fail
  go_ret
  exact ⟨rfl, rfl⟩

set_option maxHeartbeats 400000 in
theorem size_any (n k : Int) (w : World) (h2 : n ≤ 9223372036854775807) :
    Calls Try.prog 44 #[.int .i64 n, .int .i64 k] w fun e w' => e = .returned (.int .i64 (szI n k)) ∧ w = w' := by
  have hb : 0 ≤ cnt n ∧ (cnt n = 0 ∨ cnt n * 128 ≤ n + 127) := by unfold cnt; split <;> omega
  by_cases h0 : k < 0
  · go_enter Try.func44, Try.ntmps44
    go_wp2_with (go_at_call 15; refine (count_any _ _ (by omega)).mono ?_; rintro e w' ⟨rfl, rfl⟩)
    go_ret
    exact ⟨ret_int (if_pos (.inl h0)).symm, rfl⟩
  · by_cases h1 : cnt n ≤ k
    · go_enter Try.func44, Try.ntmps44
      go_wp2_with (go_at_call 15; refine (count_any _ _ (by omega)).mono ?_; rintro e w' ⟨rfl, rfl⟩)
      go_ret
      exact ⟨ret_int (if_pos (.inr h1)).symm, rfl⟩
    · have h3 : 0 ≤ k := by omega
      have h4 : k * 128 < n := by omega
      go_enter Try.func44, Try.ntmps44
      go_wp2_with (go_at_call 15; refine (count_any _ _ (by omega)).mono ?_; rintro e w' ⟨rfl, rfl⟩)
      all_goals
        go_ret
        exact ⟨ret_int (by unfold szI; rw [if_neg (by omega)]; omega), rfl⟩
set_option maxHeartbeats 400000 in
theorem rsize_any (n k : Int) (w : World) (h2 : n ≤ 9223372036854775807) :
    Calls Try.prog 46 #[.int .i64 n, .int .i64 k] w fun e w' => e = .returned (.int .i64 (szI n k)) ∧ w = w' := by
  have hb : 0 ≤ cnt n ∧ (cnt n = 0 ∨ cnt n * 128 ≤ n + 127) := by unfold cnt; split <;> omega
  have hb2 : n ≤ cnt n * 128 := by unfold cnt; split <;> omega
  have hb3 : cnt n ≤ 9223372036854775807 := by unfold cnt; split <;> omega
  by_cases h0 : k < 0
  · go_enter Try.func46, Try.ntmps46
    go_wp2_with (go_at_call 17; refine (rcount_any _ _ (by omega)).mono ?_; rintro e w' ⟨rfl, rfl⟩)
    go_ret
    exact ⟨ret_int (if_pos (.inl h0)).symm, rfl⟩
  · by_cases h1 : cnt n ≤ k
    · go_enter Try.func46, Try.ntmps46
      go_wp2_with (go_at_call 17; refine (rcount_any _ _ (by omega)).mono ?_; rintro e w' ⟨rfl, rfl⟩)
      go_ret
      exact ⟨ret_int (if_pos (.inr h1)).symm, rfl⟩
    · have h3 : 0 ≤ k := by omega
      have h4 : k * 128 < n := by omega
      by_cases h5 : k = cnt n - 1
      · have h6 : (k == cnt n - 1) = true := by simp [h5]
        clear h5
        go_enter Try.func46, Try.ntmps46
        go_wp2_with (go_at_call 17; refine (rcount_any _ _ (by omega)).mono ?_; rintro e w' ⟨rfl, rfl⟩)
        go_ret
        exact ⟨ret_int (by unfold szI; rw [if_neg (by omega)]; simp at h6; omega), rfl⟩
      · have h6 : (k == cnt n - 1) = false := by simp [h5]
        go_enter Try.func46, Try.ntmps46
        go_wp2_with (go_at_call 17; refine (rcount_any _ _ (by omega)).mono ?_; rintro e w' ⟨rfl, rfl⟩)
        go_ret
        exact ⟨ret_int (by unfold szI; rw [if_neg (by omega)]; omega), rfl⟩

/-- The bytes of page k of an image. -/
def pageL (l : List UInt8) (k : Nat) : List UInt8 := (l.drop (k * 128)).take 128
def pageI (l : List UInt8) (k : Int) : List UInt8 := if k < 0 then [] else pageL l k.toNat
theorem pageI_nat (l : List UInt8) (k : Nat) : pageI l k = pageL l k := by unfold pageI; rw [if_neg (by omega)]; simp
theorem pageL_length (l : List UInt8) (k : Nat) : (pageL l k).length = min 128 (l.length - k * 128) := by simp [pageL]
theorem szI_nat (l : List UInt8) (k : Nat) : szI l.length k = (pageL l k).length := by
  rw [pageL_length]
  unfold szI cnt
  split <;> split at * <;> omega
theorem szI_page (l : List UInt8) (k : Int) : szI l.length k = (pageI l k).length := by
  unfold pageI
  split
  · unfold szI; rw [if_pos (.inl ‹_›)]; rfl
  · have : k = ((k.toNat : Nat) : Int) := by omega
    rw [this, szI_nat, ← this]
theorem pageI_pos (l : List UInt8) (k : Int) (h : szI l.length k ≠ 0) : 0 ≤ k ∧ k * 128 + szI l.length k ≤ l.length ∧ 0 < szI l.length k ∧ szI l.length k ≤ 128 := by
  unfold szI cnt at *
  split at h <;> split at * <;> omega
/-- A cut of a slice of bytes. -/
theorem Sl.cut {w : World} {A : Option Addr} {cap : Nat} {l : List UInt8} (h : Sl w A cap l) (i n c : Nat) (hn : 0 < n) (hi : i + n ≤ l.length) (hc : n ≤ c) (hcc : i + c ≤ cap) :
    ∃ b off, A = some ⟨b, off, none⟩ ∧ b < w.heap.size ∧ Sl w (some ⟨b, off + i, none⟩) c ((l.drop i).take n) := by
  rcases h.rd with rfl | ⟨b, off, rfl, hb, hcell⟩
  · simp at hi; omega
  · refine ⟨b, off, rfl, hb, by simp; omega, by have := h.max; omega, (fun h => by cases h), .inr ⟨b, off + i, rfl, hb, fun j hj => ?_⟩⟩
    have := hcell (i + j) (by simp at hj; omega)
    rw [Nat.add_assoc]
    simpa using this

set_option maxRecDepth 100000 in
set_option maxHeartbeats 400000 in
theorem page_any (A : Option Addr) (cap : Nat) (l : List UInt8) (k : Int) (w : World) (hs : Sl w A cap l) (hl : l.length ≤ 65536) :
    Calls Try.prog 16 #[.slice A l.length cap, .int .i64 k] w fun e w' => ∃ A' cap', e = .returned (.slice A' (pageI l k).length cap') ∧ Own w' w.heap.size 5 (.slice A' (pageI l k).length cap') (pageI l k) ∧ Ext w w' := by
  by_cases h0 : szI l.length k = 0
  · have h1 : (szI l.length k == 0) = true := by simp [h0]
    have h2 : pageI l k = [] := List.eq_nil_of_length_eq_zero (by have := szI_page l k; omega)
    have H2 := hide h2
    clear hs h0 h2
    go_enter Try.func16, Try.ntmps16
    go_wp2_with (go_at_call 44; refine (size_any _ _ _ (by omega)).mono ?_; rintro e w' ⟨rfl, rfl⟩)
    go_ret
    rw [H2.out]
    exact ⟨none, 0, rfl, Own.nil_ _ _ _, Ext.refl _⟩
  · have h1 : (szI l.length k == 0) = false := by simp [h0]
    obtain ⟨g1, g2, g3, g4⟩ := pageI_pos l k h0
    obtain ⟨q, rfl⟩ := Int.eq_ofNat_of_zero_le g1
    have hz := szI_nat l q
    have hq : pageI l q = pageL l q := by unfold pageI; rw [if_neg (by omega)]; simp
    obtain ⟨b, off, rfl, hb, hcut⟩ := hs.cut (q * 128) (pageL l q).length (cap - q * 128) (by omega) (by omega) (by have := hs.le; omega) (by have := hs.le; omega)
    have hcut' : Sl w (some ⟨b, off + q * 128, none⟩) (cap - q * 128) (pageL l q) := by
      have : ((l.drop (q * 128)).take (pageL l q).length) = pageL l q := by
        rw [pageL_length]
        unfold pageL
        rw [List.take_eq_take_iff]
        simp
      rw [this] at hcut; exact hcut
    have hle := hs.le
    have hmax := hs.max
    unfold maxLen at hmax
    have HZ := hide hz
    have HQ := hide hq
    have HC := hide hcut'
    have hcp : q * 128 < cap := by omega
    clear hs h0 hz hq hcut hcut'
    go_enter Try.func16, Try.ntmps16
    go_wp2_with (first | (go_at_call 44; refine (size_any _ _ _ (by omega)).mono ?_; rintro e w' ⟨rfl, rfl⟩))
    rw [show ((q : Int) * 128 + szI l.length q).toNat - q * 128 = (pageL l q).length from by rw [HZ.out]; omega]
    refine (clone_any _ _ _ _ HC.out (by rw [pageL_length]; omega)).mono ?_
    rintro e w1 ⟨A', cap', rfl, h3, h4⟩
    go_wp2_with fail
    go_ret
    rw [HQ.out]
    exact ⟨A', cap', rfl, h3, h4⟩

set_option maxRecDepth 100000 in
set_option maxHeartbeats 400000 in
theorem rpage_any (A : Option Addr) (cap : Nat) (l : List UInt8) (k : Int) (w : World) (hs : Sl w A cap l) (hl : l.length ≤ 65536) :
    Calls Try.prog 18 #[.slice A l.length cap, .int .i64 k] w fun e w' => ∃ A' cap', e = .returned (.slice A' (pageI l k).length cap') ∧ Own w' w.heap.size 5 (.slice A' (pageI l k).length cap') (pageI l k) ∧ Ext w w' := by
  by_cases h0 : szI l.length k = 0
  · have h1 : (szI l.length k == 0) = true := by simp [h0]
    have h2 : pageI l k = [] := List.eq_nil_of_length_eq_zero (by have := szI_page l k; omega)
    have H2 := hide h2
    clear hs h0 h2
    go_enter Try.func18, Try.ntmps18
    go_wp2_with (go_at_call 46; refine (rsize_any _ _ _ (by omega)).mono ?_; rintro e w' ⟨rfl, rfl⟩)
    go_ret
    rw [H2.out]
    exact ⟨none, 0, rfl, Own.nil_ _ _ _, Ext.refl _⟩
  · have h1 : (szI l.length k == 0) = false := by simp [h0]
    obtain ⟨g1, g2, g3, g4⟩ := pageI_pos l k h0
    obtain ⟨q, rfl⟩ := Int.eq_ofNat_of_zero_le g1
    have hz := szI_nat l q
    have hq : pageI l q = pageL l q := by unfold pageI; rw [if_neg (by omega)]; simp
    obtain ⟨b, off, rfl, hb, hcut⟩ := hs.cut (q * 128) (pageL l q).length (cap - q * 128) (by omega) (by omega) (by have := hs.le; omega) (by have := hs.le; omega)
    have hcut' : Sl w (some ⟨b, off + q * 128, none⟩) (cap - q * 128) (pageL l q) := by
      have : ((l.drop (q * 128)).take (pageL l q).length) = pageL l q := by
        rw [pageL_length]
        unfold pageL
        rw [List.take_eq_take_iff]
        simp
      rw [this] at hcut; exact hcut
    have hle := hs.le
    have hmax := hs.max
    unfold maxLen at hmax
    have HZ := hide hz
    have HQ := hide hq
    have HC := hide hcut'
    have hcp : q * 128 < cap := by omega
    clear hs h0 hz hq hcut hcut'
    go_enter Try.func18, Try.ntmps18
    have HC' := hide (HC.out.ext (Ext.alloc w (.cells #[] 5)))
    have hown := Own.empty w 5
    have HL := hide (show ((q : Int) * 128 + szI l.length q).toNat - q * 128 = (pageL l q).length from by rw [HZ.out]; omega)
    have hpl : (pageL l q).length ≤ 128 := by rw [pageL_length]; omega
    go_wp2_with (first | (go_at_call 46; refine (rsize_any _ _ _ (by omega)).mono ?_; rintro e w' ⟨rfl, rfl⟩) | (at_builtin; refine wpList_appendB bt rfl _ _ rfl w.heap.size (.slice (some ⟨w.heap.size, 0, none⟩) 0 0) [] rfl hown _ _ (pageL l q) (congrArg (fun n => Value.slice (some ⟨b, off + q * 128, none⟩) n (cap - q * 128)) HL.out) HC'.out (by simp; omega) (by simp) ?_; intro A' cap' w1 hown1 hg1 _))
    go_ret
    simp only [List.length_nil, Nat.zero_add, List.nil_append] at hown1 ⊢
    rw [HQ.out]
    exact ⟨A', cap', rfl, hown1, (Ext.alloc w _).grown hg1 (by simp [Value.ownBlock])⟩
end Go.Proofs.Ytfcmngiekdhfpaa
