/-
  Parse of the program and of the reference.
-/
import Derived.Test.YtpnniiildnkeaaaDoorHexQ
import Derived.Test.YtpnniiildnkeaaaDoorShelfErr
namespace Go.Proofs.YtpnniiildnkeaaaDoor
open Go.RowKit
set_option linter.unusedVariables false

/-- The two errors' variables hold an error. -/
def EZ (w : World) : Prop := (∃ ev, w.cell? ⟨1, 0, none⟩ = some ev ∧ (ev = .nilIface ∨ ∃ te pe, ev = .iface te pe)) ∧ (∃ ev, w.cell? ⟨2, 0, none⟩ = some ev ∧ (ev = .nilIface ∨ ∃ te pe, ev = .iface te pe))
theorem EZ.ext {w w' : World} (h : EZ w) (he : Ext w w') : EZ w' := by
  obtain ⟨⟨a, a1, a2⟩, b, b1, b2⟩ := h
  exact ⟨⟨a, (he.cell _ _ (World.block_lt_of_cell? _ _ a1)).trans a1, a2⟩, b, (he.cell _ _ (World.block_lt_of_cell? _ _ b1)).trans b1, b2⟩
theorem bytesWorld_ext (w : World) (e : TypeId) (s : ByteArray) : Ext w (Lib.bytesWorld w e s) := Lib.bytesWorld_below w e s
set_option maxRecDepth 100000 in
theorem ipu16_nil (w : World) : Calls Tryd.prog 35 #[.string (str []), .int .i64 16, .int .i64 64] w fun e w' => e = .returned (.tuple #[.int .u64 0, .iface 81 (.int .i64 2)]) ∧ w' = w := by
  go_enter Tryd.func35, Tryd.ntmps35
  go_wp2
  go_ret2
  exact ⟨rfl, rfl⟩
theorem str_size (l : List UInt8) : (str l).size = l.length := by
  show l.toArray.size = l.length
  simp
theorem str_data (l : List UInt8) : (str l).data.toList = l := by simp [str]
/-- How ParseUint of the inner package ends. -/
theorem ipu_ways (l : List UInt8) (hl : l.length ≤ 1000) (w : World) :
    (∃ n, pu16 0 l = .ok n ∧ l ≠ [] ∧ Calls Tryd.prog 35 #[.string (str l), .int .i64 16, .int .i64 64] w fun e w' => e = .returned (.tuple #[.int .u64 n, .nilIface]) ∧ Ext w w') ∨
    ((∀ n, pu16 0 l = .ok n → l = []) ∧ ((∃ m, Calls Tryd.prog 35 #[.string (str l), .int .i64 16, .int .i64 64] w fun e w' => e = .returned (.tuple #[.int .u64 m, .iface 81 (.int .i64 2)]) ∧ Ext w w') ∨
      (∃ m, Calls Tryd.prog 35 #[.string (str l), .int .i64 16, .int .i64 64] w fun e w' => e = .returned (.tuple #[.int .u64 m, .iface 81 (.int .i64 1)]) ∧ Ext w w'))) := by
  by_cases hne : l = []
  · subst hne
    refine .inr ⟨fun _ _ => rfl, .inl ⟨0, (ipu16_nil w).mono ?_⟩⟩
    rintro e w' ⟨rfl, rfl⟩
    exact ⟨rfl, Ext.refl _⟩
  · have h := ipu16_any (str l) (by rw [str_size]; exact fun e => hne (List.eq_nil_of_length_eq_zero e)) (by rw [str_size]; omega) w
    rw [str_data] at h
    cases hp : pu16 0 l with
    | ok n =>
      rw [hp] at h
      refine .inl ⟨n, rfl, hne, h.mono ?_⟩
      rintro e w' ⟨rfl, rfl⟩
      exact ⟨rfl, bytesWorld_ext _ _ _⟩
    | «syntax» =>
      rw [hp] at h
      refine .inr ⟨(fun n h => by cases h), .inl ⟨0, h.mono ?_⟩⟩
      rintro e w' ⟨rfl, rfl⟩
      exact ⟨rfl, bytesWorld_ext _ _ _⟩
    | range =>
      rw [hp] at h
      refine .inr ⟨(fun n h => by cases h), .inr ⟨18446744073709551615, h.mono ?_⟩⟩
      rintro e w' ⟨rfl, rfl⟩
      exact ⟨rfl, bytesWorld_ext _ _ _⟩
set_option maxRecDepth 100000 in
set_option maxHeartbeats 1000000 in
theorem pu_ways (l : List UInt8) (hl : l.length ≤ 1000) (w : World) (hz : EZ w) :
    (∃ n, pu16 0 l = .ok n ∧ l ≠ [] ∧ Calls Tryd.prog 27 #[.string (str l), .int .i64 16, .int .i64 64] w fun e w' => e = .returned (.tuple #[.int .u64 n, .nilIface]) ∧ Ext w w') ∨
    ((∀ n, pu16 0 l = .ok n → l = []) ∧ Calls Tryd.prog 27 #[.string (str l), .int .i64 16, .int .i64 64] w fun e w' => ∃ m N, e = .returned (.tuple #[.int .u64 m, .iface 84 (.pointer (some ⟨N, 0, none⟩))]) ∧ Ext w w') := by
  have hsz := str_size l
  rcases ipu_ways l hl w with ⟨n, h1, h2, h3⟩ | ⟨h1, ⟨m, h3⟩ | ⟨m, h3⟩⟩
  · refine .inl ⟨n, h1, h2, ?_⟩
    clear h1 h2 hsz
    go_enter Tryd.func27, Tryd.ntmps27
    go_wp2_with (go_at_call 35; refine h3.mono ?_; rintro e w1 ⟨rfl, hE⟩)
    go_ret2
    exact ⟨rfl, hE⟩
  · refine .inr ⟨h1, ?_⟩
    have HZ := hide hz
    have HS := hide hsz
    clear h1 hz hsz
    go_enter Tryd.func27, Tryd.ntmps27
    go_wp2_with (go_at_call 35; refine h3.mono ?_; rintro e w1 ⟨rfl, hE⟩; have HE := hide hE; clear hE)
    obtain ⟨ev, q1, q2⟩ := (HZ.out.ext HE.out).1
    refine (Tryd.strconv_toError_syntax _ (str l) 16 64 ev w1 (by rw [HS.out]; omega) q1 q2).mono ?_
    rintro e w2 ⟨N, rfl, _, _, hb⟩
    have HE2 := hide (HE.out.trans hb)
    clear q1 hb
    go_wp2_with fail
    go_ret2
    exact ⟨m, N, rfl, HE2.out⟩
  · refine .inr ⟨h1, ?_⟩
    have HZ := hide hz
    have HS := hide hsz
    clear h1 hz hsz
    go_enter Tryd.func27, Tryd.ntmps27
    go_wp2_with (go_at_call 35; refine h3.mono ?_; rintro e w1 ⟨rfl, hE⟩; have HE := hide hE; clear hE)
    obtain ⟨ev, q1, q2⟩ := (HZ.out.ext HE.out).2
    refine (Tryd.strconv_toError_range _ (str l) 16 64 ev w1 (by rw [HS.out]; omega) q1 q2).mono ?_
    rintro e w2 ⟨N, rfl, _, _, hb⟩
    have HE2 := hide (HE.out.trans hb)
    clear q1 hb
    go_wp2_with fail
    go_ret2
    exact ⟨m, N, rfl, HE2.out⟩
set_option maxRecDepth 100000 in
set_option maxHeartbeats 1000000 in
theorem parse_any (l : List UInt8) (hl : l.length ≤ 1000) (w : World) (ht : TZ w) (hz : EZ w) :
    Calls Tryd.prog 20 #[.string (str l)] w fun e w' => e = .returned (.tuple #[.int .u64 (parseU l).1, .int .i64 (parseU l).2]) ∧ Ext w w' := by
  rcases pu_ways l hl w hz with ⟨n, h1, h2, h3⟩ | ⟨h1, h3⟩
  · have hb := pu16_bound l 0 n (by omega) h1
    obtain ⟨u, rfl⟩ : ∃ u : UInt64, n = u.toNat := ⟨UInt64.ofNat n, by rw [UInt64.toNat_ofNat', Nat.mod_eq_of_lt (by omega)]⟩
    have HT := hide ht
    clear ht hz h2 hb
    by_cases he : hexL u.toNat 16 = l
    · have HP := hide (show parseU l = (u.toNat, 0) by unfold parseU; rw [h1]; simp [he])
      have hne : (hexL u.toNat 16 != l) = false := by simp [he]
      have hne2 : (hexL u.toNat 16 == l) = true := by simp [he]
      clear h1 he
      go_enter Tryd.func20, Tryd.ntmps20
      go_wp2_with (first
        | (go_at_call 27; refine h3.mono ?_; rintro e w1 ⟨rfl, hE⟩; have HE := hide hE; clear hE)
        | (go_at_call 18; refine (digits_any _ _ (HT.out.ext HE.out)).mono ?_; rintro e w2 ⟨rfl, hE⟩; have HE2 := hide (HE.out.trans hE); clear hE))
      go_ret2
      rw [HP.out]
      exact ⟨rfl, HE2.out⟩
    · have HP := hide (show parseU l = (0, 3) by unfold parseU; rw [h1]; simp [he])
      have hne : (hexL u.toNat 16 != l) = true := by simp [he]
      have hne2 : (hexL u.toNat 16 == l) = false := by simp [he]
      clear h1 he
      go_enter Tryd.func20, Tryd.ntmps20
      go_wp2_with (first
        | (go_at_call 27; refine h3.mono ?_; rintro e w1 ⟨rfl, hE⟩; have HE := hide hE; clear hE)
        | (go_at_call 18; refine (digits_any _ _ (HT.out.ext HE.out)).mono ?_; rintro e w2 ⟨rfl, hE⟩; have HE2 := hide (HE.out.trans hE); clear hE))
      go_ret2
      rw [HP.out]
      exact ⟨rfl, HE2.out⟩
  · have HP := hide (show parseU l = (0, 3) by
      unfold parseU
      cases h : pu16 0 l with
      | ok n =>
        have := h1 n h
        subst this
        simp only
        rw [if_neg]
        intro e
        have := congrArg List.length e
        rw [hexL_length] at this
        cases this
      | «syntax» => rfl
      | range => rfl)
    clear h1 hz ht
    go_enter Tryd.func20, Tryd.ntmps20
    go_wp2_with (go_at_call 27; refine h3.mono ?_; rintro e w1 ⟨m, N, rfl, hE⟩; have HE := hide hE; clear hE)
    go_ret2
    rw [HP.out]
    exact ⟨rfl, HE.out⟩
end Go.Proofs.YtpnniiildnkeaaaDoor
