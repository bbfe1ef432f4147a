/-
  Hits of the program and of the reference; the example that every statement of layer 27 checks first.
-/
import Derived.Test.YtfjddphjjhhjpaaDoorFauE
namespace Go.Proofs.YtfjddphjjhhjpaaDoor
open Go.RowKit
set_option linter.unusedVariables false

def hitsB (x : Pl) (c n a : Int) : Bool := validPl x && (x.k != 0) && (x.c == c) && (x.n == n) && (a == 1)
set_option maxRecDepth 100000 in
set_option maxHeartbeats 2000000 in
theorem hits_any (x : Pl) (c n a : Int) (w : World) : Calls Tryd.prog 15 #[.agg #[.int .i64 x.c, .int .i64 x.n, .int .i64 x.e, .int .i64 x.k, .int .i64 x.s, .int .i64 x.p, .int .i64 x.m], .int .i64 c, .int .i64 n, .int .i64 a] w fun e w' => e = .returned (.bool (hitsB x c n a)) ∧ Ext w w' := by
  have HV := hide (fvalid_any x)
  have HB := hide (Blk.new w 28 #[.int .i64 x.c, .int .i64 x.n, .int .i64 x.e, .int .i64 x.k, .int .i64 x.s, .int .i64 x.p, .int .i64 x.m])
  have HX := hide (Ext.alloc w (.cells #[.int .i64 x.c, .int .i64 x.n, .int .i64 x.e, .int .i64 x.k, .int .i64 x.s, .int .i64 x.p, .int .i64 x.m] 28))
  have HR := hide (show hitsB x c n a = (validPl x && (x.k != 0) && (x.c == c) && (x.n == n) && (a == 1)) from rfl)
  generalize validPl x = v at *
  cases h1 : (x.k != 0) <;> cases h2 : (x.c == c) <;> cases h3 : (x.n == n) <;> cases v
  all_goals
    have HR2 := hide (HR.out)
    rw [h1, h2, h3] at HR2
    clear HR
    go_enter Tryd.func15, Tryd.ntmps15
    go_wp2_with (go_at_call 13; refine (HV.out _).mono ?_; rintro e w1 ⟨rfl, hE1⟩; have HE1 := hide (HX.out.trans hE1); have HB1 := hide (HB.out.ext hE1); have hbc := HB1.out.cell; clear hE1)
    go_ret
    exact ⟨ret_bool' (by rw [HR2.out]; simp), HE1.out⟩
set_option maxRecDepth 100000 in
set_option maxHeartbeats 2000000 in
theorem rhits_any (x : Pl) (c n a : Int) (w : World) : Calls Tryd.prog 16 #[.agg #[.int .i64 x.c, .int .i64 x.n, .int .i64 x.e, .int .i64 x.k, .int .i64 x.s, .int .i64 x.p, .int .i64 x.m], .int .i64 c, .int .i64 n, .int .i64 a] w fun e w' => e = .returned (.bool (hitsB x c n a)) ∧ Ext w w' := by
  have HV := hide (rvalid_any x)
  have HB := hide (Blk.new w 23 #[.int .i64 x.c, .int .i64 x.n, .int .i64 x.e, .int .i64 x.k, .int .i64 x.s, .int .i64 x.p, .int .i64 x.m])
  have HX := hide (Ext.alloc w (.cells #[.int .i64 x.c, .int .i64 x.n, .int .i64 x.e, .int .i64 x.k, .int .i64 x.s, .int .i64 x.p, .int .i64 x.m] 23))
  have HR := hide (show hitsB x c n a = (validPl x && (x.k != 0) && (x.c == c) && (x.n == n) && (a == 1)) from rfl)
  generalize validPl x = v at *
  cases h1 : (x.k != 0) <;> cases h2 : (x.c == c) <;> cases h3 : (x.n == n) <;> cases v
  all_goals
    have HR2 := hide (HR.out)
    rw [h1, h2, h3] at HR2
    clear HR
    go_enter Tryd.func16, Tryd.ntmps16
    go_wp2_with (go_at_call 14; refine (HV.out _).mono ?_; rintro e w1 ⟨rfl, hE1⟩; have HE1 := hide (HX.out.trans hE1); have HB1 := hide (HB.out.ext hE1); have hbc := HB1.out.cell; clear hE1)
    go_ret
    exact ⟨ret_bool' (by rw [HR2.out]; simp), HE1.out⟩
def wakS : List UInt8 := [54, 32, 49, 50, 32, 102, 108, 105, 112, 45, 105, 109, 97, 103, 101, 32, 49, 32, 51, 48, 48, 32, 49, 50, 56]
def wakP : Pl := ⟨6, 12, 1, 4, 0, 300, 128⟩
theorem wakP_valid : validPl wakP = true := by decide
theorem wakP_print : printL wakP = wakS := by
  have d6 : decI 6 = [54] := by unfold decI; simp [dec_step]
  have d12 : decI 12 = [49, 50] := by unfold decI; simp [dec_step]
  have d1 : decI 1 = [49] := by unfold decI; simp [dec_step]
  have d300 : decI 300 = [51, 48, 48] := by unfold decI; simp [dec_step]
  have d128 : decI 128 = [49, 50, 56] := by unfold decI; simp [dec_step]
  have hu : usedL wakP = [1, 300, 128] := by decide
  have hw : wordsP wakP = [[54], [49, 50], nameK 4, [49], [51, 48, 48], [49, 50, 56]] := by
    unfold wordsP
    rw [hu]
    show decI 6 :: decI 12 :: nameK 4 :: [decI 1, decI 300, decI 128] = _
    rw [d6, d12, d1, d300, d128]
  unfold printL
  rw [if_neg (by decide), hw]
  decide
theorem wak_parse {v : Pl} {e : Int} (h : ParseP wakS v e) : v = wakP ∧ e = 0 :=
  h.unique (.inl ⟨wakP_valid, wakP_print, rfl⟩)
set_option maxRecDepth 100000 in
set_option maxHeartbeats 2000000 in
theorem awake27_any (w : World) (ht : Tabs w) : Calls Tryd.prog 8 #[] w fun e w' => e = .returned (.bool true) ∧ Ext w w' := by
  have h1 := parse_any wakS (by decide) w ht
  have H1 := hide (show Calls Tryd.prog 11 #[.string ⟨#[54, 32, 49, 50, 32, 102, 108, 105, 112, 45, 105, 109, 97, 103, 101, 32, 49, 32, 51, 48, 48, 32, 49, 50, 56]⟩] w (fun e w' => ParseE wakS e ∧ Ext w w') from h1)
  have H2 := hide (fun w => hits_any wakP 6 12 1 w)
  have H3 := hide (fun w => fvalid_any wakP w)
  have hh : hitsB wakP 6 12 1 = true := by decide
  rw [hh] at H2
  rw [wakP_valid] at H3
  unfold wakP at H2 H3
  simp only at H2 H3
  clear h1 hh ht
  go_enter Tryd.func8, Tryd.ntmps8
  go_wp2_with (first
    | (go_at_call 11; refine H1.out.mono ?_; rintro e w1 ⟨⟨v, n, rfl, hp⟩, hE1⟩; obtain ⟨rfl, rfl⟩ := wak_parse hp; unfold wakP; simp only []; have HE1 := hide (hE1.alloc' (.cells #[.int .i64 6, .int .i64 12, .int .i64 1, .int .i64 4, .int .i64 0, .int .i64 300, .int .i64 128] 28)); have HB := hide (Blk.new w1 28 #[.int .i64 6, .int .i64 12, .int .i64 1, .int .i64 4, .int .i64 0, .int .i64 300, .int .i64 128]); clear hp hE1 H1)
    | (go_at_call 15; refine (H2.out _).mono ?_; rintro e w2 ⟨rfl, hE2⟩; have HE2 := hide (HE1.out.trans hE2); have hbc := (HB.out.ext hE2).cell; clear hE2)
    | (go_at_call 13; refine (H3.out _).mono ?_; rintro e w3 ⟨rfl, hE3⟩; have HE3 := hide (HE2.out.trans hE3); clear hE3))
  go_ret
  exact ⟨rfl, HE3.out⟩
end Go.Proofs.YtfjddphjjhhjpaaDoor
