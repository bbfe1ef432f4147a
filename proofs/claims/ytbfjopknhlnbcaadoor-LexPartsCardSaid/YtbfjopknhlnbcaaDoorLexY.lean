/-
  LexParts.
-/
import Derived.Test.YtbfjopknhlnbcaaDoorLexX
namespace Go.Proofs.YtbfjopknhlnbcaaDoor
open Go.RowKit
set_option linter.unusedVariables false

theorem OwnT.empty (w : World) (e : TypeId) : OwnT (w.alloc (.cells #[] e)) w.heap.size e (.slice (some ⟨w.heap.size, 0, none⟩) 0 0) [] :=
  World.ownsRow_made w #[] 0 (Nat.le_refl _) (by simp [maxLen]) (by simp)
theorem wp_appendTsN {P : Program} {w : World} {o : Oper} {a : Act} {K : Act → World → Prop} {Q : Exit → Act → World → Prop} {t e : TypeId} (hT : TokT P t e) (s x : Operand)
    (ho : o.op = .call { callee := .builtin .append, args := #[s, x], argTypes := #[t, t] }) (base : Nat) (v : Value) (ts : List Tok) (hv : a.eval s = v) (hown : OwnT w base e v ts) (A : Option Addr) (cap base2 k n m : Nat) (us : List Tok) (hk : ts.length = k) (hn : us.length = n) (hm : k + n = m) (hy : a.eval x = .slice A n cap)
    (hs : OwnT w base2 e (.slice A n cap) us) (hb : m ≤ 1073741824) (hbase : base ≤ w.heap.size)
    (h : ∀ A' cap' w', OwnT w' base e (.slice A' m cap') (ts ++ us) → w.grownBy w' v.ownBlock → K (a.put o.dst (.slice A' m cap')) w') : o.wp P a w K Q := by
  subst hm hk
  exact wp_appendTs hT s x ho base v ts hv hown A cap base2 n us hn hy hs hb hbase fun A' cap' w' h1 h2 _ => h A' cap' w' h1 h2
theorem wpList_appendTsN {P : Program} {w : World} {ops : Array Oper} {rest : List Oper} {o : Oper} {a : Act} {Q : Exit → Act → World → Prop} {t e : TypeId} (hT : TokT P t e) (hw : Region.wanted o (yielded ops a.tmps) = true) (s x : Operand)
    (ho : o.op = .call { callee := .builtin .append, args := #[s, x], argTypes := #[t, t] }) (base : Nat) (v : Value) (ts : List Tok) (hv : a.eval s = v) (hown : OwnT w base e v ts) (A : Option Addr) (cap base2 k n m : Nat) (us : List Tok) (hk : ts.length = k) (hn : us.length = n) (hm : k + n = m) (hy : a.eval x = .slice A n cap)
    (hs : OwnT w base2 e (.slice A n cap) us) (hb : m ≤ 1073741824) (hbase : base ≤ w.heap.size)
    (h : ∀ A' cap' w', OwnT w' base e (.slice A' m cap') (ts ++ us) → w.grownBy w' v.ownBlock → wpList P ops Q rest (a.put o.dst (.slice A' m cap')) w') : wpList P ops Q (o :: rest) a w := by
  refine BigFrame.wpList_want hw fun K hK => ?_
  exact wp_appendTsN hT s x ho base v ts hv hown A cap base2 k n m us hk hn hm hy hs hb hbase fun A' cap' w' h1 h2 => hK _ _ (h A' cap' w' h1 h2)
theorem tks_of {w : World} {base n : Nat} {e : TypeId} {A : Option Addr} {c : Nat} {us : List Tok} (hn : us.length = n) (h : OwnT w base e (.slice A n c) us) : Tks w A c us := by
  subst hn
  exact h.tks.2
theorem theirs_own (A : Option Addr) (cap : Nat) (us : List Tok) (n : Nat) (hn : us.length = n) (w : World) (h : Tks w A cap us) (hl : n ≤ 100000) : Calls Tryd.prog 13 #[.slice A n cap] w fun e w' => (∃ B c, e = .returned (.slice B n c) ∧ OwnT w' w.heap.size 37 (.slice B n c) us) ∧ Ext w w' := by
  subst hn
  exact theirs_any A cap us w h hl
set_option maxRecDepth 100000 in
set_option maxHeartbeats 4000000 in
theorem lexparts_3 (l m : List UInt8) (xs ys : List Tok) (h1 : toksR l = (xs, 0, 0)) (h2 : toksR m = (ys, 0, 0)) (h3 : toksR (l ++ 10 :: m) = (xs ++ ys.map (sh (l.length + 1)), 0, 0)) (hl : l.length ≤ 1000) (hm : m.length ≤ 1000) (w : World) (hz : EZ w) : Calls Tryd.prog 6 #[.string (str l), .string (str m)] w fun e w' => e = .returned (.bool true) ∧ Ext w w' := by
  have HZ := hide hz
  clear hz
  have hsz : (str l).size = l.length := str_size l
  have hsm : (str m).size = m.length := str_size m
  have hbig' : ¬ (1000 : Int) < l.length := by omega
  have hbig2' : ¬ (1000 : Int) < m.length := by omega
  have hc1 : str l ++ (⟨#[10]⟩ : ByteArray) = str (l ++ [10]) := str_app l [10]
  have hc2 := str_app (l ++ [10]) m
  rw [List.append_assoc, List.singleton_append] at hc2
  have hs1 : (⟨#[10]⟩ : ByteArray).size = 1 := rfl
  have hs2 : (str (l ++ [10])).size = l.length + 1 := by rw [str_size]; simp
  obtain ⟨nx, hnx⟩ : ∃ n, xs.length = n := ⟨_, rfl⟩
  obtain ⟨ny, hny⟩ : ∃ n, ys.length = n := ⟨_, rfl⟩
  have hxl : nx ≤ 4000 := by have := toksR_length l; rw [h1] at this; simp only at this; omega
  have hyl : ny ≤ 4000 := by have := toksR_length m; rw [h2] at this; simp only at this; omega
  have HSM := hide (sameL_parts (l.length + 1) xs ys)
  generalize hzs : xs ++ ys.map (sh (l.length + 1)) = zs at *
  have hzl : zs.length = nx + ny := by rw [← hzs]; simp [hnx, hny]
  have HT1 := hide (tokens_ok l xs nx hnx h1)
  have HT2 := hide (tokens_ok m ys ny hny h2)
  have HT3 := hide (tokens_ok (l ++ 10 :: m) zs (nx + ny) hzl h3)
  obtain ⟨nz, hnz⟩ : ∃ n, nx + ny = n := ⟨_, rfl⟩
  rw [hnz] at HT3 hzl
  have HX := hide hnx
  have HY := hide hny
  have HZL := hide hzl
  have HNZ := hide hnz
  have hznl : nz ≤ 8000 := by omega
  clear h1 h2 h3 hzs hnx hny hzl hnz
  go_enter Tryd.func6, Tryd.ntmps6
  go_wp2_with (first
    | (go_at_call 9; refine (awake47_any _ HZ.out).mono ?_; rintro e w1 ⟨rfl, hE1⟩; have HE1 := hide hE1; clear hE1)
    | (go_at_call 10; refine (HT1.out w1 (HZ.out.ext HE1.out)).mono ?_; rintro e w2 ⟨⟨A1, c1, rfl, ho1⟩, hE2⟩; have HO1 := hide ho1; have HE2 := hide (HE1.out.trans hE2); clear ho1 hE2 HT1)
    | (go_at_call 10; refine (HT2.out w2 (HZ.out.ext HE2.out)).mono ?_; rintro e w3 ⟨⟨A2, c2, rfl, ho2⟩, hE3⟩; have HO2 := hide ho2; have HE3 := hide (HE2.out.trans hE3); have HP1 := hide (HO1.out.ext hE3); clear ho2 hE3 HT2)
    | (go_at_call 10; refine (HT3.out w3 (HZ.out.ext HE3.out)).mono ?_; rintro e w4 ⟨⟨A3, c3, rfl, ho3⟩, hE4⟩; have HO3 := hide ho3; have HE4 := hide (HE3.out.trans hE4); have HQ1 := hide (HP1.out.ext hE4); have HQ2 := hide (HO2.out.ext hE4); clear ho3 hE4 HT3))
  clear HP1 HO1 HO2 hc1 hc2 hs1 hs2
  refine (theirs_own A3 c3 zs nz HZL.out w4 HO3.out (by omega)).mono ?_
  rintro e w5 ⟨⟨A4, c4, rfl, ho4⟩, hE5⟩
  have HO4 := hide ho4
  have HE5 := hide (HE4.out.trans hE5)
  have HR1 := hide (HQ1.out.ext (hE5.alloc' (.cells #[] 37)))
  have HR2 := hide (HQ2.out.ext hE5)
  have HB0 := hide (OwnT.empty w5 37)
  clear ho4 hE5 HO3 HQ1 HQ2 HE4
  go_wp2_with fail
  refine (theirs_own A1 c1 xs nx HX.out _ HR1.out (by omega)).mono ?_
  rintro e w6 ⟨⟨A5, c5, rfl, ho5⟩, hE6⟩
  have HO5 := hide ho5
  have HE6 := hide ((Ext.alloc w5 (.cells #[] 37)).trans hE6)
  have HB1 := hide (HB0.out.ext hE6)
  clear ho5 hE6 HR1 HB0
  go_wp2_with (at_builtin; refine wpList_appendTsN rtt (by rfl) _ _ rfl w5.heap.size _ [] rfl HB1.out A5 c5 _ 0 nx nx xs rfl HX.out (Nat.zero_add _) rfl HO5.out (by omega) HE6.out.size ?_; intro A6 c6 w7 ho6 hg6; have HO6 := hide ho6; have HE7 := hide (HE6.out.grown hg6 (fun k hk => by cases hk; exact Nat.le_refl _)); clear ho6 hg6)
  refine (theirs_own A2 c2 ys ny HY.out _ (HR2.out.ext HE7.out) (by omega)).mono ?_
  rintro e w8 ⟨⟨A7, c7, rfl, ho7⟩, hE8⟩
  have HO7 := hide ho7
  have HE8 := hide (HE7.out.trans hE8)
  have HB2 := hide (HO6.out.ext hE8)
  clear ho7 hE8 HR2 HO6 HE7
  go_wp2_with (at_builtin; refine wpList_appendTsN rtt (by rfl) _ _ rfl w5.heap.size _ ([] ++ xs) rfl HB2.out A7 c7 _ nx ny nz ys HX.out HY.out HNZ.out rfl HO7.out (by omega) HE8.out.size ?_; intro A8 c8 w9 ho8 hg8; have HO8 := hide ho8; have HE9 := hide (HE8.out.grown hg8 (fun k hk => (World.ownsRow.lt HB2.out k hk).1)); clear ho8 hg8)
  refine (same_at A4 A8 c4 c8 zs ([] ++ xs ++ ys) nz nz HZL.out (by rw [List.nil_append, List.length_append, HX.out, HY.out, HNZ.out]) false w9 (tks_of HZL.out (HO4.out.ext HE9.out)) (tks_of (by rw [List.nil_append, List.length_append, HX.out, HY.out, HNZ.out]) HO8.out) (by omega) (by omega)).mono ?_
  rw [List.nil_append, HSM.out]
  rintro e w10 ⟨rfl, hE10⟩
  have HE10 := hide (HE9.out.trans hE10)
  clear hE10
  go_wp2_with fail
  go_ret
  exact ⟨rfl, HE5.out.trans HE10.out⟩
set_option maxRecDepth 100000 in
set_option maxHeartbeats 4000000 in
theorem lexparts_1 (l m : List UInt8) (p er : Int) (h1 : toksR l = ([], p, er)) (h2 : (er == 0) = false) (h3 : toksR (l ++ 10 :: m) = ([], p, er)) (hl : l.length ≤ 1000) (hm : m.length ≤ 1000) (w : World) (hz : EZ w) : Calls Tryd.prog 6 #[.string (str l), .string (str m)] w fun e w' => e = .returned (.bool true) ∧ Ext w w' := by
  have HZ := hide hz
  clear hz
  have hsz : (str l).size = l.length := str_size l
  have hsm : (str m).size = m.length := str_size m
  have hbig' : ¬ (1000 : Int) < l.length := by omega
  have hbig2' : ¬ (1000 : Int) < m.length := by omega
  have HT1 := hide (fun w' h => tokens_all l w' h)
  have HT2 := hide (fun w' h => tokens_all m w' h)
  have HT3 := hide (fun w' h => tokens_all (l ++ 10 :: m) w' h)
  have hc1 : str l ++ (⟨#[10]⟩ : ByteArray) = str (l ++ [10]) := str_app l [10]
  have hc2 := str_app (l ++ [10]) m
  rw [List.append_assoc, List.singleton_append] at hc2
  have hs1 : (⟨#[10]⟩ : ByteArray).size = 1 := rfl
  have hs2 : (str (l ++ [10])).size = l.length + 1 := by rw [str_size]; simp
  rw [h1] at HT1
  rw [h3] at HT3
  generalize toksR m = r at *
  obtain ⟨ys, pm, em⟩ := r
  clear h1 h3
  have h2n : (er != 0) = true := by rw [bne, h2]; rfl
  go_enter Tryd.func6, Tryd.ntmps6
  go_wp2_with (first
    | (go_at_call 9; refine (awake47_any _ HZ.out).mono ?_; rintro e w1 ⟨rfl, hE1⟩; have HE1 := hide hE1; clear hE1)
    | (go_at_call 10; refine (HT1.out w1 (HZ.out.ext HE1.out)).mono ?_; rintro e w2 ⟨⟨A1, c1, rfl, ho1⟩, hE2⟩; have HO1 := hide ho1; have HE2 := hide (HE1.out.trans hE2); clear ho1 hE2 HT1)
    | (go_at_call 10; refine (HT2.out w2 (HZ.out.ext HE2.out)).mono ?_; rintro e w3 ⟨⟨A2, c2, rfl, ho2⟩, hE3⟩; have HO2 := hide ho2; have HE3 := hide (HE2.out.trans hE3); have HP1 := hide (HO1.out.ext hE3); clear ho2 hE3 HT2)
    | (go_at_call 10; refine (HT3.out w3 (HZ.out.ext HE3.out)).mono ?_; rintro e w4 ⟨⟨A3, c3, rfl, ho3⟩, hE4⟩; have HO3 := hide ho3; have HE4 := hide (HE3.out.trans hE4); have HQ1 := hide (HP1.out.ext hE4); have HQ2 := hide (HO2.out.ext hE4); clear ho3 hE4 HT3))
  go_ret
  exact ⟨rfl, HE4.out⟩
set_option maxRecDepth 100000 in
set_option maxHeartbeats 4000000 in
theorem lexparts_2 (l m : List UInt8) (xs : List Tok) (p : Nat) (er : Int) (hpl : p ≤ 1000) (h1 : toksR l = (xs, 0, 0)) (h2 : toksR m = ([], (p : Int), er)) (h3 : (er == 0) = false) (h4 : toksR (l ++ 10 :: m) = ([], (p : Int) + (l.length : Int) + 1, er)) (hl : l.length ≤ 1000) (hm : m.length ≤ 1000) (w : World) (hz : EZ w) : Calls Tryd.prog 6 #[.string (str l), .string (str m)] w fun e w' => e = .returned (.bool true) ∧ Ext w w' := by
  have HZ := hide hz
  clear hz
  have hsz : (str l).size = l.length := str_size l
  have hsm : (str m).size = m.length := str_size m
  have hbig' : ¬ (1000 : Int) < l.length := by omega
  have hbig2' : ¬ (1000 : Int) < m.length := by omega
  have HT1 := hide (fun w' h => tokens_all l w' h)
  have HT2 := hide (fun w' h => tokens_all m w' h)
  have HT3 := hide (fun w' h => tokens_all (l ++ 10 :: m) w' h)
  have hc1 : str l ++ (⟨#[10]⟩ : ByteArray) = str (l ++ [10]) := str_app l [10]
  have hc2 := str_app (l ++ [10]) m
  rw [List.append_assoc, List.singleton_append] at hc2
  have hs1 : (⟨#[10]⟩ : ByteArray).size = 1 := rfl
  have hs2 : (str (l ++ [10])).size = l.length + 1 := by rw [str_size]; simp
  rw [h1] at HT1
  rw [h2] at HT2
  rw [h4] at HT3
  clear h1 h2 h4
  have h2n : (er != 0) = true := by rw [bne, h3]; rfl
  go_enter Tryd.func6, Tryd.ntmps6
  go_wp2_with (first
    | (go_at_call 9; refine (awake47_any _ HZ.out).mono ?_; rintro e w1 ⟨rfl, hE1⟩; have HE1 := hide hE1; clear hE1)
    | (go_at_call 10; refine (HT1.out w1 (HZ.out.ext HE1.out)).mono ?_; rintro e w2 ⟨⟨A1, c1, rfl, ho1⟩, hE2⟩; have HO1 := hide ho1; have HE2 := hide (HE1.out.trans hE2); clear ho1 hE2 HT1)
    | (go_at_call 10; refine (HT2.out w2 (HZ.out.ext HE2.out)).mono ?_; rintro e w3 ⟨⟨A2, c2, rfl, ho2⟩, hE3⟩; have HO2 := hide ho2; have HE3 := hide (HE2.out.trans hE3); have HP1 := hide (HO1.out.ext hE3); clear ho2 hE3 HT2)
    | (go_at_call 10; refine (HT3.out w3 (HZ.out.ext HE3.out)).mono ?_; rintro e w4 ⟨⟨A3, c3, rfl, ho3⟩, hE4⟩; have HO3 := hide ho3; have HE4 := hide (HE3.out.trans hE4); have HQ1 := hide (HP1.out.ext hE4); have HQ2 := hide (HO2.out.ext hE4); clear ho3 hE4 HT3))
  go_ret
  exact ⟨rfl, HE4.out⟩
set_option maxRecDepth 100000 in
set_option maxHeartbeats 4000000 in
theorem lexparts_any (l m : List UInt8) (w : World) (hz : EZ w) : Calls Tryd.prog 6 #[.string (str l), .string (str m)] w fun e w' => e = .returned (.bool true) ∧ Ext w w' := by
  have hsz : (str l).size = l.length := str_size l
  have hsm : (str m).size = m.length := str_size m
  have HZ := hide hz
  clear hz
  by_cases hbig : 1000 < l.length
  · have hbig' : (1000 : Int) < l.length := by omega
    go_enter Tryd.func6, Tryd.ntmps6
    go_wp2_with (first
      | (go_at_call 9; refine (awake47_any _ HZ.out).mono ?_; rintro e w1 ⟨rfl, hE1⟩; have HE1 := hide hE1; clear hE1))
    go_ret
    exact ⟨rfl, HE1.out⟩
  · have hbig' : ¬ (1000 : Int) < l.length := by omega
    by_cases hbig2 : 1000 < m.length
    · have hbig2' : (1000 : Int) < m.length := by omega
      go_enter Tryd.func6, Tryd.ntmps6
      go_wp2_with (first
      | (go_at_call 9; refine (awake47_any _ HZ.out).mono ?_; rintro e w1 ⟨rfl, hE1⟩; have HE1 := hide hE1; clear hE1))
      go_ret
      exact ⟨rfl, HE1.out⟩
    · have hbig2' : ¬ (1000 : Int) < m.length := by omega
      rcases parts_ways l m (by omega) (by omega) with ⟨p, er, h1, h2, h3⟩ | ⟨xs, p, er, hpl, h1, h2, h3, h4⟩ | ⟨xs, ys, h1, h2, h3⟩
      · exact lexparts_1 l m p er h1 h2 h3 (by omega) (by omega) w HZ.out
      · exact lexparts_2 l m xs p er hpl h1 h2 h3 h4 (by omega) (by omega) w HZ.out
      · exact lexparts_3 l m xs ys h1 h2 h3 (by omega) (by omega) w HZ.out
end Go.Proofs.YtbfjopknhlnbcaaDoor
