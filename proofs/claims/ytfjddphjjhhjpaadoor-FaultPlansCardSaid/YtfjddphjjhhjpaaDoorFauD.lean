/-
  The program's Print.
-/
import Derived.Test.YtfjddphjjhhjpaaDoorFauR
namespace Go.Proofs.YtfjddphjjhhjpaaDoor
open Go.RowKit
set_option linter.unusedVariables false

/-- A row of strings of the call's own. -/
def OwnS (w : World) (base : Nat) (v : Value) (n : Nat) (ls : List (List UInt8)) : Prop := w.ownsRow base 9 1 v n (ls.map fun x => Value.string ⟨x.toArray⟩)
theorem OwnS.ext {w w' : World} {base n : Nat} {v : Value} {ls : List (List UInt8)} (h : OwnS w base v n ls) (he : Ext w w') : OwnS w' base v n ls := World.ownsRow.kept h (he.grownBy none) (by cases v.ownBlock <;> simp)
theorem st_info : (Tryd.prog.info? 9).map (fun i => (i.zero, i.size, i.bytes)) = some (some (.string ⟨#[]⟩), 1, 16) := by kernel_rfl
theorem run_appendS {w : World} (ty : TypeId) (base : Nat) (b c k : Nat) (ls : List (List UInt8)) (hown : OwnS w base (.slice (some ⟨b, 0, none⟩) k c) k ls) (g : Nat) (x : List UInt8) (hg : Blk w g 9 #[.string (str x)])
    (hb : k ≤ 1000) (hbase : base ≤ w.heap.size) :
    ∃ b' c' w', (Builtin.append_ #[74, 74] ty #[.slice (some ⟨b, 0, none⟩) k c, .slice (some ⟨g, 0, none⟩) 1 1]).run Tryd.prog w = .ok (.slice (some ⟨b', 0, none⟩) (k + 1) c') w' ∧ OwnS w' base (.slice (some ⟨b', 0, none⟩) (k + 1) c') (k + 1) (ls ++ [x]) ∧ w.grownBy w' (some b) ∧ (b' = b ∨ b' = w.heap.size) := by
  obtain ⟨i, hi, hz, hz1, hz2⟩ := info_parts st_info
  obtain ⟨v', w', hrun, h2, h3, _, h5⟩ := run_append_own_at (P := Tryd.prog) w base 74 ty 9 i (.string ⟨#[]⟩) 1 16 Tryd.underlying74 hi hz hz1 hz2 rfl (by decide) (.slice (some ⟨b, 0, none⟩) k c) k _ hown ⟨g, 0, none⟩ 1 1 [.string (str x)] rfl
    (fun j u hj => by
      rw [Addr.add_lit, Nat.zero_add, hg.cell]
      simpa using hj) (by simp [Value.oneCell']) (by simp only [maxLen]; omega) (by omega) hbase
  obtain ⟨b', c', hv'⟩ : ∃ b' c', v' = .slice (some ⟨b', 0, none⟩) (k + 1) c' := by
    rcases h2.2 with ⟨_, h0⟩ | ⟨g', c', cur, rfl, _⟩
    · omega
    · exact ⟨g', c', rfl⟩
  subst hv'
  refine ⟨b', c', w', hrun, ?_, h3, h5.imp (fun e => Option.some.inj e) (fun e => Option.some.inj e)⟩
  unfold OwnS
  rw [List.map_append]
  exact h2
theorem wpList_appendS {w : World} {ops : Array Oper} {rest : List Oper} {o : Oper} {a : Act} {Q : Exit → Act → World → Prop} (hgd : o.guard = none) (s x : Operand)
    (ho : o.op = .call { callee := .builtin .append, args := #[s, x], argTypes := #[74, 74] }) (base : Nat) (b c k : Nat) (ls : List (List UInt8)) (hv : a.eval s = .slice (some ⟨b, 0, none⟩) k c) (hown : OwnS w base (.slice (some ⟨b, 0, none⟩) k c) k ls)
    (g : Nat) (y : List UInt8) (hx : a.eval x = .slice (some ⟨g, 0, none⟩) 1 1) (hg : Blk w g 9 #[.string (str y)]) (hb : k ≤ 1000) (hbase : base ≤ w.heap.size)
    (h : ∀ b' c' w', OwnS w' base (.slice (some ⟨b', 0, none⟩) (k + 1) c') (k + 1) (ls ++ [y]) → w.grownBy w' (some b) → (b' = b ∨ b' = w.heap.size) → wpList Tryd.prog ops Q rest (a.put o.dst (.slice (some ⟨b', 0, none⟩) (k + 1) c')) w') :
    wpList Tryd.prog ops Q (o :: rest) a w := by
  obtain ⟨b', c', w', hr, q1, q2, q3⟩ := run_appendS (w := w) o.type base b c k ls hown g y hg hb hbase
  refine wpList_plain hgd fun K hK => ?_
  unfold Oper.wp execOp
  simp only [ho, resolve, invoke, builtin, Sem.run_bind, Sem.run_pure, Result.andThen_ok, List.map_toArray, List.map_cons, List.map_nil, hv, hx, hr]
  exact hK _ _ (h b' c' w' q1 q2 q3)
theorem joinTail_le : ∀ r : List (List UInt8), (∀ w ∈ r, w.length ≤ 12) → (Lib.joinTail [32] r).length ≤ 13 * r.length
  | [], _ => by simp [Lib.joinTail]
  | x :: r, h => by
    have h1 := joinTail_le r (fun w hw => h w (List.mem_cons_of_mem _ hw))
    have h2 := h x (List.mem_cons_self ..)
    rw [joinTail_cons]
    simp only [List.length_cons, List.length_append]
    omega
theorem words_len {x : Pl} (hx : validPl x = true) (hk : x.k ≠ 0) : (∀ w ∈ wordsP x, w.length ≤ 12) ∧ (wordsP x).length ≤ 6 := by
  have hb := vals_bound hx hk
  have hd : ∀ n : Int, n ≤ 1000000 → (decI n).length ≤ 12 := fun n hn => by
    have := dec_length 6 n.toNat (by omega)
    unfold decI; omega
  refine ⟨fun w hw => ?_, ?_⟩
  · unfold wordsP at hw
    simp only [List.mem_cons, List.mem_map] at hw
    rcases hw with rfl | rfl | rfl | ⟨u, hu, rfl⟩
    · exact hd _ (hb _ (List.mem_cons_self ..)).2
    · exact hd _ (hb _ (List.mem_cons_of_mem _ (List.mem_cons_self ..))).2
    · rcases kind_ways (valid_kind hx hk) with h | h | h | h | h | h | h | h | h <;> rw [h] <;> decide
    · exact hd _ (hb _ (List.mem_cons_of_mem _ (List.mem_cons_of_mem _ hu))).2
  · have := offU_length x.k
    have := usedL_length x
    unfold wordsP
    simp only [List.length_cons, List.length_map]
    omega
theorem print_len {x : Pl} (hx : validPl x = true) : (printL x).length ≤ 100 := by
  unfold printL
  by_cases hk : x.k = 0
  · rw [if_pos hk]; decide
  · rw [if_neg hk]
    obtain ⟨h1, h2⟩ := words_len hx hk
    unfold wordsP at h1 h2 ⊢
    rw [Lib.join_cons, List.length_append]
    have h3 := joinTail_le _ (fun w hw => h1 w (List.mem_cons_of_mem _ hw))
    have h4 := h1 _ (List.mem_cons_self ..)
    simp only [List.length_cons] at h2 h3
    omega
def plC (x : Pl) : Array Value := #[.int .i64 x.c, .int .i64 x.n, .int .i64 x.e, .int .i64 x.k, .int .i64 x.s, .int .i64 x.p, .int .i64 x.m]
/-- The fields that are used lie at their offsets. -/
theorem used_cell (x : Pl) (j : Nat) (hj : j < (usedL x).length) (ho : j < (offU x.k).length) : (plC x)[(offU x.k)[j]]? = some (.int .i64 (usedL x)[j]) := by
  have key : ∀ (os : List Nat) (us : List Int), os = offU x.k → us = usedL x → ∀ j (h1 : j < us.length) (h2 : j < os.length), (plC x)[os[j]]? = some (.int .i64 us[j]) := by
    intro os us h1 h2 j hj ho
    unfold offU at h1
    unfold usedL at h2
    by_cases k1 : inB x.k 1 3 = true
    · rw [if_pos k1] at h1 h2
      subst h1 h2
      have hc : j = 0 ∨ j = 1 := by simp at ho; omega
      rcases hc with rfl | rfl <;> rfl
    · rw [if_neg k1] at h1 h2
      by_cases k2 : inB x.k 4 7 = true
      · rw [if_pos k2] at h1 h2
        subst h1 h2
        have hc : j = 0 ∨ j = 1 ∨ j = 2 := by simp at ho; omega
        rcases hc with rfl | rfl | rfl <;> rfl
      · rw [if_neg k2] at h1 h2
        by_cases k3 : x.k = 8
        · rw [if_pos k3] at h1 h2
          subst h1 h2
          have hc : j = 0 := by simp at ho; omega
          subst hc; rfl
        · rw [if_neg k3] at h1
          subst h1
          simp at ho
  exact key _ _ rfl rfl j hj ho
theorem name_index (k : Int) (hk : 1 ≤ k ∧ k ≤ 9) (w : World) : (Instr.index 71 (.agg namesV) (.int .i64 k)).run Tryd.prog w = .ok (.string (str (nameK k))) w := by
  rcases kind_ways hk with rfl | rfl | rfl | rfl | rfl | rfl | rfl | rfl | rfl <;> kernel_rfl
/-- What Print returns. -/
def printE (x : Pl) : Int := if validPl x then 0 else 1
def printS (x : Pl) : List UInt8 := if validPl x then printL x else []
set_option maxRecDepth 100000 in
set_option maxHeartbeats 4000000 in
theorem print_any (x : Pl) (w : World) (ht : Tabs w) : Calls Tryd.prog 9 #[.agg #[.int .i64 x.c, .int .i64 x.n, .int .i64 x.e, .int .i64 x.k, .int .i64 x.s, .int .i64 x.p, .int .i64 x.m]] w fun e w' => e = .returned (.tuple #[.string (str (printS x)), .int .i64 (printE x)]) ∧ Ext w w' := by
  have HT := hide ht
  have HV := hide (fvalid_any x)
  have HB := hide (Blk.new w 28 #[.int .i64 x.c, .int .i64 x.n, .int .i64 x.e, .int .i64 x.k, .int .i64 x.s, .int .i64 x.p, .int .i64 x.m])
  have HX := hide (Ext.alloc w (.cells #[.int .i64 x.c, .int .i64 x.n, .int .i64 x.e, .int .i64 x.k, .int .i64 x.s, .int .i64 x.p, .int .i64 x.m] 28))
  clear ht
  cases hv : validPl x with
  | false =>
    have HS := hide (show printS x = [] by unfold printS; rw [hv]; rfl)
    have HE := hide (show printE x = 1 by unfold printE; rw [hv]; rfl)
    rw [hv] at HV
    clear hv
    go_enter Tryd.func9, Tryd.ntmps9
    go_wp2_with (go_at_call 13; refine (HV.out _).mono ?_; rintro e w1 ⟨rfl, hE1⟩; have HE1 := hide hE1; clear hE1)
    go_ret2
    exact ⟨by rw [HS.out, HE.out]; rfl, HX.out.trans HE1.out⟩
  | true =>
    have HS := hide (show printS x = printL x by unfold printS; rw [hv]; rfl)
    have HE := hide (show printE x = 0 by unfold printE; rw [hv]; rfl)
    rw [hv] at HV
    by_cases hk : x.k = 0
    · have hkb : (x.k == 0) = true := by simp [hk]
      have HP := hide (show printL x = [110, 111, 110, 101] by unfold printL; rw [if_pos hk])
      have hi0 : ∀ w, (Instr.index 71 (.agg namesV) (.int .i64 0)).run Tryd.prog w = .ok (.string (str [110, 111, 110, 101])) w := fun w => by kernel_rfl
      clear hv hk
      go_enter Tryd.func9, Tryd.ntmps9
      go_wp2_with (first
        | (go_at_call 13; refine (HV.out _).mono ?_; rintro e w1 ⟨rfl, hE1⟩; have HE1 := hide (HX.out.trans hE1); have hbc := (HB.out.ext hE1).cell; clear hE1)
        | (go_at_call 33; refine (names_any _).mono ?_; rintro e w2 ⟨rfl, hE2⟩; have HE2 := hide (HE1.out.trans hE2); clear hE2))
      go_ret2
      exact ⟨by rw [HS.out, HE.out, HP.out]; rfl, HE2.out⟩
    · have hkb : (x.k == 0) = false := by simp [hk]
      have hkk := valid_kind hv hk
      have HVAL := hide hv
      have HK0 := hide hk
      have HIX := hide (name_index x.k hkk)
      have hb := vals_bound hv hk
      have hbc0 := hb x.c (List.mem_cons_self ..)
      have hbn0 := hb x.n (List.mem_cons_of_mem _ (List.mem_cons_self ..))
      have HBD := hide hb
      clear hv hk hb
      go_enter Tryd.func9, Tryd.ntmps9
      go_wp2_with (first
        | (go_at_call 13; refine (HV.out _).mono ?_; rintro e w1 ⟨rfl, hE1⟩; have HE1 := hide (HX.out.trans hE1); have HB1 := hide (HB.out.ext hE1); have hbc := HB1.out.cell; clear hE1))
      have hc9 : x.c ≤ 9223372036854775807 := by omega
      have hn9 : x.n ≤ 9223372036854775807 := by omega
      have hbc1 := hbc0.1
      have hbn1 := hbn0.1
      refine wp_region_ext 12 5 [(2, fun v => v = .string (str (decI x.c)), fun _ _ => True), (5, fun v => v = .string (str (decI x.n)), fun _ _ => True), (6, fun v => v = .agg namesV, fun _ _ => True), (9, fun v => v = .string (str (nameK x.k)), fun _ _ => True),
        (10, fun v => ∃ g, v = .slice (some ⟨g, 0, none⟩) 3 3, fun v w' => ∃ g, v = .slice (some ⟨g, 0, none⟩) 3 3 ∧ w1.heap.size ≤ g ∧ Blk w' g 9 #[.string (str (decI x.c)), .string (str (decI x.n)), .string (str (nameK x.k))])] mixed (by kernel_rfl)
        ⟨fun _ _ _ _ _ => trivial, fun _ _ _ _ _ => trivial, fun _ _ _ _ _ => trivial, fun _ _ _ _ _ => trivial, fun _ _ _ ⟨g, h1, h2, h3⟩ hx => ⟨g, h1, h2, h3.ext hx⟩, trivial⟩ ?_
      repeat ((refine seq_exact ?_ (by rfl) (by rfl) (fun w1 hU => ?_) ?_); (rotate_left 1); (focus (have h4 := (HB1.out.ext hU.un).cell; clear hU; go_simp <;> with_reducible rfl)); (simp only [Act.put, List.setIfInBounds_toArray, List.set_cons_zero, List.set_cons_succ]))
      refine seq_opaque _ _ (by rfl) rfl ⟨_, rfl⟩ (by simp) (fun w5 hU hp K hK => ?_) ?_
      · have hi := itoa_any x.c (by omega) hc9 w5 ((HT.out.ext HE1.out).ext hU.un)
        go_simp
        refine hi.mono ?_
        rintro e w6 ⟨rfl, hE⟩
        exact hK _ _ hE rfl trivial
      rintro _ rfl
      simp only [Act.put, List.setIfInBounds_toArray, List.set_cons_zero, List.set_cons_succ]
      repeat ((refine seq_exact ?_ (by rfl) (by rfl) (fun w1 hU => ?_) ?_); (rotate_left 1); (focus (have h4 := (HB1.out.ext hU.un).cell; clear hU; go_simp <;> with_reducible rfl)); (simp only [Act.put, List.setIfInBounds_toArray, List.set_cons_zero, List.set_cons_succ]))
      refine seq_opaque _ _ (by rfl) rfl ⟨_, rfl⟩ (by simp) (fun w5 hU hp K hK => ?_) ?_
      · have hi := itoa_any x.n (by omega) hn9 w5 ((HT.out.ext HE1.out).ext hU.un)
        go_simp
        refine hi.mono ?_
        rintro e w6 ⟨rfl, hE⟩
        exact hK _ _ hE rfl trivial
      rintro _ rfl
      simp only [Act.put, List.setIfInBounds_toArray, List.set_cons_zero, List.set_cons_succ]
      refine seq_opaque _ _ (by rfl) rfl ⟨_, rfl⟩ (by simp) (fun w5 hU hp K hK => ?_) ?_
      · have hi := names_any w5
        go_simp
        refine hi.mono ?_
        rintro e w6 ⟨rfl, hE⟩
        exact hK _ _ hE rfl trivial
      rintro _ rfl
      simp only [Act.put, List.setIfInBounds_toArray, List.set_cons_zero, List.set_cons_succ]
      repeat ((refine seq_exact ?_ (by rfl) (by rfl) (fun w1 hU => ?_) ?_); (rotate_left 1); (focus (have h4 := (HB1.out.ext hU.un).cell; clear hU; go_simp <;> with_reducible rfl)); (simp only [Act.put, List.setIfInBounds_toArray, List.set_cons_zero, List.set_cons_succ]))
      refine seq_opaque _ _ (by rfl) rfl ⟨_, rfl⟩ (by simp) (fun w5 hU hp K hK => ?_) ?_
      · have hix := HIX.out
        go_simp
        exact hK _ _ (Ext.refl _) rfl trivial
      rintro _ rfl
      simp only [Act.put, List.setIfInBounds_toArray, List.set_cons_zero, List.set_cons_succ]
      refine seq_opaque _ _ (by rfl) rfl ⟨_, 0, rfl⟩ (by simp) (fun w5 hU hp K hK => ?_) ?_
      · have hz := Ext.size hU.un
        go_simp
        exact hK _ _ (Ext.alloc w5 _) ⟨_, rfl⟩ ⟨_, rfl, hz, Blk.new w5 _ _⟩
      rintro _ ⟨wb, rfl⟩
      simp only [Act.put, List.setIfInBounds_toArray, List.set_cons_zero, List.set_cons_succ]
      repeat ((refine seq_exact ?_ (by rfl) (by rfl) (fun w1 hU => ?_) ?_); (rotate_left 1); (focus (go_simp <;> with_reducible rfl)); (simp only [Act.put, List.setIfInBounds_toArray, List.set_cons_zero, List.set_cons_succ]))
      intro w7 hw7 hp
      obtain ⟨_, e8, hg8, hb8⟩ := hp _ (.head _)
      injection e8 with e8
      injection e8 with e8
      injection e8 with e8
      subst e8
      clear hp
      simp only [List.drop_succ_cons, List.drop_nil]
      have HW7 := hide (show OwnS w7 w.heap.size (.slice (some ⟨wb, 0, none⟩) 3 3) 3 [decI x.c, decI x.n, nameK x.k] from
        ⟨rfl, .inr ⟨wb, 3, _, rfl, by have := HE1.out.size; omega, hb8, Nat.le_refl _, by simp [maxLen], rfl, rfl⟩⟩)
      have HE7 := hide (HE1.out.trans hw7.un)
      have HB7 := hide (HB1.out.ext hw7.un)
      have HB1L := hide HB1.out.lt
      clear hw7 hb8 hbc HB1 HE1 HIX
      go_wp2_with fail
      have hwl := HB7.out.lt
      have hz1 : w.heap.size < w1.heap.size := HB1L.out
      have HL := hide (show OwnS w7 w.heap.size (.slice (some ⟨wb, 0, none⟩) 3 3) 3 ([decI x.c, decI x.n, nameK x.k] ++ ((usedL x).take 0).map decI) from HW7.out)
      refine (used_any w.heap.size x.c x.n x.e x.k x.s x.p x.m w7 HB7.out).mono ?_
      rintro e w8 ⟨⟨A, N, cs, rfl, hs8, hp8, hN8, _, hi8, hba⟩, hE8⟩
      have HS8 := hide hs8
      have HP8 := hide hp8
      have HI8 := hide hi8
      have HN8 := hide (show (usedL x).length = N by rw [hN8, usedL_length])
      have HNO := hide hN8
      have hN3 : N ≤ 3 := by rw [hN8]; exact offU_length x.k
      have HL8 := hide (HL.out.ext hE8)
      have HX8 := hide (HE7.out.trans hE8)
      have HB8 := hide (HB7.out.ext hE8)
      have hwb7 : wb < w7.heap.size := by
        rcases HL.out.2 with ⟨h0, _⟩ | ⟨g, _, _, h0, _, h2, _⟩
        · cases h0
        · injection h0 with h0; injection h0 with h0; injection h0 with h0; subst h0; exact (Array.getElem?_eq_some_iff.1 h2).1
      have HWB := hide (show ∀ h, A = some ⟨h, 0, none⟩ → wb ≠ h from fun h hA e => by have := hba h hA; omega)
      have hwbl : w.heap.size < wb := by omega
      clear hs8 hp8 hi8 hN8 hE8 HL HW7 HE7 HB7 hba
      go_wp2_with fail
      go_loopw [4, 28] (fun vw vi wr => ∃ (j b c : Nat), vw = .slice (some ⟨b, 0, none⟩) (3 + j) c ∧ vi = .int .i64 (j : Int) ∧ j ≤ N ∧ w.heap.size < b ∧ Hid (∀ h, A = some ⟨h, 0, none⟩ → b ≠ h) ∧ Hid (OwnS wr w.heap.size (.slice (some ⟨b, 0, none⟩) (3 + j) c) (3 + j) ([decI x.c, decI x.n, nameK x.k] ++ ((usedL x).take j).map decI)) ∧
        Hid (Blk wr w.heap.size 28 #[.int .i64 x.c, .int .i64 x.n, .int .i64 x.e, .int .i64 x.k, .int .i64 x.s, .int .i64 x.p, .int .i64 x.m]) ∧ Hid (SrcF wr A N cs) ∧ Hid (Ext w wr)) (fun _ vi _ => N - (intOf vi).toNat)
      case atStart => exact ⟨0, wb, 3, rfl, rfl, Nat.zero_le _, hwbl, HWB, HL8, HB8, HS8, HX8⟩
      case round =>
        obtain ⟨j, b, c, rfl, rfl, hj, hbl, HBN, HO, HB9, HS9, HX9⟩ := hrel
        by_cases hlt : j < N
        · have hlt' : (j : Int) < N := by omega
          have hju : j < (usedL x).length := by rw [HN8.out]; exact hlt
          have hjo : j < (offU x.k).length := by rw [← HNO.out]; exact hlt
          obtain ⟨h, rfl, hBh, hcs⟩ : ∃ h, A = some ⟨h, 0, none⟩ ∧ Blk wr h 79 cs.toArray ∧ cs.length = N * 3 := by
            rcases HS9.out with ⟨_, h0, _⟩ | h
            · omega
            · exact h
          have hptr := HP8.out j hjo
          obtain ⟨lo, hi, hlo, hhi⟩ := HI8.out j hlt
          have hc0 : wr.cell? ⟨h, j * 3, none⟩ = some (.pointer (some ⟨w.heap.size, (offU x.k)[j], none⟩)) := by rw [hBh.cell]; simpa using hptr
          have hc1 : wr.cell? ⟨h, j * 3 + 1, none⟩ = some (.int .i64 lo) := by rw [hBh.cell]; simpa using hlo
          have hc2 : wr.cell? ⟨h, j * 3 + 2, none⟩ = some (.int .i64 hi) := by rw [hBh.cell]; simpa using hhi
          have huc := used_cell x j hju hjo
          have hub := HBD.out _ (List.mem_cons_of_mem _ (List.mem_cons_of_mem _ (List.getElem_mem hju)))
          have HTK := hide (show ([decI x.c, decI x.n, nameK x.k] ++ ((usedL x).take j).map decI) ++ [decI (usedL x)[j]] = [decI x.c, decI x.n, nameK x.k] ++ ((usedL x).take (j + 1)).map decI by rw [List.take_succ_eq_append_getElem hju, List.map_append, List.append_assoc]; rfl)
          generalize (usedL x)[j] = u at *
          generalize (offU x.k)[j] = o at *
          have hpo : wr.cell? ⟨w.heap.size, o, none⟩ = some (.int .i64 u) := (HB9.out.cell o).trans huc
          have hhl := hBh.lt
          have hgl := HB9.out.lt
          have hu0 := hub.1
          have hu9 : u ≤ 9223372036854775807 := by omega
          have hf3 : Tryd.prog.cellsOf 79 = 3 := by kernel_rfl
          have hbh : b ≠ h := HBN.out h rfl
          have HH := hide hBh
          clear hptr hlo hhi huc hBh HBN
          go_wp2_with (first
            | (go_at_call 34; refine (itoa_any u hu0 hu9 _ (HT.out.ext (HX9.out.alloc' _))).mono ?_; rintro e w9 ⟨rfl, hE9⟩; have HE10 := hide (((Ext.alloc wr _).trans hE9).alloc' (.cells #[.string (str (decI u))] 9)); have HO10 := hide (HO.out.ext HE10.out); have HG10 := hide (Blk.new w9 9 #[.string (str (decI u))]); have HHL := hide (HH.out.ext HE10.out).lt; have HX10 := hide (HX9.out.trans HE10.out); clear hE9 hc0 hc1 hc2 hpo)
            | (at_builtin; refine wpList_appendS rfl _ _ rfl w.heap.size b c (3 + j) _ rfl HO10.out w9.heap.size (decI u) rfl HG10.out (by omega) HX10.out.size ?_; intro b' c' w11 ho11 hg11 hbb; have HO11 := hide ho11; have HG11 := hide hg11; have HBB := hide hbb; clear ho11 hg11 hbb))
          have hh10 := HHL.out
          have hbg : w.heap.size ≠ b := by omega
          go_roundw
          case rel =>
            refine ⟨j + 1, b', c', rfl, by go_num, by omega, ?_, hide (fun h' e => ?_), hide (by rw [← HTK.out]; exact HO11.out), hide ((HB9.out.ext HE10.out).grown HG11.out (fun e => hbg (Option.some.inj e))), hide (.inr ⟨h, rfl, (HH.out.ext HE10.out).grown HG11.out (fun e => hbh (Option.some.inj e).symm), hcs⟩), hide (HX10.out.grown HG11.out (fun j hj => by injection hj with hj; omega))⟩
            · rcases HBB.out with rfl | rfl
              · exact hbl
              · have := HE10.out.size; omega
            · injection e with e
              injection e with e
              subst e
              rcases HBB.out with rfl | rfl
              · exact hbh
              · omega
          case measure => simp [intOf]; omega
        · have hlt' : ¬ (j : Int) < N := by omega
          have hjN : j = N := by omega
          have HWD := hide (show [decI x.c, decI x.n, nameK x.k] ++ ((usedL x).take j).map decI = wordsP x by rw [List.take_of_length_le (by rw [HN8.out]; omega)]; rfl)
          have hlen : (wordsP x).length = 3 + j := by rw [hjN, ← HN8.out]; simp [wordsP]; omega
          have HW9 := hide (WsR.of_own (show wr.ownsRow w.heap.size 9 1 (.slice (some ⟨b, 0, none⟩) (3 + j) c) (wordsP x).length ((wordsP x).map fun x => Value.string ⟨x.toArray⟩) from by rw [hlen, ← HWD.out]; exact HO.out)).1
          have HJ := hide (show Lib.join (wordsP x) [32] = printL x by unfold printL; rw [if_neg HK0.out])
          have hpl := print_len HVAL.out
          rw [← HJ.out] at hpl
          have HLEN := hide hlen
          clear hlen hjN
          go_wp2_with (go_at_call 36; refine (join_any b c (wordsP x) (3 + j) HLEN.out (by omega) (by omega) wr HW9.out).mono ?_; rintro e w9 ⟨rfl, hE9⟩; have HE9 := hide (HX9.out.trans hE9); clear hE9)
          go_ret2
          exact ⟨by rw [HS.out, HE.out, HJ.out]; rfl, HE9.out⟩
end Go.Proofs.YtfjddphjjhhjpaaDoor
