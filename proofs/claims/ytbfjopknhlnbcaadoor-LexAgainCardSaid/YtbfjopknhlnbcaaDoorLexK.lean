/-
  The reference's literal and number.
-/
import Derived.Test.YtbfjopknhlnbcaaDoorLexJ
namespace Go.Proofs.YtbfjopknhlnbcaaDoor
open Go.RowKit
set_option linter.unusedVariables false

def litV : Option (List UInt8 × Nat) → Value
  | some x => .tuple #[.string (str x.1), .int .i64 (x.2 : Int)]
  | none => .tuple #[.string ⟨#[]⟩, .int .i64 0]
theorem str_app (a b : List UInt8) : str a ++ str b = str (a ++ b) := by
  apply ByteArray.ext
  simp [str]
set_option maxRecDepth 100000 in
set_option maxHeartbeats 2000000 in
theorem rlit_any (m : List UInt8) (hl : m.length ≤ 100000) (w : World) : Calls Tryd.prog 43 #[.string (str m)] w fun e w' => e = .returned (litV (litL m)) ∧ Ext w w' := by
  have hsz : (str m).size = m.length := str_size m
  go_enter Tryd.func43, Tryd.ntmps43
  go_wp2_with fail
  go_loopw [4, 5] (fun vb vi wr => ∃ (b : List UInt8) (j : Nat), vb = .string (str b) ∧ vi = .int .i64 (j : Int) ∧ j ≤ m.length ∧ b.length ≤ j ∧
      Hid (litL m = (litL (m.drop j)).map fun x => (b ++ x.1, j + x.2)) ∧ Ext w wr) (fun _ vi _ => m.length + 1 - (intOf vi).toNat)
  case atStart =>
    refine ⟨[], 0, rfl, rfl, Nat.zero_le _, Nat.le_refl _, hide ?_, Ext.refl _⟩
    cases h : litL m <;> simp [h]
  case round =>
    obtain ⟨b, j, rfl, rfl, hj, hbj, HL, hx⟩ := hrel
    have HX := hide hx
    clear hx
    by_cases hlt : j < m.length
    · have hjs : j < (str m).size := by rw [hsz]; exact hlt
      have hjs2 : j ≤ (str m).size := by rw [hsz]; exact hj
      have hg : (str m)[j] = m[j] := rfl
      have hlt' : (j : Int) < m.length := by omega
      by_cases h34 : m[j] = 34
      · have HR := hide (show litL m = some (b, j + 1) by rw [HL.out, lit_drop_end hlt h34]; simp)
        rw [h34] at hg
        clear h34 HL
        go_wp2_with fail
        exact bodyPost_ret (v := litV (some (b, j + 1))) (by simp [results, Tryd.results43, go_sem, litV]) rfl ⟨by rw [HR.out], HX.out⟩
      · have hgb : ((m[j].toNat : Int) == 34) = false := (u8_eqI m[j] 34 (by omega)).trans (beq_eq_false_iff_ne.2 h34)
        have hex : (str m).extract j m.length = str (m.drop j) := by
          have := str_extract m j m.length
          rw [List.take_of_length_le (by simp)] at this
          exact this
        have HEL := hide (fun w => relem_any (m.drop j) w (by rw [List.length_drop]; omega))
        obtain ⟨hle1, hle2⟩ := elemL_le (m.drop j)
        rw [List.length_drop] at hle1
        have HBD := hide (fun h => lit_drop_bad (m := m) hlt h34 h)
        have HST := hide (fun h => lit_drop_step (m := m) hlt h34 h)
        generalize hv : (elemL (m.drop j)).1 = v at *
        generalize hn : (elemL (m.drop j)).2 = n at *
        generalize m[j] = d at *
        have hvb := v.toNat_lt
        have hvb' : (v.toNat : Int) < 256 := by omega
        clear hv hn h34
        generalize hdr : m.drop j = mj at *
        clear hdr
        by_cases hn0 : n = 0
        · have HR := hide (show litL m = none by rw [HL.out, HBD.out hn0]; rfl)
          subst hn0
          clear HL HBD HST
          go_wp2_with (go_at_call 42; refine (HEL.out _).mono ?_; rintro e w1 ⟨rfl, hE⟩; have HE := hide (HX.out.trans hE); clear hE)
          exact bodyPost_ret (v := litV none) (by simp [results, Tryd.results43, go_sem, litV]) rfl ⟨by rw [HR.out], HE.out⟩
        · have hnb : ((n : Int) == 0) = false := by simp [hn0]
          have hn1 : 1 ≤ n := by omega
          have HL2 := hide (show litL m = (litL (m.drop (j + n))).map fun x => ((b ++ [v]) ++ x.1, (j + n) + x.2) by
            rw [HL.out, HST.out hn0, Option.map_map]
            congr 1
            funext x
            simp [Nat.add_assoc])
          have hap := str_app b [v]
          have hbs : (str b).size = b.length := str_size b
          have hvs : (str [v]).size = 1 := str_size [v]
          clear HL HBD HST hn0
          go_wp2_with (go_at_call 42; refine (HEL.out _).mono ?_; rintro e w1 ⟨rfl, hE⟩; have hcv : Sem.run Tryd.prog (convert 48 9 (.slice (some ⟨w1.heap.size, 0, none⟩) 1 1)) (w1.alloc (.cells #[.int .u8 (v.toNat : Int)] 5)) = .ok (.string (str [v])) (w1.alloc (.cells #[.int .u8 (v.toNat : Int)] 5)) := (Sl.one w1 v).convert (P := Tryd.prog) (src := 48) (dst := 9) Tryd.underlying48 Tryd.underlying5 Tryd.underlying9; have HE := hide (HX.out.trans (hE.alloc' (.cells #[.int .u8 (v.toNat : Int)] 5))); clear hE)
          go_roundw
          case rel => exact ⟨b ++ [v], j + n, rfl, by go_num, by omega, by rw [List.length_append]; simp; omega, HL2, HE.out⟩
          case measure => simp [intOf]; omega
    · have hmj : m.drop j = [] := List.drop_of_length_le (by omega)
      have HR := hide (show litL m = none by rw [HL.out, hmj]; rfl)
      have hlt' : ¬ (j : Int) < m.length := by omega
      clear HL hmj
      go_wp2_with fail
      exact bodyPost_ret (v := litV none) (by simp [results, Tryd.results43, go_sem, litV]) rfl ⟨by rw [HR.out], HX.out⟩
/-! ### number -/
theorem decV_take {l : List UInt8} {j : Nat} (h : j < l.length) : decV (l.take (j + 1)) = decV (l.take j) * 10 + (l[j].toNat - 48) := by
  unfold decV
  rw [List.take_succ_eq_append_getElem h, List.foldl_append]
  rfl
/-- The number as the reference keeps it: not beyond 2^40. -/
def satV (l : List UInt8) (j : Nat) : Nat := min (decV (l.take j)) 1099511627776
theorem satV_step {l : List UInt8} {j : Nat} (h : j < l.length) : satV l (j + 1) = min (10 * satV l j + (l[j].toNat - 48)) 1099511627776 := by
  unfold satV
  rw [decV_take h]
  omega
theorem spanN_at_len {p : UInt8 → Bool} {l : List UInt8} {j : Nat} (hj : j ≤ spanN p l) (hlt : ¬ j < l.length) : spanN p l = j := by
  have := spanN_le p l
  omega
theorem spanN_at_stop {p : UInt8 → Bool} {l : List UInt8} {j : Nat} (hj : j ≤ spanN p l) (hlt : j < l.length) (h : p l[j] = false) : spanN p l = j := by
  have h1 := spanN_drop p l j hj
  rw [spanN_step p hlt, h] at h1
  simpa using h1
set_option maxRecDepth 100000 in
set_option maxHeartbeats 4000000 in
theorem rnumber_any (c : UInt8) (m : List UInt8) (hc : digB c = true) (hl : (c :: m).length ≤ 100000) (w : World) : Calls Tryd.prog 41 #[.string (str (c :: m))] w fun e w' => e = .returned (tokV (numT (c :: m))) ∧ Ext w w' := by
  have hsz : (str (c :: m)).size = m.length + 1 := by rw [str_size]; rfl
  have h0 : 0 < (str (c :: m)).size := by rw [hsz]; omega
  have hg0 : (str (c :: m))[0] = c := rfl
  have hl1 : m.length ≤ 99999 := by simpa using hl
  have HC := hide hc
  clear hc
  go_enter Tryd.func41, Tryd.ntmps41
  go_wp2_with fail
  go_loop [5, 6] (fun vi vv => ∃ j : Nat, vi = .int .i64 (j : Int) ∧ vv = .int .i64 (satV (c :: m) j : Int) ∧ Hid (j ≤ spanN digB (c :: m))) (fun vi _ => m.length + 1 - (intOf vi).toNat)
  case atStart => exact ⟨0, rfl, rfl, hide (Nat.zero_le _)⟩
  case round =>
    obtain ⟨j, rfl, rfl, HJ⟩ := hrel
    have HX := hide (Ext.alloc w (.cells #[.int .i64 0, .string ⟨#[]⟩, .int .i64 0, .int .i64 0] 37))
    have HB := hide (Blk.new w 37 #[.int .i64 0, .string ⟨#[]⟩, .int .i64 0, .int .i64 0])
    have hjl : j ≤ m.length + 1 := by have := HJ.out; have := spanN_le digB (c :: m); simp at this; omega
    have hsat : satV (c :: m) j ≤ 1099511627776 := Nat.min_le_right _ _
    by_cases hlt : j < m.length + 1
    · have hns : j < (str (c :: m)).size := by rw [hsz]; exact hlt
      have hg : (str (c :: m))[j] = (c :: m)[j]'hlt := rfl
      have hlt' : (j : Int) < m.length + 1 := by omega
      have HD := hide (rdigit_any ((c :: m)[j]'hlt))
      have HI := hide (inner_any ((c :: m)[j]'hlt))
      have HSP := hide (fun h => spanN_at_stop (p := digB) (l := c :: m) HJ.out hlt h)
      have HHD := hide (num_in c m (n := j) hlt)
      have hdr := spanN_drop digB (c :: m) j HJ.out
      have hst := spanN_step digB (l := c :: m) (j := j) hlt
      have HSV := hide (satV_step (l := c :: m) (j := j) hlt)
      generalize (c :: m)[j]'hlt = d at *
      cases hp : digB d with
      | true =>
        have hd : 48 ≤ d.toNat ∧ d.toNat ≤ 57 := by unfold digB at hp; simpa using hp
        have hd1 : (48 : Int) ≤ d.toNat := by omega
        have hd2 : (d.toNat : Int) ≤ 57 := by omega
        have HJ2 := hide (show j + 1 ≤ spanN digB (c :: m) by rw [hp, if_pos rfl] at hst; omega)
        rw [hp] at HD
        clear HSP hp hst hdr HHD hd
        by_cases hmx : 10 * satV (c :: m) j + (d.toNat - 48) ≤ 1099511627776
        · have hsv : satV (c :: m) (j + 1) = 10 * satV (c :: m) j + (d.toNat - 48) := by rw [HSV.out]; omega
          have HSV2 := hide (show (satV (c :: m) (j + 1) : Int) = 10 * (satV (c :: m) j : Int) + ((d.toNat : Int) - 48) by omega)
          have hmx' : 10 * (satV (c :: m) j : Int) + ((d.toNat : Int) - 48) ≤ 1099511627776 := by omega
          generalize satV (c :: m) j = sv at *
          clear hsv hmx HSV
          go_wp2_with (go_at_call 40; refine (HD.out _).mono ?_; rintro e w' ⟨rfl, rfl⟩)
          go_round
          case rel => exact ⟨j + 1, by go_num, by rw [HSV2.out]; go_num, HJ2⟩
          case measure => simp [intOf]; omega
        · have hsv : satV (c :: m) (j + 1) = 1099511627776 := by rw [HSV.out]; omega
          have HSV2 := hide (show (satV (c :: m) (j + 1) : Int) = 1099511627776 by omega)
          have hmx' : ¬ 10 * (satV (c :: m) j : Int) + ((d.toNat : Int) - 48) ≤ 1099511627776 := by omega
          generalize satV (c :: m) j = sv at *
          clear hsv hmx HSV
          go_wp2_with (go_at_call 40; refine (HD.out _).mono ?_; rintro e w' ⟨rfl, rfl⟩)
          go_round
          case rel => exact ⟨j + 1, by go_num, by rw [HSV2.out]; go_num, HJ2⟩
          case measure => simp [intOf]; omega
      | false =>
        have hn := HSP.out hp
        rw [hp] at HD
        clear HSP hp hst hdr HSV
        cases hq : prtB d with
        | true =>
          rw [hq] at HI
          have HR := hide (show numT (c :: m) = .error 3 by rw [num_spec c m hn rfl, HHD.out, hq, if_pos rfl])
          clear HHD hq hn
          generalize satV (c :: m) j = sv at *
          go_wp2_with (first
            | (go_at_call 40; refine (HD.out _).mono ?_; rintro e w' ⟨rfl, rfl⟩)
            | (go_at_call 31; refine (HI.out _).mono ?_; rintro e w' ⟨rfl, rfl⟩))
          exact bodyPost_ret (v := tokV (.error 3)) (by first | (simp [results, Tryd.results41, go_sem, tokV]; done) | (simp [results, Tryd.results41, go_sem, tokV]; rfl)) rfl ⟨by rw [HR.out], Ext.alloc w _⟩
        | false =>
          rw [hq] at HI
          have hH : ((c :: m).drop j).head?.any prtB = false := HHD.out.trans hq
          have HT := hide (num_spec c m hn rfl)
          clear HHD hq hn
          have hvr : satV (c :: m) j ≤ 2147483647 → (decV ((c :: m).take j) : Int) = (satV (c :: m) j : Int) := by unfold satV; omega
          have hvn : satV (c :: m) j ≤ 2147483647 → ¬ 2147483647 < decV ((c :: m).take j) := by unfold satV; omega
          have hvg : 2147483647 < satV (c :: m) j → 2147483647 < decV ((c :: m).take j) := by unfold satV; omega
          generalize satV (c :: m) j = sv at *
          by_cases hA : 10 < j
          · have hA' : (10 : Int) < j := by omega
            have HR := hide (show numT (c :: m) = .error 2 by rw [HT.out, hH, if_neg (by simp), if_pos (.inl hA)])
            clear HT hH hvr hvn hvg
            go_wp2_with (first
              | (go_at_call 40; refine (HD.out _).mono ?_; rintro e w' ⟨rfl, rfl⟩)
              | (go_at_call 31; refine (HI.out _).mono ?_; rintro e w' ⟨rfl, rfl⟩))
            exact bodyPost_ret (v := tokV (.error 2)) (by first | (simp [results, Tryd.results41, go_sem, tokV]; done) | (simp [results, Tryd.results41, go_sem, tokV]; rfl)) rfl ⟨by rw [HR.out], Ext.alloc w _⟩
          · have hA' : ¬ (10 : Int) < j := by omega
            by_cases hV : 2147483647 < sv
            · have hV' : (2147483647 : Int) < sv := by omega
              have HR := hide (show numT (c :: m) = .error 2 by rw [HT.out, hH, if_neg (by simp), if_pos (.inr (.inr (hvg hV)))])
              clear HT hH hvr hvn hvg
              go_wp2_with (first
                | (go_at_call 40; refine (HD.out _).mono ?_; rintro e w' ⟨rfl, rfl⟩)
                | (go_at_call 31; refine (HI.out _).mono ?_; rintro e w' ⟨rfl, rfl⟩))
              exact bodyPost_ret (v := tokV (.error 2)) (by first | (simp [results, Tryd.results41, go_sem, tokV]; done) | (simp [results, Tryd.results41, go_sem, tokV]; rfl)) rfl ⟨by rw [HR.out], Ext.alloc w _⟩
            · have hV' : ¬ (2147483647 : Int) < sv := by omega
              by_cases hB : 1 < j
              · have hB' : (1 : Int) < j := by omega
                by_cases hC : c = 48
                · have hC' : ((c.toNat : Int) == 48) = true := by rw [hC]; rfl
                  have HR := hide (show numT (c :: m) = .error 2 by rw [HT.out, hH, if_neg (by simp), if_pos (.inr (.inl ⟨hB, hC⟩))])
                  clear HT hH hvr hvn hvg hC
                  go_wp2_with (first
                    | (go_at_call 40; refine (HD.out _).mono ?_; rintro e w' ⟨rfl, rfl⟩)
                    | (go_at_call 31; refine (HI.out _).mono ?_; rintro e w' ⟨rfl, rfl⟩))
                  exact bodyPost_ret (v := tokV (.error 2)) (by first | (simp [results, Tryd.results41, go_sem, tokV]; done) | (simp [results, Tryd.results41, go_sem, tokV]; rfl)) rfl ⟨by rw [HR.out], Ext.alloc w _⟩
                · have hC' : ((c.toNat : Int) == 48) = false := (u8_eqI c 48 (by omega)).trans (beq_eq_false_iff_ne.2 hC)
                  have HR := hide (show numT (c :: m) = .ok ((3, [], (sv : Int)), j) by rw [HT.out, hH, if_neg (by simp), if_neg (by rintro (h | h | h); exact hA h; exact (fun h : 1 < j ∧ c = 48 => hC h.2) h; exact hvn (by omega) h), hvr (by omega)])
                  clear HT hH hvr hvn hvg hC
                  go_wp2_with (first
                    | (go_at_call 40; refine (HD.out _).mono ?_; rintro e w' ⟨rfl, rfl⟩)
                    | (go_at_call 31; refine (HI.out _).mono ?_; rintro e w' ⟨rfl, rfl⟩))
                  exact bodyPost_ret (v := tokV (.ok ((3, [], (sv : Int)), j))) (by first | (simp [results, Tryd.results41, go_sem, tokV]; done) | (simp [results, Tryd.results41, go_sem, tokV]; rfl)) rfl ⟨by rw [HR.out], Ext.alloc w _⟩
              · have hB' : ¬ (1 : Int) < j := by omega
                have HR := hide (show numT (c :: m) = .ok ((3, [], (sv : Int)), j) by rw [HT.out, hH, if_neg (by simp), if_neg (by rintro (h | h | h); exact hA h; exact (fun h : 1 < j ∧ c = 48 => hB h.1) h; exact hvn (by omega) h), hvr (by omega)])
                clear HT hH hvr hvn hvg
                go_wp2_with (first
                  | (go_at_call 40; refine (HD.out _).mono ?_; rintro e w' ⟨rfl, rfl⟩)
                  | (go_at_call 31; refine (HI.out _).mono ?_; rintro e w' ⟨rfl, rfl⟩))
                exact bodyPost_ret (v := tokV (.ok ((3, [], (sv : Int)), j))) (by first | (simp [results, Tryd.results41, go_sem, tokV]; done) | (simp [results, Tryd.results41, go_sem, tokV]; rfl)) rfl ⟨by rw [HR.out], Ext.alloc w _⟩
    · have hlt' : ¬ (j : Int) < m.length + 1 := by omega
      have HD := hide (rdigit_any 0)
      have HI := hide (inner_any 0)
      have hH := num_end c m hjl hlt
      have hn := spanN_at_len HJ.out hlt
      have HT := hide (num_spec c m hn rfl)
      clear hn
      have hvr : satV (c :: m) j ≤ 2147483647 → (decV ((c :: m).take j) : Int) = (satV (c :: m) j : Int) := by unfold satV; omega
      have hvn : satV (c :: m) j ≤ 2147483647 → ¬ 2147483647 < decV ((c :: m).take j) := by unfold satV; omega
      have hvg : 2147483647 < satV (c :: m) j → 2147483647 < decV ((c :: m).take j) := by unfold satV; omega
      generalize satV (c :: m) j = sv at *
      by_cases hA : 10 < j
      · have hA' : (10 : Int) < j := by omega
        have HR := hide (show numT (c :: m) = .error 2 by rw [HT.out, hH, if_neg (by simp), if_pos (.inl hA)])
        clear HT hH hvr hvn hvg
        go_wp2_with (first
          | (go_at_call 40; refine (HD.out _).mono ?_; rintro e w' ⟨rfl, rfl⟩)
          | (go_at_call 31; refine (HI.out _).mono ?_; rintro e w' ⟨rfl, rfl⟩))
        exact bodyPost_ret (v := tokV (.error 2)) (by first | (simp [results, Tryd.results41, go_sem, tokV]; done) | (simp [results, Tryd.results41, go_sem, tokV]; rfl)) rfl ⟨by rw [HR.out], Ext.alloc w _⟩
      · have hA' : ¬ (10 : Int) < j := by omega
        by_cases hV : 2147483647 < sv
        · have hV' : (2147483647 : Int) < sv := by omega
          have HR := hide (show numT (c :: m) = .error 2 by rw [HT.out, hH, if_neg (by simp), if_pos (.inr (.inr (hvg hV)))])
          clear HT hH hvr hvn hvg
          go_wp2_with (first
            | (go_at_call 40; refine (HD.out _).mono ?_; rintro e w' ⟨rfl, rfl⟩)
            | (go_at_call 31; refine (HI.out _).mono ?_; rintro e w' ⟨rfl, rfl⟩))
          exact bodyPost_ret (v := tokV (.error 2)) (by first | (simp [results, Tryd.results41, go_sem, tokV]; done) | (simp [results, Tryd.results41, go_sem, tokV]; rfl)) rfl ⟨by rw [HR.out], Ext.alloc w _⟩
        · have hV' : ¬ (2147483647 : Int) < sv := by omega
          by_cases hB : 1 < j
          · have hB' : (1 : Int) < j := by omega
            by_cases hC : c = 48
            · have hC' : ((c.toNat : Int) == 48) = true := by rw [hC]; rfl
              have HR := hide (show numT (c :: m) = .error 2 by rw [HT.out, hH, if_neg (by simp), if_pos (.inr (.inl ⟨hB, hC⟩))])
              clear HT hH hvr hvn hvg hC
              go_wp2_with (first
                | (go_at_call 40; refine (HD.out _).mono ?_; rintro e w' ⟨rfl, rfl⟩)
                | (go_at_call 31; refine (HI.out _).mono ?_; rintro e w' ⟨rfl, rfl⟩))
              exact bodyPost_ret (v := tokV (.error 2)) (by first | (simp [results, Tryd.results41, go_sem, tokV]; done) | (simp [results, Tryd.results41, go_sem, tokV]; rfl)) rfl ⟨by rw [HR.out], Ext.alloc w _⟩
            · have hC' : ((c.toNat : Int) == 48) = false := (u8_eqI c 48 (by omega)).trans (beq_eq_false_iff_ne.2 hC)
              have HR := hide (show numT (c :: m) = .ok ((3, [], (sv : Int)), j) by rw [HT.out, hH, if_neg (by simp), if_neg (by rintro (h | h | h); exact hA h; exact (fun h : 1 < j ∧ c = 48 => hC h.2) h; exact hvn (by omega) h), hvr (by omega)])
              clear HT hH hvr hvn hvg hC
              go_wp2_with (first
                | (go_at_call 40; refine (HD.out _).mono ?_; rintro e w' ⟨rfl, rfl⟩)
                | (go_at_call 31; refine (HI.out _).mono ?_; rintro e w' ⟨rfl, rfl⟩))
              exact bodyPost_ret (v := tokV (.ok ((3, [], (sv : Int)), j))) (by first | (simp [results, Tryd.results41, go_sem, tokV]; done) | (simp [results, Tryd.results41, go_sem, tokV]; rfl)) rfl ⟨by rw [HR.out], Ext.alloc w _⟩
          · have hB' : ¬ (1 : Int) < j := by omega
            have HR := hide (show numT (c :: m) = .ok ((3, [], (sv : Int)), j) by rw [HT.out, hH, if_neg (by simp), if_neg (by rintro (h | h | h); exact hA h; exact (fun h : 1 < j ∧ c = 48 => hB h.1) h; exact hvn (by omega) h), hvr (by omega)])
            clear HT hH hvr hvn hvg
            go_wp2_with (first
              | (go_at_call 40; refine (HD.out _).mono ?_; rintro e w' ⟨rfl, rfl⟩)
              | (go_at_call 31; refine (HI.out _).mono ?_; rintro e w' ⟨rfl, rfl⟩))
            exact bodyPost_ret (v := tokV (.ok ((3, [], (sv : Int)), j))) (by first | (simp [results, Tryd.results41, go_sem, tokV]; done) | (simp [results, Tryd.results41, go_sem, tokV]; rfl)) rfl ⟨by rw [HR.out], Ext.alloc w _⟩
end Go.Proofs.YtbfjopknhlnbcaaDoor
