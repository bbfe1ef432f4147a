/-
  FaultPlans: the words of the reference.
-/
import Derived.LoopN
import Derived.Test.YtfjddphjjhhjpaaDoorFauV
namespace Go.Proofs.YtfjddphjjhhjpaaDoor
open Go.RowKit
set_option linter.unusedVariables false

theorem str_extractT (l : List UInt8) (a b : Nat) : (str l).extract a b = str ((l.take b).drop a) := by
  apply ByteArray.ext
  rw [ByteArray.data_extract]
  apply Array.toList_inj.1
  show (l.toArray.extract a b).toList = ((l.take b).drop a)
  rw [Array.toList_extract, List.drop_take]
theorem OwnS.base {w : World} {base k : Nat} {v : Value} {ls : List (List UInt8)} (h : OwnS w base v k ls) : ∀ g, v.ownBlock = some g → base ≤ g := by
  intro g hg
  rcases h.2 with ⟨rfl, _⟩ | ⟨g', c', cur, rfl, hb, _⟩
  · cases hg
  · have e : g' = g := Option.some.inj hg
    rw [← e]
    exact hb
theorem splitGo_step (cur r : List UInt8) (c : UInt8) : splitGo cur (c :: r) = if c = 32 then cur :: splitGo [] r else splitGo (cur ++ [c]) r := by rw [splitGo]
set_option maxRecDepth 100000 in
set_option maxHeartbeats 800000 in
theorem words_any (l : List UInt8) (hl : l.length ≤ 900) (w : World) : Calls Tryd.prog 43 #[.string (str l)] w fun e w' =>
    ∃ b c, e = .returned (.slice (some ⟨b, 0, none⟩) (splitS l).length c) ∧ OwnS w' w.heap.size (.slice (some ⟨b, 0, none⟩) (splitS l).length c) (splitS l).length (splitS l) ∧ Ext w w' := by
  have hsz : (str l).size = l.length := str_sizeT l
  go_enter Tryd.func43, Tryd.ntmps43
  go_wp2_with fail
  go_loopw [3, 4, 5] (fun vo vf vi wr => ∃ (j f : Nat) (ls : List (List UInt8)), vi = .int .i64 (j : Int) ∧ vf = .int .i64 (f : Int) ∧ j ≤ l.length ∧ f ≤ j ∧ ls.length ≤ j ∧ Hid (OwnS wr w.heap.size vo ls.length ls) ∧ Hid (ls ++ splitGo ((l.take j).drop f) (l.drop j) = splitS l) ∧ Hid (Ext w wr)) (fun _ _ vi _ => l.length - (intOf vi).toNat)
  case atStart => exact ⟨0, 0, [], rfl, rfl, Nat.zero_le _, Nat.zero_le _, Nat.zero_le _, hide (OwnS.nil_ _ _), hide (by simp [splitS]), hide (Ext.refl w)⟩
  case round =>
    obtain ⟨j, f, ls, rfl, rfl, hj, hf, hk, HO, HS, HX⟩ := hrel
    obtain ⟨k, hkk⟩ : ∃ k, ls.length = k := ⟨_, rfl⟩
    by_cases hlt : j < l.length
    · have hjs : j < (str l).size := by rw [str_sizeT]; exact hlt
      have hg := str_getT l j hjs
      have hlt' : (j : Int) < l.length := by omega
      have HD := hide (show l.drop j = l[j] :: l.drop (j + 1) from List.drop_eq_getElem_cons hlt)
      have HT := hide (show (l.take (j + 1)).drop f = (l.take j).drop f ++ [l[j]] from by
        rw [List.take_succ_eq_append_getElem hlt, List.drop_append_of_le_length (by rw [List.length_take, Nat.min_eq_left hj]; exact hf)]
        try rfl)
      generalize l[j]'hlt = c at *
      by_cases hc : c = 32
      · subst hc
        have hex := str_extractT l f j
        have HNS := hide (show (ls ++ [(l.take j).drop f]) ++ splitGo ((l.take (j + 1)).drop (j + 1)) (l.drop (j + 1)) = splitS l from by
          rw [← HS.out, HD.out, splitGo_step, if_pos rfl, show (l.take (j + 1)).drop (j + 1) = [] from List.drop_eq_nil_of_le (by rw [List.length_take]; omega), List.append_assoc]
          rfl)
        generalize (l.take j).drop f = x at *
        rw [hkk] at HO
        have HG := hide (Blk.new wr 9 #[.string (str x)])
        have HO1 := hide (HO.out.ext (Ext.alloc wr (.cells #[.string (str x)] 9)))
        have HX1 := hide (HX.out.alloc' (.cells #[.string (str x)] 9))
        have hk9 : k ≤ 1000 := by omega
        have HBS := hide HO.out.base
        clear HS HD HT HO HX
        go_wp2_with (at_builtin; refine wpList_appendSv rfl _ _ rfl w.heap.size _ k ls rfl HO1.out wr.heap.size x rfl HG.out hk9 HX1.out.size ?_; intro b' c' w2 hq1 hq2; have HQ1 := hide hq1; have HX2 := hide (HX1.out.grown hq2 HBS.out); clear hq1 hq2)
        go_roundw
        case rel => exact ⟨j + 1, j + 1, ls ++ [x], by go_num, by go_num, by omega, Nat.le_refl _, by simp; omega, hide (by rw [List.length_append, hkk]; exact HQ1.out), HNS, HX2⟩
        case measure => simp [intOf]; omega
      · have hcn : ((c.toNat : Int) == 32) = false := by
          rw [beq_eq_false_iff_ne]; intro e; exact hc (UInt8.toNat_inj.1 (by have : c.toNat = 32 := by omega
                                                                             rw [this]; rfl))
        have HNS := hide (show ls ++ splitGo ((l.take (j + 1)).drop f) (l.drop (j + 1)) = splitS l from by
          rw [← HS.out, HD.out, splitGo_step, if_neg hc, HT.out])
        clear HS HD HT
        go_wp2_with fail
        go_roundw
        case rel => exact ⟨j + 1, f, ls, by go_num, rfl, by omega, by omega, by omega, HO, HNS, HX⟩
        case measure => simp [intOf]; omega
    · have hjl : j = l.length := by omega
      have hlt' : ¬ (j : Int) < l.length := by omega
      have hex := str_extractT l f l.length
      have HNS := hide (show ls ++ [(l.take l.length).drop f] = splitS l from by
        rw [← HS.out, hjl, List.drop_length]; rfl)
      generalize (l.take l.length).drop f = x at *
      rw [hkk] at HO
      have HG := hide (Blk.new wr 9 #[.string (str x)])
      have HO1 := hide (HO.out.ext (Ext.alloc wr (.cells #[.string (str x)] 9)))
      have HX1 := hide (HX.out.alloc' (.cells #[.string (str x)] 9))
      have hk9 : k ≤ 1000 := by omega
      have HBS := hide HO.out.base
      have HKL := hide (show (splitS l).length = k + 1 by rw [← HNS.out, List.length_append, hkk]; rfl)
      clear HS HO HX
      go_wp2_with (at_builtin; refine wpList_appendSv rfl _ _ rfl w.heap.size _ k ls rfl HO1.out wr.heap.size x rfl HG.out hk9 HX1.out.size ?_; intro b' c' w2 hq1 hq2; have HQ1 := hide hq1; have HX2 := hide (HX1.out.grown hq2 HBS.out); clear hq1 hq2)
      go_ret
      rw [HNS.out] at HQ1
      rw [HKL.out]
      exact ⟨b', c', rfl, HQ1.out, HX2.out⟩
end Go.Proofs.YtfjddphjjhhjpaaDoor
