/-
  The law of XSeq for a region in which one operation that only yields (a load) may come behind the first of the last operations.
-/
import Derived.Test.YtfcmngiekdhfpaaSeq
import Derived.OrdersHeld
namespace Go.Proofs.Ytfcmngiekdhfpaa
open Go
set_option linter.unusedVariables false

/-- Q, but 'False' unless the end is a normal one. -/
def OnlyNormal (Q : Exit → Act → World → Prop) : Exit → Act → World → Prop := fun e a w => match e with
  | .normal => Q .normal a w
  | _ => False
theorem OnlyNormal.imp {Q : Exit → Act → World → Prop} : ∀ (e : Exit) (a : Act) (w : World), OnlyNormal Q e a w → Q e a w := fun e a w h => by
  cases e <;> first | exact h | exact (h : False).elim
section
variable {P : Program} {ops : Array Oper} {Q : Exit → Act → World → Prop} {S : World → Prop}
def WOH (P : Program) (ops : Array Oper) (Q : Exit → Act → World → Prop) (S : World → Prop) (i : Nat) (K : Act → World → Prop) (a : Act) (w : World) : Prop := wpOp P ops Q i (fun a' w' => S w' ∧ K a' w') a w
theorem stepOk_held : StepOkS P ops S (WOH P ops Q S) where
  mono := fun h => wpOp_mono fun a w hk => ⟨hk.1, h a w hk.2⟩
  skip := fun ho hw hs h => by unfold WOH wpOp; simp only [ho, hw]; exact ⟨hs, h⟩
  run := fun ho hw hd h => by
    have := stepOk_plain (P := P) (ops := ops) (Q := Q).run ho hw hd h
    exact this
theorem anyG_held : ∀ (f : Nat) (l : Array Bool) (a : Act) (w : World), anyG (WOH P ops Q S) (Q .normal) ops f l a w → wpAnyH P .any ops Q S f l a w
  | 0, _, _, _, h => h
  | f + 1, _, _, _, h => ⟨h.1, fun i hi => wpOp_mono (fun a w hk => ⟨hk.1, anyG_held f _ a w hk.2⟩) (h.2 i hi)⟩
/-- The last operations, one after the other; behind each one S is shown anew. -/
def tailS (P : Program) (ops : Array Oper) (N : Act → World → Prop) (S : World → Prop) : List Oper → Act → World → Prop
  | [], a, w => N a w
  | o :: l, a, w => Region.wanted o (yielded ops a.tmps) = true ∧ (∀ c, o.op ≠ .defer c) ∧ o.wp P a w (fun a' w' => S w' ∧ tailS P ops N S l a' w') (fun _ _ _ => False)
theorem tailS_step {N : Act → World → Prop} {o : Oper} {l : List Oper} {a : Act} {w : World} (hw : Region.wanted o (yielded ops a.tmps) = true) (hd : ∀ c, o.op ≠ .defer c)
    (h : ∀ K : Act → World → Prop, (∀ a' w', S w' → tailS P ops N S l a' w' → K a' w') → o.wp P a w K (fun _ _ _ => False)) : tailS P ops N S (o :: l) a w := ⟨hw, hd, h _ fun _ _ h1 h2 => ⟨h1, h2⟩⟩
theorem tailS_nil {Q : Exit → Act → World → Prop} {a : Act} {w : World} (h : wpList P ops Q [] a w) : tailS P ops (Q .normal) S [] a w := h
theorem tailG_held {N : Act → World → Prop} : ∀ (n k : Nat) (a : Act) (w : World), k + n = ops.size → tailS P ops N S (ops.toList.drop k) a w → tailG (WOH P ops Q S) N (List.range' k n) a w
  | 0, k, a, w, hk, h => by
    rw [List.drop_of_length_le (by simp; omega)] at h
    exact h
  | n + 1, k, a, w, hk, h => by
    have hl : k < ops.toList.length := by simp; omega
    rw [List.drop_eq_getElem_cons hl] at h
    obtain ⟨h1, h2, h3⟩ := h
    have ho : ops[k]? = some ops.toList[k] := by simp
    show WOH P ops Q S k (tailG (WOH P ops Q S) N (List.range' (k + 1) n)) a w
    refine stepOk_held.run ho h1 h2 ?_
    refine stepOk_mono h3 fun a' w' hk' => ⟨hk'.1, tailG_held n (k + 1) a' w' (by omega) hk'.2⟩
where
  stepOk_mono {o : Oper} {a : Act} {w : World} {K K' : Act → World → Prop} (h : o.wp P a w K (fun _ _ _ => False)) (hk : ∀ a w, K a w → K' a w) : o.wp P a w K' (fun _ _ _ => False) := Oper.wp_mono hk h
/-- **A region that draws its order, of which operation j, which only yields, may come late.** -/
theorem wp_region_pull {id : Nat} {a : Act} {w : World} (m f : Nat) (l : List Ent) (ns : List Nat) (j : Nat) {oj : Oper} {dj : Nat} (v : Value) (hj : ops[j]? = some oj) (hd : oj.dst = some dj) (hjm : j < m) (hm : P.follows .mixedOrders = true) (hok : okP [j] ops m a.tmps.size = true) (hs : stabL Ext l)
    (hn : ∀ i, ns.contains i = true → ∃ Sh F, tabOf l i = some (Sh, F) ∧ ∀ v w, F v w → ∀ g, pB v = some g → g < w.heap.size)
    (hns : Region.noSelect ops = true) (hf : Region.free .any ops (Array.replicate ops.size false) j = true) (hr : (Region.ready .any ops (Array.replicate ops.size false)).contains j = true) (hd0 : oj.after.all (fun e => !Region.binds .any e) = true)
    (ht : tabOf l j = none) (hwj : Region.wanted oj (yielded ops a.tmps) = true) (hy : ∀ w', Ext w.drew w' → (execOp a.eval oj).run P w' = .ok (.value v) w')
    (h : SeqW P ops f (tabOf l) none (fun i => ns.contains i) Ext Ext w.drew (fun a Φ => ∀ w', Ext w.drew w' → (∀ p ∈ Φ, p.2 w') → PairAt ops m (fun i => ns.contains i) (fun _ => True) a → tailS P ops (Q .normal) (Ext w.drew) (ops.toList.drop m) a w') (ops.toList.take m) 0 a []) : (Code.region id ops true).wp P Q a w := by
  refine Code.wp_mono OnlyNormal.imp (wp_region_held (S := Ext w.drew) hm ?_)
  have hmle := ok_le hok
  have hjs : j < ops.size := by omega
  obtain ⟨sz, hsz⟩ : ∃ s, ops.size = s + 1 := ⟨ops.size - 1, by omega⟩
  have hlt : dj < a.tmps.size := by
    obtain ⟨o, d, ho, hd', hdl, _⟩ := ok_free hok hjm
    rw [hj] at ho; injection ho with ho; subst ho
    rw [hd] at hd'; injection hd' with hd'; subst hd'
    exact hdl
  have key : wpAnyH P .any ops (OnlyNormal Q) (Ext w.drew) (sz + 1) (Array.replicate ops.size false) a w.drew := by
    refine wpAnyH_take (v := v) hj hns hf hr (fun c a w h => h) (.inl ⟨hwj, hy⟩) (Ext.refl _) (anyG_held _ _ _ _ ?_)
    have hl : ∀ i, ((Array.replicate ops.size false).setIfInBounds j true).getD i false = true ↔ i = j := fun i => by
      simp only [Array.getD_eq_getD_getElem?, Array.getElem?_setIfInBounds, Array.size_replicate]
      by_cases hij : j = i
      · subst hij; simp [hjs]
      · rw [if_neg hij]
        simp only [Array.getElem?_replicate]
        split <;> (simp; exact fun e => hij e.symm)
    have hl' : ∀ i, i < ops.size → (((Array.replicate ops.size false).setIfInBounds j true).getD i true = true ↔ i = j) := fun i hi => by
      rw [← hl i]
      have h3 : i < ((Array.replicate ops.size false).setIfInBounds j true).size := by simpa using hi
      simp only [Array.getD_eq_getD_getElem?, Array.getElem?_eq_getElem h3, Option.getD_some]
    have hu : unl m ((Array.replicate ops.size false).setIfInBounds j true) + 1 = m := by
      have h0 : (Array.replicate ops.size false).getD j true = false := by simp [Array.getD_eq_getD_getElem?, hjs]
      have h1 := unl_set (Array.replicate ops.size false) j h0 m
      rw [if_pos hjm] at h1
      rw [h1]
      have : ∀ k, k ≤ ops.size → unl k (Array.replicate ops.size false) = k := by
        intro k
        induction k with
        | zero => intro _; rfl
        | succ k ih =>
          intro hk
          rw [unl_succ, ih (by omega), if_pos]
          simp [Array.getD_eq_getD_getElem?, show k < ops.size from by omega]
      exact this m hmle
    have hp : ∀ t, slot (a.put oj.dst v) t = if t = dj then v else slot a t := fun t => by rw [hd]; exact slot_put _ _ _ _ hlt
    have self : SameFor ops oj (a.put oj.dst v) a := fun t ht' => by
      rw [hp, if_neg]
      intro e
      subst e
      obtain ⟨o, d, ho, hd', _, _, _, _, hlook⟩ := ok_free hok hjm
      rw [hj] at ho; injection ho with ho; subst ho
      have := hlook j hjm oj t hj hd ht'
      obtain ⟨e, he, hb, hon⟩ := (dir_iff hj).1 this
      have := ok_lt hok hj e he hb
      omega
    have hsel : ∀ cs b, oj.op ≠ .select cs b := by
      obtain ⟨o, d, ho, _, _, hsel, _⟩ := ok_free hok hjm
      rw [hj] at ho; injection ho with ho; subst ho
      exact hsel
    have := main_any (a0 := a) (pre := [j]) (f := f) (stepOk_held (P := P) (ops := ops) (Q := OnlyNormal Q) (S := Ext w.drew)) hok (T := Ext) (U := Ext) (w0 := w.drew) (tab := tabOf l) (late := none) (nw := fun i => ns.contains i) (N := OnlyNormal Q .normal) (fun _ h => h) (Ext.refl _) (fun _ _ _ => Ext.trans) (fun _ _ h => h) (fun _ _ _ => Ext.trans)
      hs.out (fun i Sh F _ => hs.out i Sh F) Ext.refl hn
      (SeqW.fin (fun a Φ h w' h1 h2 h3 => tailG_held _ _ _ _ (by omega) (h w' h1 h2 h3)) _ _ _ _ h) (unl m ((Array.replicate ops.size false).setIfInBounds j true)) _ (a.put oj.dst v) w.drew rfl
      (fun i hi => by
        obtain rfl : i = j := by simpa using hi
        exact (hl' i hjs).2 rfl) (by simp) (fun i hi hmi => by
        have := mt (hl' i hi).1 (by omega)
        simpa using this) (fun i k hi hk => by
        obtain rfl := (hl i).1 hi
        obtain ⟨e, he, hb, hon⟩ := (dir_iff hj).1 hk
        have := Array.all_eq_true_iff_forall_mem.1 hd0 e he
        rw [hb] at this
        cases this)
      ⟨Ext.refl _, fun _ => Ext.refl _, size_put _ _ _, defers_put _ _ _, fun t ht => by rw [hp, if_neg (fun e => ht j oj hjm hj (by rw [hd, e]))], fun i o d hi him ho hd' => by
        obtain rfl := (hl i).1 hi
        rw [hj] at ho; injection ho with ho; subst ho
        rw [hd] at hd'; injection hd' with hd'; subst hd'
        refine ⟨fun hf => ?_, fun _ => ?_⟩
        · rw [self.wanted (size_put _ _ _), hwj] at hf; cases hf
        · rw [ht]
          intro w1 hw1
          rw [self.exec hsel, hp, if_pos rfl]
          exact hy w1 hw1, fun i o d hi him ho hd' _ Sh F ht' => by
        obtain rfl := (hl i).1 hi
        rw [ht] at ht'
        exact absurd ht' (by simp), fun i k oi ok di dk hi hk _ _ _ _ _ _ _ _ hne => absurd (((hl i).1 hi).trans ((hl k).1 hk).symm) hne⟩
    rw [show ops.size - m + unl m ((Array.replicate ops.size false).setIfInBounds j true) = sz from by omega] at this
    exact this
  rw [hsz] at *
  exact key
end
end Go.Proofs.Ytfcmngiekdhfpaa
