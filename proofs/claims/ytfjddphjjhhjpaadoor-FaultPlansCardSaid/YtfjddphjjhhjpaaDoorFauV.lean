/-
  FaultPlans: append to a row of strings that may be nil; the words of the reference.
-/
import Derived.Test.YtfjddphjjhhjpaaDoorFauU
namespace Go.Proofs.YtfjddphjjhhjpaaDoor
open Go.RowKit
set_option linter.unusedVariables false

theorem OwnS.nil_ (w : World) (base : Nat) : OwnS w base (.slice none 0 0) 0 [] := by
  unfold OwnS
  exact ⟨rfl, .inl ⟨rfl, rfl⟩⟩
theorem wpList_appendSv {w : World} {ops : Array Oper} {rest : List Oper} {o : Oper} {a : Act} {Q : Exit → Act → World → Prop} (hgd : o.guard = none) (s x : Operand)
    (ho : o.op = .call { callee := .builtin .append, args := #[s, x], argTypes := #[74, 74] }) (base : Nat) (v : Value) (k : Nat) (ls : List (List UInt8)) (hv : a.eval s = v) (hown : OwnS w base v k ls)
    (g : Nat) (y : List UInt8) (hx : a.eval x = .slice (some ⟨g, 0, none⟩) 1 1) (hg : Blk w g 9 #[.string (str y)]) (hb : k ≤ 1000) (hbase : base ≤ w.heap.size)
    (h : ∀ b' c' w', OwnS w' base (.slice (some ⟨b', 0, none⟩) (k + 1) c') (k + 1) (ls ++ [y]) → w.grownBy w' v.ownBlock → wpList Tryd.prog ops Q rest (a.put o.dst (.slice (some ⟨b', 0, none⟩) (k + 1) c')) w') :
    wpList Tryd.prog ops Q (o :: rest) a w := by
  obtain ⟨i, hi, hz, hz1, hz2⟩ := info_parts st_info
  obtain ⟨v', w', hrun, h2, h3, _, _⟩ := run_append_own_at (P := Tryd.prog) w base 74 o.type 9 i (.string ⟨#[]⟩) 1 16 Tryd.underlying74 hi hz hz1 hz2 rfl (by decide) v k _ hown ⟨g, 0, none⟩ 1 1 [.string (str y)] rfl
    (fun j u hj => by
      rw [Addr.add_lit, Nat.zero_add, hg.cell]
      simpa using hj) (by simp [Value.oneCell']) (by simp only [maxLen]; omega) (by omega) hbase
  obtain ⟨b', c', hv'⟩ : ∃ b' c', v' = .slice (some ⟨b', 0, none⟩) (k + 1) c' := by
    rcases h2.2 with ⟨_, h0⟩ | ⟨g', c', cur, rfl, _⟩
    · omega
    · exact ⟨g', c', rfl⟩
  subst hv'
  have h2' : OwnS w' base (.slice (some ⟨b', 0, none⟩) (k + 1) c') (k + 1) (ls ++ [y]) := by
    unfold OwnS
    rw [List.map_append]
    exact h2
  refine wpList_plain hgd fun K hK => ?_
  unfold Oper.wp execOp
  simp only [ho, resolve, invoke, builtin, Sem.run_bind, Sem.run_pure, Result.andThen_ok, List.map_toArray, List.map_cons, List.map_nil, hv, hx, hrun]
  exact hK _ _ (h b' c' w' h2' h3)
end Go.Proofs.YtfjddphjjhhjpaaDoor
