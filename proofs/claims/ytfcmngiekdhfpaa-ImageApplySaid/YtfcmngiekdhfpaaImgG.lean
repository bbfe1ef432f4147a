/-
  Rows of bytes known whole; copy; Apply of the program.
-/
import Derived.Test.YtfcmngiekdhfpaaImgF
import Derived.Test.YtfcmngiekdhfpaaPlainA
import Derived.Laws.CopyOwn
namespace Go.Proofs.Ytfcmngiekdhfpaa
open Go.RowKit
set_option linter.unusedVariables false

/-- Block g is just the bytes l. -/
def Rw (w : World) (g : Nat) (e : TypeId) (l : List UInt8) : Prop := w.heap[g]? = some (.cells (bys l).toArray e (0, 0))
section
variable {w w' : World} {g : Nat} {e : TypeId} {l : List UInt8}
theorem Rw.lt (h : Rw w g e l) : g < w.heap.size := (Array.getElem?_eq_some_iff.1 h).1
theorem Rw.sl (h : Rw w g e l) {n : Nat} (hn : n = l.length) (hm : l.length ≤ maxLen) : Sl w (some ⟨g, 0, none⟩) n l := by
  subst hn
  refine ⟨Nat.le_refl _, hm, (fun h => by cases h), .inr ⟨g, 0, rfl, h.lt, fun i hi => ?_⟩⟩
  rw [Nat.zero_add, cell_of_row w g i _ e (0, 0) h]
  simp [bys, u8v, hi]
theorem Rw.ext (h : Rw w g e l) (he : Ext w w') : Rw w' g e l := (he.obj h.lt).trans h
theorem Rw.alloc (h : Rw w g e l) (o : Obj) : Rw (w.alloc o) g e l := (Below.heap_alloc w o g h.lt).trans h
theorem Rw.far (h : Rw w g e l) {p : Addr} (hp : g ≠ p.block) (u : Value) : Rw (w.setCell p u) g e l := (Below.heap_setCell w p u g hp).trans h
theorem Rw.grown {row : Option Nat} (h : Rw w g e l) (hb : w.grownBy w' row) (hg : some g ≠ row) : Rw w' g e l := (hb.block g h.lt hg).trans h
end
theorem run_makeR {P : Program} {t e : TypeId} (hT : ByteT P t e) (kl kc : IntKind) (n : Nat) (hn : n ≤ 1073741824) (w : World) :
    ∃ w', (Instr.makeSlice t (.int kl (n : Int)) (.int kc (n : Int))).run P w = .ok (.slice (some ⟨w.heap.size, 0, none⟩) n n) w' ∧ Rw w' w.heap.size e (List.replicate n 0) ∧ Ext w w' ∧ w'.heap.size = w.heap.size + 1 := by
  obtain ⟨i, hi, hz, hz1, hz2⟩ := info_parts hT.info
  have hr := run_make (P := P) w t e i (.int .u8 0) hT.under hi hz kl kc n n (by omega) (by omega) (by rw [hz2]; omega) (by omega)
  simp only [Int.toNat_natCast] at hr
  refine ⟨_, hr, ?_, Ext.alloc w _, World.size_alloc _ _⟩
  rw [hz1]
  simp only [Nat.mul_one]
  have : madeCells (Value.int IntKind.u8 0).cells n = (bys (List.replicate n 0)).toArray := by
    unfold madeCells
    apply Array.ext
    · simp [bys]
    · intro j h1 h2
      simp [bys, u8v, Value.cells, Nat.mod_one]
  rw [this]
  exact heap_alloc_new w _
theorem wpList_makeR {P : Program} {w : World} {ops : Array Oper} {rest : List Oper} {o : Oper} {a : Act} {Q : Exit → Act → World → Prop} {t e : TypeId} (hT : ByteT P t e) (hgd : o.guard = none) (s c : Operand) (ho : o.op = .makeSlice t s c)
    (n : Nat) (hn : n ≤ 1073741824) (kl kc : IntKind) (hs : a.eval s = .int kl (n : Int)) (hc : a.eval c = .int kc (n : Int))
    (h : ∀ w', Rw w' w.heap.size e (List.replicate n 0) → Ext w w' → w'.heap.size = w.heap.size + 1 → wpList P ops Q rest (a.put o.dst (.slice (some ⟨w.heap.size, 0, none⟩) n n)) w') : wpList P ops Q (o :: rest) a w := by
  obtain ⟨w', hr, h1, h2, h3⟩ := run_makeR (P := P) hT kl kc n hn w
  refine wpList_plain hgd fun K hK => ?_
  unfold Oper.wp execOp
  simp only [ho, Sem.run_bind, Sem.run_pure, hs, hc, hr, Result.andThen_ok]
  exact hK _ _ (h w' h1 h2 h3)
theorem spl_nil (L : List UInt8) (off : Nat) : spl L off [] = L := by simp [spl]
theorem wpList_copyB {P : Program} {w : World} {ops : Array Oper} {rest : List Oper} {o : Oper} {a : Act} {Q : Exit → Act → World → Prop} {t e : TypeId} (hT : ByteT P t e) (hgd : o.guard = none) (d s : Operand)
    (ho : o.op = .call { callee := .builtin .copy, args := #[d, s], argTypes := #[t, t] }) (g off dLen dCap : Nat) (hd : a.eval d = .slice (some ⟨g, off, none⟩) dLen dCap) (L : List UInt8) (hg : Rw w g e L)
    (A : Option Addr) (c : Nat) (m : List UInt8) (hs : a.eval s = .slice A m.length c) (hS : Sl w A c m) (hfit : off + dLen ≤ L.length)
    (h : ∀ w' (k : Nat), Rw w' g e (spl L off (m.take dLen)) → w.grownBy w' (some g) → wpList P ops Q rest (a.put o.dst (goInt k)) w') : wpList P ops Q (o :: rest) a w := by
  have hsz : (P.info? e).map (·.size) = some 1 := by
    obtain ⟨i, hi, hz, hz1, hz2⟩ := info_parts hT.info
    rw [hi]; simp [hz1]
  by_cases h0 : m.take dLen = []
  · refine wpList_copy_nothing hgd d s t t ho e hT.under hsz _ _ _ _ _ _ hd hs ?_ ?_
    · have := congrArg List.length h0
      rw [List.length_take] at this
      simp only [List.length_nil] at this
      show min m.length dLen = 0
      omega
    · refine h w 0 ?_ (World.grownBy.refl w _)
      rw [h0, spl_nil]; exact hg
  · rcases hS.rd with rfl | ⟨b, o', rfl, _, hc⟩
    · simp at h0
    · have hlen : (bys (m.take dLen)).length = min m.length dLen := by rw [bys_length, List.length_take, Nat.min_comm]
      refine wpList_copy_own hgd d s t t ho e hT.under hsz g off dLen dCap ⟨b, o', none⟩ m.length c hd hs _ e hg (bys (m.take dLen)) hlen (fun j v hv => ?_) ?_ (fun v hv => ?_) ?_
      · have hj : j < (m.take dLen).length := by have := (List.getElem?_eq_some_iff.1 hv).1; simpa [bys] using this
        have hj2 : j < m.length := by rw [List.length_take] at hj; omega
        rw [Addr.add_lit, hc j hj2, ← hv]
        simp only [bys, List.getElem?_map]
        rw [List.getElem?_eq_getElem hj]
        simp [List.getElem_take, u8v]
      · rw [hlen]
        simp only [List.size_toArray, bys_length]
        omega
      · obtain ⟨x, _, rfl⟩ := List.mem_map.1 hv
        rfl
      · refine h _ _ ?_ ⟨rfl, rfl, rfl, by simp, fun k _ hk => setRow_other w g k _ (fun e => hk (by rw [e]))⟩
        have := setRow_heap w g _ ((bys L).toArray.toList.take off ++ (bys (m.take dLen) ++ (bys L).toArray.toList.drop (off + (bys (m.take dLen)).length))).toArray e _ hg
        unfold Rw
        rw [this]
        clear this h hd hs hfit hlen h0
        generalize m.take dLen = q
        simp only [spl, bys, List.map_append, List.map_take, List.map_drop, List.length_map]
end Go.Proofs.Ytfcmngiekdhfpaa
