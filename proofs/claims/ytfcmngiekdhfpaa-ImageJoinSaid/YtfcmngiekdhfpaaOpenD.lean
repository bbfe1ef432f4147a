/-
  Two patches as an argument: from its reading to what the walks take.
-/
import Derived.Test.YtfcmngiekdhfpaaOpenC
import Derived.Test.YtfcmngiekdhfpaaChg
namespace Go.Proofs.Ytfcmngiekdhfpaa
open Go.Joins Go.ChangeShapes Go.WideShapes Go.ChangeAt Go.RowKit Go.Deep
set_option linter.unusedVariables false

section
variable {H : Type} {enc : TypeId × Value → H} {W : World}
theorem add_lit2 (b off n : Nat) : (Addr.mk b off none).add n = ⟨b, off + n, none⟩ := Addr.add_lit ..
set_option maxRecDepth 100000 in
theorem open_chs {base fuel : Nat} {hd : Bool} {c : Value} {y : DataW H × List MemPlace}
    (h : DataW.trod enc Try.prog W base (fun _ => true) hd fuel 33 [c] = some y) : ∃ A cap cs, c = .slice A (List.length (α := Chg) cs) cap ∧ Chs W A cap cs := by
  have c2 : Try.prog.cellsOf 88 = 2 := by kernel_rfl
  have c1 : Try.prog.cellsOf 3 = 1 := by kernel_rfl
  have cb : Try.prog.cellsOf 22 = 1 := by kernel_rfl
  rcases open_slice Try.underlying33 h with ⟨hcs, _⟩ | ⟨a, len, cap, m, n, D, Pl, hcs, _, hl, hm, hmm, _, hx⟩
  · injection hcs with hcs
    exact ⟨none, 0, [], hcs, Chs.none_ W⟩
  · injection hcs with hcs
    have hmm : m = cap := by rw [hmm, if_pos rfl]
    rw [c2] at hx
    have key : ∀ i, i < len → ∃ ch : Chg, ∃ Ai ci, W.cell? (a.add (i * 2)) = some (.int .i64 ch.1) ∧ W.cell? ((a.add (i * 2)).add 1) = some (.slice Ai ch.2.length ci) ∧ Sl W Ai ci ch.2 := fun i hi => by
      obtain ⟨cs', h1, h2⟩ := hx i (by omega)
      obtain ⟨_, hlen, hg⟩ := World.cells?_some h1
      match cs', hlen with
      | [u, v], _ =>
        have g0 := hg 0 (by omega)
        have g1 := hg 1 (by omega)
        obtain ⟨xs, k, _, _, _, hlx, hf⟩ := DataW.trod_struct Try.underlying88 h2
        have hl2 : xs.length = 2 := hlx
        obtain ⟨y0, e0⟩ : ∃ y, xs[0]? = some y := ⟨xs[0]'(by omega), List.getElem?_eq_getElem (by omega)⟩
        obtain ⟨y1, e1⟩ : ∃ y, xs[1]? = some y := ⟨xs[1]'(by omega), List.getElem?_eq_getElem (by omega)⟩
        have k0 : DataW.trod enc Try.prog W base (fun _ => true) hd k 3 [u] = some y0 := by have := hf 0 _ rfl; simpa [c1, e0] using this
        have k1 : DataW.trod enc Try.prog W base (fun _ => true) hd k 22 [v] = some y1 := by have := hf 1 _ rfl; simpa [cb, e1] using this
        obtain ⟨z, rfl, _⟩ := int_of_trod Try.underlying3 k0
        obtain ⟨A2, c2, l, rfl, hs, _⟩ := bytes_of_trod Try.underlying22 Try.underlying5 (by kernel_rfl) (by kernel_rfl) k1
        exact ⟨(z, l), A2, c2, by simpa [Addr.add] using g0, by simpa using g1, hs⟩
    obtain ⟨f, hf⟩ := choose_lt (α := Chg) key
    have hlen : ((List.range len).map f).length = len := by simp
    refine ⟨some a, cap, (List.range len).map f, by rw [hlen]; exact hcs, ⟨by rw [hlen]; exact hl, hm, ?_⟩⟩
    by_cases h0 : len = 0
    · left; subst h0; rfl
    · right
      obtain ⟨b, off, spot⟩ := a
      obtain ⟨Ai, ci, q1, _, _⟩ := hf 0 (by omega)
      have hspot : spot = none := by simpa [Addr.add] using World.cell?_spot q1
      subst hspot
      refine ⟨b, off, rfl, ?_, fun i hi => ?_⟩
      · have := World.block_lt_of_cell? _ _ q1
        simpa [Addr.add] using this
      · rw [hlen] at hi
        obtain ⟨Ai, ci, r1, r2, r3⟩ := hf i hi
        rw [Addr.add_lit] at r1
        rw [add_add, Addr.add_lit] at r2
        have hg : ((List.range len).map f)[i]'(by rw [hlen]; exact hi) = f i := by simp
        rw [hg]
        exact ⟨Ai, ci, r1, by rw [Nat.add_assoc]; exact r2, r3⟩
set_option maxRecDepth 100000 in
theorem open_two {r : Reach} {b0 base : Nat} {hd : Bool} {v : Value} {d : DataW H} {p : List MemPlace}
    (hv : Value.okWide Try.prog W r b0 74 v) (h : DataW.Trod enc Try.prog W base (fun _ => true) hd 74 v d p) :
    ∃ (plen qlen : Int) (P Q : Option Addr) (cp cq : Nat) (ps qs : List Chg), v = .agg #[.int .i64 plen, .slice P ps.length cp, .int .i64 qlen, .slice Q qs.length cq] ∧ Chs W P cp ps ∧ Chs W Q cq qs := by
  obtain ⟨cs, rfl, hsz⟩ := okWide_struct Try.underlying74 hv
  have hC : Try.prog.cellsOf 74 = 4 := by kernel_rfl
  have c2 : Try.prog.cellsOf 35 = 2 := by kernel_rfl
  have c1 : Try.prog.cellsOf 3 = 1 := by kernel_rfl
  have cb : Try.prog.cellsOf 33 = 1 := by kernel_rfl
  obtain ⟨l⟩ := cs
  match l, hsz.trans hC with
  | [x0, x1, x2, x3], _ =>
    obtain ⟨fuel, hf⟩ := h
    obtain ⟨xs, n, _, _, _, hlen, hg⟩ := DataW.trod_struct Try.underlying74 hf
    have hl2 : xs.length = 2 := hlen
    obtain ⟨y0, e0⟩ : ∃ y, xs[0]? = some y := ⟨xs[0]'(by omega), List.getElem?_eq_getElem (by omega)⟩
    obtain ⟨y1, e1⟩ : ∃ y, xs[1]? = some y := ⟨xs[1]'(by omega), List.getElem?_eq_getElem (by omega)⟩
    have g0 : DataW.trod enc Try.prog W base (fun _ => true) hd n 35 [x0, x1] = some y0 := by have := hg 0 _ rfl; simpa [c2, e0, Value.cells] using this
    have g1 : DataW.trod enc Try.prog W base (fun _ => true) hd n 35 [x2, x3] = some y1 := by have := hg 1 _ rfl; simpa [c2, e1, Value.cells] using this
    have pat : ∀ (u v : Value) (y : DataW H × List MemPlace), DataW.trod enc Try.prog W base (fun _ => true) hd n 35 [u, v] = some y → ∃ (z : Int) (A : Option Addr) (c : Nat) (ps : List Chg), u = .int .i64 z ∧ v = .slice A ps.length c ∧ Chs W A c ps := fun u v y hy => by
      obtain ⟨us, k, _, _, _, hlu, hfu⟩ := DataW.trod_struct Try.underlying35 hy
      have hl3 : us.length = 2 := hlu
      obtain ⟨z0, r0⟩ : ∃ y, us[0]? = some y := ⟨us[0]'(by omega), List.getElem?_eq_getElem (by omega)⟩
      obtain ⟨z1, r1⟩ : ∃ y, us[1]? = some y := ⟨us[1]'(by omega), List.getElem?_eq_getElem (by omega)⟩
      have k0 : DataW.trod enc Try.prog W base (fun _ => true) hd k 3 [u] = some z0 := by have := hfu 0 _ rfl; simpa [c1, r0] using this
      have k1 : DataW.trod enc Try.prog W base (fun _ => true) hd k 33 [v] = some z1 := by have := hfu 1 _ rfl; simpa [cb, r1] using this
      obtain ⟨z, rfl, _⟩ := int_of_trod Try.underlying3 k0
      obtain ⟨A2, c2, ps, rfl, hs⟩ := open_chs k1
      exact ⟨z, A2, c2, ps, rfl, rfl, hs⟩
    obtain ⟨pl, P, cp, ps, rfl, rfl, hp⟩ := pat _ _ _ g0
    obtain ⟨ql, Q, cq, qs, rfl, rfl, hq⟩ := pat _ _ _ g1
    exact ⟨pl, ql, P, Q, cp, cq, ps, qs, rfl, hp, hq⟩
end
end Go.Proofs.Ytfcmngiekdhfpaa
