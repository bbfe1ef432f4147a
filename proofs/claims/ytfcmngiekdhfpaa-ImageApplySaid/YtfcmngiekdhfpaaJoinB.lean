/-
  Join and Apply as contracts of one shape; pointers to new patches.
-/
import Derived.Test.YtfcmngiekdhfpaaRefC
import Derived.Test.YtfcmngiekdhfpaaJoinA
import Derived.Test.YtfcmngiekdhfpaaEqB
import Derived.Test.YtfcmngiekdhfpaaSeqK
namespace Go.Proofs.Ytfcmngiekdhfpaa
open Go.RowKit
set_option linter.unusedVariables false

theorem ptr_ne' {g h : Nat} (k : ∀ x, pB (.pointer (some ⟨g, 0, none⟩)) = some x → pB (.pointer (some ⟨h, 0, none⟩)) ≠ some x) : g ≠ h := fun e => by
  subst e
  exact k g rfl rfl
def PNew (w0 : World) (t : TypeId) (cs : Array Value) (v : Value) (w : World) : Prop := ∃ g, v = .pointer (some ⟨g, 0, none⟩) ∧ w0.heap.size ≤ g ∧ Blk w g t cs
theorem PNew.ext {w0 : World} {t : TypeId} {cs : Array Value} {v : Value} {w w' : World} (h : PNew w0 t cs v w) (he : Ext w w') : PNew w0 t cs v w' := let ⟨g, h1, h2, h3⟩ := h; ⟨g, h1, h2, h3.ext he⟩
theorem PNew.old {w0 : World} {t : TypeId} {cs : Array Value} : ∀ (v : Value) (w : World), PNew w0 t cs v w → ∀ g, pB v = some g → g < w.heap.size := fun v w ⟨g, h1, _, h3⟩ k hk => by
  subst h1
  injection hk with hk
  subst hk
  exact h3.lt
theorem PNew.at_ {w0 w : World} {t : TypeId} {cs : Array Value} {g : Nat} (h : PNew w0 t cs (.pointer (some ⟨g, 0, none⟩)) w) : w0.heap.size ≤ g ∧ Blk w g t cs := by
  obtain ⟨k, h1, h2, h3⟩ := h
  injection h1 with h1
  injection h1 with h1
  injection h1 with h1
  subst h1
  exact ⟨h2, h3⟩
def ShP (v : Value) : Prop := ∃ g, v = .pointer (some ⟨g, 0, none⟩)
theorem newP {w : World} {n : Nat} (h : w.heap.size = n) : ∀ g, pB (.pointer (some ⟨n, 0, none⟩)) = some g → w.heap.size ≤ g := fun g hg => by
  have hg : some n = some g := hg
  injection hg with hg
  omega
theorem Blk.put2 {w : World} {g : Nat} {t : TypeId} {a b : Value} (h : Blk w g t #[a, b]) (x y : Value) : Blk ((w.setCell ⟨g, 0, none⟩ x).setCell ⟨g, 1, none⟩ y) g t #[x, y] := by
  have := (h.set 0 x).set 1 y
  simpa using this
theorem Blk.put2_far {w : World} {g k : Nat} {t : TypeId} {cs : Array Value} (h : Blk w g t cs) (hk : g ≠ k) (x y : Value) : Blk ((w.setCell ⟨k, 0, none⟩ x).setCell ⟨k, 1, none⟩ y) g t cs := (h.far hk x).far hk y
theorem Ext.put2 {a w : World} (h : Ext a w) {g : Nat} (hg : a.heap.size ≤ g) (x y : Value) : Ext a ((w.setCell ⟨g, 0, none⟩ x).setCell ⟨g, 1, none⟩ y) := (h.set hg x).set hg y
/-- What lay in w0 lies as it did, whatever turned behind it. -/
theorem Chs.old {w0 w : World} {A : Option Addr} {cap : Nat} {cs : List Chg} (h : Chs w0 A cap cs) (he : Ext w0 w) : Chs w A cap cs := h.ext he

def jok (plen qlen n : Int) (ps qs : List Chg) : Bool := validP plen ps n && validP qlen qs plen
def jL (plen qlen n : Int) (ps qs : List Chg) : List Chg := if jok plen qlen n ps qs then joinTo ps qs (cntN qlen.toNat) else []
def jN (plen qlen n : Int) (ps qs : List Chg) : Int := if jok plen qlen n ps qs then qlen else 0
def jE (plen qlen n : Int) (ps qs : List Chg) : Int := if jok plen qlen n ps qs then 0 else 1
theorem jL_length (plen qlen n : Int) (ps qs : List Chg) : (jL plen qlen n ps qs).length ≤ 24000 := by
  unfold jL
  split
  · rename_i h
    unfold jok at h
    simp only [Bool.and_eq_true] at h
    have h1 := joinTo_length ps qs (cntN qlen.toNat)
    have h2 := cntN_le qlen.toNat
    have h3 := (validP_parts h.2).2.2.1
    omega
  · simp
theorem joinTo_data {ps qs : List Chg} {m : Nat} (hp : ∀ c ∈ ps, c.2.length ≤ m) (hq : ∀ c ∈ qs, c.2.length ≤ m) : ∀ k, ∀ c ∈ joinTo ps qs k, c.2.length ≤ m
  | 0, c, h => by cases h
  | k + 1, c, h => by
    simp only [joinTo] at h
    rcases List.mem_append.1 h with h | h
    · exact joinTo_data hp hq k c h
    · split at h
      · simp only [List.mem_singleton] at h; subst h; exact fd_small hq
      · split at h
        · simp only [List.mem_singleton] at h; subst h; exact fd_small hp
        · cases h
theorem jL_data (plen qlen n : Int) (ps qs : List Chg) (hp : ∀ c ∈ ps, c.2.length ≤ 65536) (hq : ∀ c ∈ qs, c.2.length ≤ 65536) : ∀ c ∈ jL plen qlen n ps qs, c.2.length ≤ 65536 := by
  unfold jL
  split
  · exact joinTo_data hp hq _
  · intro c h; cases h
theorem join_any (plen qlen n : Int) (P Q : Option Addr) (cp cq : Nat) (ps qs : List Chg) (w : World) (hp : Chs w P cp ps) (hq : Chs w Q cq qs) (hlp : ps.length ≤ 65536) (hlq : qs.length ≤ 65536) (hdp : ∀ c ∈ ps, c.2.length ≤ 65536) (hdq : ∀ c ∈ qs, c.2.length ≤ 65536)
    (hn2 : n ≤ 9223372036854775807) (hpl : plen ≤ 9223372036854775807) :
    Calls Try.prog 38 #[.agg #[.int .i64 plen, .slice P ps.length cp], .agg #[.int .i64 qlen, .slice Q qs.length cq], .int .i64 n] w fun e w' => ∃ C c, e = .returned (.tuple #[.agg #[.int .i64 (jN plen qlen n ps qs), .slice C (jL plen qlen n ps qs).length c], .int .i64 (jE plen qlen n ps qs)]) ∧ OwnCh w' w.heap.size 43 (.slice C (jL plen qlen n ps qs).length c) (jL plen qlen n ps qs) ∧ Ext w w' := by
  cases h : jok plen qlen n ps qs with
  | true =>
    have h' := h
    unfold jok at h'
    simp only [Bool.and_eq_true] at h'
    obtain ⟨p, rfl⟩ := Int.eq_ofNat_of_zero_le (validP_parts h'.1).2.1
    obtain ⟨q, rfl⟩ := Int.eq_ofNat_of_zero_le (validP_parts h'.2).2.1
    simp only [jN, jL, jE, h, if_true, Int.toNat_natCast]
    exact join_good p q n P Q cp cq ps qs w hp hq hlp hlq hdp hdq hn2 h'.1 h'.2
  | false =>
    simp only [jN, jL, jE, h, Bool.false_eq_true, if_false]
    have h' : validP plen ps n = false ∨ validP qlen qs plen = false := by
      unfold jok at h
      exact Bool.and_eq_false_iff.1 h
    refine (join_bad plen qlen n P Q cp cq ps qs w hp hq hlp hlq hdp hdq hn2 hpl h').mono ?_
    rintro e w' ⟨rfl, h2⟩
    exact ⟨none, 0, rfl, OwnCh.nil_ _ _ _, h2⟩
theorem rjoin_any (plen qlen n : Int) (P Q : Option Addr) (cp cq : Nat) (ps qs : List Chg) (w : World) (hp : Chs w P cp ps) (hq : Chs w Q cq qs) (hlp : ps.length ≤ 65536) (hlq : qs.length ≤ 65536) (hdp : ∀ c ∈ ps, c.2.length ≤ 65536) (hdq : ∀ c ∈ qs, c.2.length ≤ 65536)
    (hn2 : n ≤ 9223372036854775807) (hpl : plen ≤ 9223372036854775807) :
    Calls Try.prog 40 #[.agg #[.int .i64 plen, .slice P ps.length cp], .agg #[.int .i64 qlen, .slice Q qs.length cq], .int .i64 n] w fun e w' => ∃ C c, e = .returned (.tuple #[.agg #[.int .i64 (jN plen qlen n ps qs), .slice C (jL plen qlen n ps qs).length c], .int .i64 (jE plen qlen n ps qs)]) ∧ OwnCh w' w.heap.size 88 (.slice C (jL plen qlen n ps qs).length c) (jL plen qlen n ps qs) ∧ Ext w w' := by
  cases h : jok plen qlen n ps qs with
  | true =>
    have h' := h
    unfold jok at h'
    simp only [Bool.and_eq_true] at h'
    obtain ⟨p, rfl⟩ := Int.eq_ofNat_of_zero_le (validP_parts h'.1).2.1
    obtain ⟨q, rfl⟩ := Int.eq_ofNat_of_zero_le (validP_parts h'.2).2.1
    simp only [jN, jL, jE, h, if_true, Int.toNat_natCast]
    exact rjoin_good p q n P Q cp cq ps qs w hp hq hlp hlq hdp hdq hn2 h'.1 h'.2
  | false =>
    simp only [jN, jL, jE, h, Bool.false_eq_true, if_false]
    have h' : validP plen ps n = false ∨ validP qlen qs plen = false := by
      unfold jok at h
      exact Bool.and_eq_false_iff.1 h
    refine (rjoin_bad plen qlen n P Q cp cq ps qs w hp hq hlp hlq hdp hdq hn2 hpl h').mono ?_
    rintro e w' ⟨rfl, h2⟩
    exact ⟨none, 0, rfl, OwnCh.nil_ _ _ _, h2⟩
/-- Apply's outcome. -/
def apL (a : List UInt8) (len : Int) (cs : List Chg) : List UInt8 := if validP len cs a.length then applied a len.toNat cs else []
def apE (a : List UInt8) (len : Int) (cs : List Chg) : Int := if validP len cs a.length then 0 else 1
theorem apL_length (a : List UInt8) (len : Int) (cs : List Chg) : (apL a len cs).length ≤ 24000 := by
  unfold apL
  split
  · rename_i h
    obtain ⟨_, h2, h3, h4, _⟩ := validP_parts h
    obtain ⟨n, rfl⟩ := Int.eq_ofNat_of_zero_le h2
    rw [Int.toNat_natCast, applied_length a n cs h4]
    omega
  · simp
theorem Rw.own {w : World} {g : Nat} {e : TypeId} {l : List UInt8} (h : Rw w g e l) {base : Nat} (hb : base ≤ g) (hm : l.length ≤ maxLen) : Own w base e (.slice (some ⟨g, 0, none⟩) l.length l.length) l :=
  ⟨by simp [bys], .inr ⟨g, l.length, (bys l).toArray, rfl, hb, h, Nat.le_refl _, hm, by simp [bys], by simp only [bys]; exact List.take_of_length_le (by simp)⟩⟩
theorem applyO_any (len : Int) (A : Option Addr) (ca : Nat) (a : List UInt8) (C : Option Addr) (cap : Nat) (cs : List Chg) (w : World) (ha : Sl w A ca a) (hc : Chs w C cap cs) (hl : cs.length ≤ 65536) (hd : ∀ c ∈ cs, c.2.length ≤ 65536) :
    Calls Try.prog 24 #[.slice A a.length ca, .agg #[.int .i64 len, .slice C cs.length cap]] w fun e w' => ∃ B c, e = .returned (.tuple #[.slice B (apL a len cs).length c, .int .i64 (apE a len cs)]) ∧ Own w' w.heap.size 5 (.slice B (apL a len cs).length c) (apL a len cs) ∧ Ext w w' := by
  cases h : validP len cs a.length with
  | true =>
    obtain ⟨n, rfl⟩ := Int.eq_ofNat_of_zero_le (validP_parts h).2.1
    have h24 := (validP_parts h).2.2.1
    simp only [apL, apE, h, if_true, Int.toNat_natCast]
    refine (apply_goodR n A ca a C cap cs w ha hc hl hd h).mono ?_
    rintro e w' ⟨g, rfl, h1, h2, h3, h4⟩
    have ho := h3.own (base := w.heap.size) h1 (by rw [h2]; simp only [maxLen]; omega)
    exact ⟨some ⟨g, 0, none⟩, n, by rw [h2], by rw [h2] at ho ⊢; exact ho, h4⟩
  | false =>
    simp only [apL, apE, h, Bool.false_eq_true, if_false]
    refine (apply_bad len A ca a C cap cs w ha hc hl hd h).mono ?_
    rintro e w' ⟨rfl, h2⟩
    exact ⟨none, 0, rfl, Own.nil_ _ _ _, h2⟩
theorem rapplyO_any (len : Int) (A : Option Addr) (ca : Nat) (a : List UInt8) (C : Option Addr) (cap : Nat) (cs : List Chg) (w : World) (ha : Sl w A ca a) (hla : a.length ≤ 65536) (hc : Chs w C cap cs) (hl : cs.length ≤ 65536) (hd : ∀ c ∈ cs, c.2.length ≤ 65536) :
    Calls Try.prog 41 #[.slice A a.length ca, .agg #[.int .i64 len, .slice C cs.length cap]] w fun e w' => ∃ B c, e = .returned (.tuple #[.slice B (apL a len cs).length c, .int .i64 (apE a len cs)]) ∧ Own w' w.heap.size 5 (.slice B (apL a len cs).length c) (apL a len cs) ∧ Ext w w' := by
  cases h : validP len cs a.length with
  | true =>
    obtain ⟨n, rfl⟩ := Int.eq_ofNat_of_zero_le (validP_parts h).2.1
    simp only [apL, apE, h, if_true, Int.toNat_natCast]
    exact rapply_good n A ca a C cap cs w ha hla hc hl hd h
  | false =>
    simp only [apL, apE, h, Bool.false_eq_true, if_false]
    refine (rapply_bad len A ca a C cap cs w ha hc hl hd h).mono ?_
    rintro e w' ⟨rfl, h2⟩
    exact ⟨none, 0, rfl, Own.nil_ _ _ _, h2⟩

def ShTu (len : Int) (n : Nat) (e : Int) (v : Value) : Prop := ∃ C c, v = .tuple #[.agg #[.int .i64 len, .slice C n c], .int .i64 e]
def FTu (ty : TypeId) (len : Int) (cs : List Chg) (e : Int) (v : Value) (w : World) : Prop := ∃ C c, v = .tuple #[.agg #[.int .i64 len, .slice C cs.length c], .int .i64 e] ∧ OwnCh w 0 ty (.slice C cs.length c) cs
theorem FTu.ext {ty : TypeId} {len : Int} {cs : List Chg} {e : Int} {v : Value} {w w' : World} (h : FTu ty len cs e v w) (he : Ext w w') : FTu ty len cs e v w' := let ⟨C, c, h1, h2⟩ := h; ⟨C, c, h1, h2.ext he⟩
theorem FTu.chs {ty : TypeId} {len : Int} {cs : List Chg} {n : Nat} {e : Int} {C : Option Addr} {c : Nat} {w : World} (h : FTu ty len cs e (.tuple #[.agg #[.int .i64 len, .slice C n c], .int .i64 e]) w) : OwnCh w 0 ty (.slice C cs.length c) cs := by
  obtain ⟨C', c', h1, h2⟩ := h
  simp only [Value.tuple.injEq, Value.agg.injEq, Array.mk.injEq, List.cons.injEq, Value.slice.injEq, and_true, true_and] at h1
  obtain ⟨rfl, _, rfl⟩ := h1
  exact h2
def noB (v : Value) : Bool := match v with
  | .int .u8 _ => false
  | _ => true
theorem noB_ne {cs : Array Value} (h : cs.all noB = true) (i : Nat) (x : Int) : cs[i]? ≠ some (.int .u8 x) := fun e => by
  have := Array.all_eq_true_iff_forall_mem.1 h _ (Array.mem_of_getElem? e)
  simp [noB] at this
/-- Bytes do not lie in a block that holds none. -/
theorem Sl.put {w : World} {A : Option Addr} {cap : Nat} {l : List UInt8} (h : Sl w A cap l) {g : Nat} {t : TypeId} {cs : Array Value} (hb : Blk w g t cs) (hn : cs.all noB = true) (i : Nat) (x : Value) : Sl (w.setCell ⟨g, i, none⟩ x) A cap l := by
  refine ⟨h.le, h.max, h.nil, ?_⟩
  by_cases hl : l = []
  · exact .inl hl
  rcases h.rd with h0 | ⟨b, off, ha, hlt, hc⟩
  · exact .inl h0
  · have hne : b ≠ g := fun e => by
      subst e
      have h1 := hc 0 (List.length_pos_iff.2 hl)
      rw [hb.cell] at h1
      exact noB_ne hn _ _ h1
    have hg : w.grownBy (w.setCell ⟨g, i, none⟩ x) (some g) := ⟨rfl, rfl, rfl, by simp [World.setCell], fun k _ hk => Below.heap_setCell w ⟨g, i, none⟩ x k (fun e => hk (by rw [e]))⟩
    exact .inr ⟨b, off, ha, by simpa [World.setCell] using hlt, fun j hj => hg.cell (hc j hj) (fun e => hne (by injection e))⟩
theorem OwnCh.put {w : World} {base : Nat} {e : TypeId} {v : Value} {cs : List Chg} (h : OwnCh w base e v cs) {g : Nat} {t : TypeId} {ds : Array Value} (hb : Blk w g t ds) (hn : ds.all noB = true) (hte : t ≠ e) (i : Nat) (x : Value) : OwnCh (w.setCell ⟨g, i, none⟩ x) base e v cs := by
  obtain ⟨xs, ⟨h1, h2⟩, h3⟩ := h
  refine ⟨xs, ⟨h1, ?_⟩, fun j hj => ?_⟩
  · rcases h2 with h2 | ⟨k, cap, cur, a, b, c, d⟩
    · exact .inl h2
    · refine .inr ⟨k, cap, cur, a, b, ?_, d⟩
      rw [Below.heap_setCell w ⟨g, i, none⟩ x k (fun e' => ?_)]
      · exact c
      · have e' : k = g := e'
        subst e'
        unfold Blk at hb
        rw [hb] at c
        injection c with c
        injection c with _ c
        exact hte c
  · obtain ⟨u, y, a, b, c, A, cap, d, f, q⟩ := h3 j hj
    exact ⟨u, y, a, b, c, A, cap, d, f.put hb hn i x, q⟩
theorem OwnCh.put2 {w : World} {base : Nat} {e : TypeId} {v : Value} {cs : List Chg} (h : OwnCh w base e v cs) {g : Nat} {t : TypeId} {a b : Value} (hb : Blk w g t #[a, b]) (hn : (#[a, b] : Array Value).all noB = true) (hte : t ≠ e) (x y : Value) (hx : noB x = true) :
    OwnCh ((w.setCell ⟨g, 0, none⟩ x).setCell ⟨g, 1, none⟩ y) base e v cs := by
  have hb2 : Blk (w.setCell ⟨g, 0, none⟩ x) g t #[x, b] := by have := hb.set 0 x; simpa using this
  refine (h.put hb hn hte 0 x).put hb2 ?_ hte 1 y
  simp at hn ⊢
  exact ⟨hx, hn.2⟩
/-- The two patches of an argument, each in a new variable. -/
def TwoAt (w0 w : World) (g1 g2 : Nat) (plen qlen : Int) (P Q : Option Addr) (np nq cp cq : Nat) : Prop :=
  g1 ≠ g2 ∧ w0.heap.size ≤ g1 ∧ w0.heap.size ≤ g2 ∧ Blk w g1 35 #[.int .i64 plen, .slice P np cp] ∧ Blk w g2 35 #[.int .i64 qlen, .slice Q nq cq]
end Go.Proofs.Ytfcmngiekdhfpaa
