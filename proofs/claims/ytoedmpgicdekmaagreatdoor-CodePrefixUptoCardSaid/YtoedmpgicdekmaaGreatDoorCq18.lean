/-
  Parts of the proof: PaA PaB.
-/
import Derived.Test.YtoedmpgicdekmaaGreatDoorCq00
import Derived.Defers
import Derived.Recover
import Derived.Laws.Pointers
import Derived.BigRegion
import Derived.WalkLawsBesides
import Derived.Test.YtoedmpgicdekmaaGreatDoorCq05
import Derived.Test.YtoedmpgicdekmaaGreatDoorCq14
import Derived.Test.YtoedmpgicdekmaaGreatDoorCq16
set_option maxRecDepth 100000
set_option maxHeartbeats 8000000
set_option linter.unusedVariables false
set_option linter.unusedSimpArgs false
set_option linter.unusedSectionVars false
namespace Go.Proofs.YtoedmpgicdekmaaGreatDoor
open Go.Proofs.Tryz
section
open Go.RowKit
theorem uz (p0 p1 p2:Value) (w:World):
  CallsD prog 47 #[p0,p1,p2] .returning w fun e u' w'=>e= .returned (.tuple #[])/\u'= .returning/\w'=w:=by
 refine callsD_of_wpS func47 rfl fun c₀ cs hu=> ?_;apply wpS_seq;apply wpS_region;simp[wpOpsS,go_sem,recoverD,hu,ntmps47,Exit.thenS];apply wpS_seq;apply wpS_region;simp[wpOpsS,go_sem,Exit.thenS];refine wpS_cond (t:=false) (by simp[Act.eval]) ?_;simp only[ch,if_false];refine wpS_of_wp (wp_skip ?_)
 cases c₀;simp_all[bodyPostS,results,results47]
end
section
open Go.RowKit
structure PW (w:World) (x0 x1 y z:Value) (W:World):Prop where
 e:au w W
 b0:aP W w.heap.size 31 #[x0,x1]
 b1:aP W (w.heap.size+1) 3 #[y]
 b2:aP W (w.heap.size+1+1) 33 #[z]
theorem Dk (w:World) (x0 x1 y z:Value):PW w x0 x1 y z (((w.alloc (.cells #[x0,x1] 31)).alloc (.cells #[y] 3)).alloc (.cells #[z] 33)):=by
 refine⟨((aa w _).alloc' _).alloc' _,((aw w _ _).alloc _).alloc _,?_,?_⟩
 ·have:=(aw (w.alloc (.cells #[x0,x1] 31)) 3 #[y]).alloc (.cells #[z] 33);rwa [World.size_alloc]at this
 ·have:=aw ((w.alloc (.cells #[x0,x1] 31)).alloc (.cells #[y] 3)) 33 #[z];rwa [World.size_alloc,World.size_alloc]at this
section
variable {w W W':World} {x0 x1 y z:Value}
theorem PW.ex (h:PW w x0 x1 y z W) (hE:au W W'):PW w x0 x1 y z W':=⟨h.e.trans hE,h.b0.ext hE,h.b1.ext hE,h.b2.ext hE⟩
theorem PW.lt (h:PW w x0 x1 y z W):w.heap.size+1+1<W.heap.size:=h.b2.lt
theorem PW.grown {g:Nat} (h:PW w x0 x1 y z W) (hg:W.grownBy W' (some g)) (hk:w.heap.size+1+1<g):PW w x0 x1 y z W':=
 ⟨h.e.grown hg (fun k e=>by injection e with e;omega),h.b0.grown hg (fun e=>by injection e with e;omega),h.b1.grown hg (fun e=>by injection e with e;omega),h.b2.grown hg (fun e=>by injection e with e;omega)⟩
theorem PW.put0 (h:PW w x0 x1 y z W) (p0 p1:Value):PW w p0 p1 y z ((W.setCell ⟨w.heap.size,0,none⟩ p0).setCell ⟨w.heap.size,1,none⟩ p1):=by
 refine⟨(h.e.set (ah _) _).set (ah _) _,?_,(h.b1.far (p:=⟨w.heap.size,0,none⟩) (by show _≠w.heap.size;omega) _).far (p:=⟨w.heap.size,1,none⟩) (by show _≠w.heap.size;omega) _,(h.b2.far (p:=⟨w.heap.size,0,none⟩) (by show _≠w.heap.size;omega) _).far (p:=⟨w.heap.size,1,none⟩) (by show _≠w.heap.size;omega) _⟩;have:=(h.b0.set 0 p0).set 1 p1;simpa using this
theorem PW.put1 (h:PW w x0 x1 y z W) (q:Value):PW w x0 x1 q z (W.setCell ⟨w.heap.size+1,0,none⟩ q):=by
 refine⟨h.e.set (by show w.heap.size<=w.heap.size+1;omega) _,h.b0.far (p:=⟨w.heap.size+1,0,none⟩) (by show _≠w.heap.size+1;omega) _,?_,h.b2.far (p:=⟨w.heap.size+1,0,none⟩) (by show _≠w.heap.size+1;omega) _⟩;have:=h.b1.set 0 q;simpa using this
theorem PW.put2 (h:PW w x0 x1 y z W) (q:Value):PW w x0 x1 y q (W.setCell ⟨w.heap.size+1+1,0,none⟩ q):=by
 refine⟨h.e.set (by show w.heap.size<=w.heap.size+1+1;omega) _,h.b0.far (p:=⟨w.heap.size+1+1,0,none⟩) (by show _≠w.heap.size+1+1;omega) _,h.b1.far (p:=⟨w.heap.size+1+1,0,none⟩) (by show _≠w.heap.size+1+1;omega) _,?_⟩;have:=h.b2.set 0 q;simpa using this
end
theorem uQ {w W:World} {b i:Nat} (v:Value):dm (fun k=>k≠b) W (W.setCell ⟨b,i,none⟩ v):=⟨by simp[World.setCell],fun k hk _=>Below.heap_setCell W ⟨b,i,none⟩ v k hk⟩
theorem xr.keepP {w w':World} {P:Nat->Prop} {A:Option Addr} {c:Nat} {l:List dW} (h:xr w A c l) (hk:dm P w w') (hP: ∀b off,A=some ⟨b,off,none⟩->l≠ []->P b):xr w' A c l:=by
 refine⟨h.le,h.max,?_⟩;by_cases hl:l=[]
 ·exact .inl hl
 ·rcases h.rd with h0|⟨b,off,ha,hlt,hc⟩
  ·exact .inl h0
  ·have cc:=fun o=>hk.cell o (hP b off ha hl) hlt;exact .inr ⟨b,off,ha,aA hlt hk.size,fun i hi=>let⟨q0,q1,q2,q3⟩:=hc i hi;⟨(cc _).trans q0,(cc _).trans q1,(cc _).trans q2,(cc _).trans q3⟩⟩
theorem Dn {w W:World} {x0 x1 y z a b:Value} {base:Nat} {A:Option Addr} {c:Nat} {ts:List dW} (sl:Int) (h:PW w x0 x1 y z W) (hO:gK W base 188 (.slice A ts.length c) ts) (hb:w.heap.size+3<=base):
  PA (((W.setCell ⟨w.heap.size+1,0,none⟩ a).setCell ⟨w.heap.size+1+1,0,none⟩ b).alloc (.cells #[.slice A ts.length c, .int .i64 sl] 124)) W.heap.size ts sl:=by
 have hT:=hO.tks.2;have hB: ∀k,(Value.slice A ts.length c).ownBlock=some k->base<=k:=fun k hk=>(World.ownsRow.lt hO k hk).1;have hk1: ∀b off,A=some ⟨b,off,none⟩->ts≠ []->b≠w.heap.size+1/\b≠w.heap.size+1+1:=fun b off e hne=>by
  subst e;have:=hB b rfl;omega
 have hs:(((W.setCell ⟨w.heap.size+1,0,none⟩ a).setCell ⟨w.heap.size+1+1,0,none⟩ b)).heap.size=W.heap.size:=by simp[World.setCell]
 have hT1:=(hT.keepP (uQ (w:=w) (b:=w.heap.size+1) (i:=0) a) (fun b off e hne=>(hk1 b off e hne).1)).keepP (uQ (w:=w) (b:=w.heap.size+1+1) (i:=0) b) (fun b off e hne=>(hk1 b off e hne).2);refine⟨A,c,?_,hT1.ext (aa _ _),fun b off e hne=> ?_⟩
 ·have:=aw ((W.setCell ⟨w.heap.size+1,0,none⟩ a).setCell ⟨w.heap.size+1+1,0,none⟩ b) 124 #[.slice A ts.length c, .int .i64 sl];rwa [hs]at this
 ·rcases hT.rd with h0|⟨b',off',ha,hlt,_⟩
  ·exact absurd h0 hne
  ·rw[e]at ha;injection ha with ha;injection ha with ha;omega
theorem gH {w w':World} (h:dK w w.heap.size) (he:au w w'):dK w' w'.heap.size:=⟨(h.fb (aQ he (ah _))).1,aA h.2 he.size⟩
theorem mw {w W:World} {b i:Nat} (v:Value) (hb:b<=w.heap.size+1+1):dm (fun b=>w.heap.size+1+1<b) W (W.setCell ⟨b,i,none⟩ v):=
 ⟨by simp[World.setCell],fun k hk _=>Below.heap_setCell W ⟨b,i,none⟩ v k (by show k≠b;omega)⟩
theorem zh {w W:World} (a b:Value):dm (fun b=>w.heap.size+1+1<b) W ((W.setCell ⟨w.heap.size,0,none⟩ a).setCell ⟨w.heap.size,1,none⟩ b):=
 eD (mw a (by omega)) (mw b (by omega))
theorem zi {w W:World} (a b c d:Value):dm (fun b=>w.heap.size+1+1<b) W ((((W.setCell ⟨w.heap.size,0,none⟩ a).setCell ⟨w.heap.size,1,none⟩ b).setCell ⟨w.heap.size+1,0,none⟩ c).setCell ⟨w.heap.size+1+1,0,none⟩ d):=
 eD (eD (eD (mw a (by omega)) (mw b (by omega))) (mw c (by omega))) (mw d (by omega))
def Aq (w:World) (r:Pg×Int×Int) (e:Ending) (w':World):Prop:=
 au w w'/\ ∃A n c B m d,e= .returned (.tuple #[.agg #[.slice A n c, .slice B m d], .int .i64 r.2.1, .int .i64 r.2.2])/\nG w' (fun b=>w.heap.size<=b) (.slice A n c) r.1.vs/\oT w' (fun b=>w.heap.size<=b) (.slice B m d) r.1.fs
end
end Go.Proofs.YtoedmpgicdekmaaGreatDoor
