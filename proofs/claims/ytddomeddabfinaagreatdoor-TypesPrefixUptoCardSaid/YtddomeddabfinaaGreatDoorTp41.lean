/-
  Parts of the proof: TyFw TyOr.
-/
import Derived.Test.YtddomeddabfinaaGreatDoorTp00
import Derived.Test.YtddomeddabfinaaGreatDoorTp31
import Derived.Test.YtddomeddabfinaaGreatDoorTp05
set_option maxRecDepth 100000
set_option maxHeartbeats 8000000
set_option linter.unusedVariables false
set_option linter.unusedSimpArgs false
set_option linter.unusedSectionVars false
namespace Go.Proofs.YtddomeddabfinaaGreatDoor
open Go.Proofs.Tryz
section
open Go.RowKit
def Fv (e:Ending):Prop:= ∃b:Bool,e= .returned (.bool b)
theorem Cl {w:World} {P:Nat->Prop} {A:Option Addr} {n c:Nat} {R:Rs} (h:jA w P (.slice A n c) R) (i:Nat) (hi:i<R.length):
  ∃b o B d,A=some ⟨b,o,none⟩/\P b/\b<w.heap.size/\n<=c/\c<=maxLen/\w.cell? ⟨b,o+i*2,none⟩=some (.int .i64 R[i].1)/\w.cell? ⟨b,o+i*2+1,none⟩=some (.slice B R[i].2.length d)/\Sl w B d R[i].2/\ ∀b2 o2,B=some ⟨b2,o2,none⟩->R[i].2≠ []->P b2:=by
 obtain⟨A',c',he,h⟩:=h;injection he with e1 e2 e3;subst e1 e2 e3;rcases h with h|⟨h1,h2,b,o,ha,hP,hb,da,dc,hc⟩
 ·rw[h]at hi;simp at hi
 ·obtain⟨q0,q1,q2,q3⟩:=hc i hi;exact⟨b,o,_,_,ha,hP,hb,h1,h2,q0,q1,q2,q3⟩
theorem jA.form {w:World} {P:Nat->Prop} {v:Value} {R:Rs} (h:jA w P v R): ∃A n c,v= .slice A n c/\R.length=n:=by
 obtain⟨A,c,rfl,_⟩:=h;exact⟨_,_,_,rfl,rfl⟩
theorem yU (R:Rs) (hl:R.length<=1000000000) (P:Nat->Prop) (w:World) (v:Value) (hR:jA w P v R):Calls prog 16 #[v] w fun e w'=>Fv e/\au w w':=by
 obtain⟨A,n,c,rfl,hn⟩:=hR.form;rw[hn]at hl;have HN:=G hn;have HR:=G hR;clear hR hn;go_enter func16,ntmps16;go_wp2_with fail
 go_loopw [3,4] (fun vo vi wr=> ∃(j:Nat) (k:Int),vi= .int .i64 (j:Int)/\vo= .int .i64 k/\j<=n/\Hid (au w wr)) (fun vo vi _=>n-(intOf vi).toNat)
 case atStart=>exact⟨0,0,rfl,rfl,aB _,G (aN w)⟩
 case round=>
  obtain⟨j,k,rfl,rfl,hj,HX⟩:=hrel;by_cases hlt:j<n
  ·have hlt':(j:Int)<n:=by omega
   have hjl:j<R.length:=by have:=HN.out;omega
   obtain⟨b,o,B,d,rfl,_,hb,_,_,h0,h1,hs,_⟩:=Cl HR.out j hjl;have e1:=(HX.out.cell b _ hb).trans h1;have hle:=hs.le;have hmx:=hs.max;unfold maxLen at hmx;generalize R[j]=x at*;obtain⟨x1,x2⟩:=x;simp only at e1 hle;generalize x2.length=q at*;clear h0 h1 hs hb;go_wp2_with fail;go_roundw
   case rel=>exact⟨j+1,_,by go_num,rfl,by omega,HX⟩
   case measure=>simp[intOf];omega
  ·have hlt': ¬(j:Int)<n:=by omega
   go_wp2_with fail;all_goals (go_ret;exact⟨⟨_,rfl⟩,HX.out⟩)
end
section
open Go.RowKit
structure RV where
 x:Int
 l:List UInt8
 A:Option Addr
 d:Nat
def RV.val (p:RV):Value:= .slice p.A p.l.length p.d
def sZ (p:RV):List Value:=[.int .i64 p.x,p.val]
def iU (q:List RV):List Value:=q.flatMap sZ
def RV.ok (p:RV) (w:World) (P:Nat->Prop):Prop:=Sl w p.A p.d p.l/\ ∀b o,p.A=some ⟨b,o,none⟩->p.l≠ []->P b
theorem vH (a b:List RV):iU (a++b)=iU a++iU b:=by simp[iU]
theorem pz: ∀(q:List RV) (i:Nat) (h:i<q.length) (k:Nat),k<2->(iU q)[i*2+k]? =(sZ q[i])[k]?
 |p::q,0,_,k,hk=>by
  simp only[iU,bL,a_,aD,aG];rw[cP (by simpa[sZ]using hk)]
 |p::q,i+1,h,k,hk=>by
  have:=pz q i (by simpa using h) k hk;simp only[iU,bL,aP]at this⊢;rw[cg (by simp[sZ];omega),show(i+1)*2+k-(sZ p).length=i*2+k by simp[sZ];omega];exact this
theorem jA.rvs {w:World} {P:Nat->Prop} {A:Option Addr} {n c:Nat} {R:Rs} (h:jA w P (.slice A n c) R):
  ∃q:List RV,q.map (fun p=>(p.x,p.l))=R/\q.length=n/\(∀p,p∈q->p.ok w P)/\(n=0\/n<=c/\c<=maxLen/\ ∃b o,A=some ⟨b,o,none⟩/\P b/\b<w.heap.size/\ ∀i,(h:i<q.length)->w.cell? ⟨b,o+i*2,none⟩=some (.int .i64 q[i].x)/\w.cell? ⟨b,o+i*2+1,none⟩=some q[i].val):=by
 obtain⟨A',c',he,h⟩:=h;injection he with e1 e2 e3;subst e1 e2 e3;rcases h with rfl|⟨h1,h2,b,o,ha,hP,hb,da,dc,hc⟩
 ·exact⟨[],rfl,rfl,fun p hp=>(by cases hp), .inl rfl⟩
 ·refine⟨List.ofFn (n:=R.length) (fun i=>⟨R[i].1,R[i].2,da i,dc i⟩),?_,by simp,fun p hp=> ?_, .inr ⟨h1,h2,b,o,ha,hP,hb,fun i hi=> ?_⟩⟩
  ·apply List.ext_getElem
   ·simp
   ·intro i h1 h2;simp
  ·rw[List.mem_ofFn]at hp;obtain⟨i,rfl⟩:=hp;obtain⟨_,_,q2,q3⟩:=hc i i.2;exact⟨q2,q3⟩
  ·have hi':i<R.length:=by simpa using hi
   obtain⟨q0,q1,_,_⟩:=hc i hi';simp only[List.getElem_ofFn,RV.val];exact⟨q0,q1⟩
theorem jA.of_row {w:World} {base:Nat} {e:TypeId} {v:Value} {n:Nat} {q:List RV} {Q:Nat->Prop} (h:w.ownsRow base e 2 v n (iU q)) (hn:q.length=n) (hQ: ∀b,base<=b->Q b) (hq: ∀p,p∈q->p.ok w Q):jA w Q v (q.map fun p=>(p.x,p.l)):=by
 rcases h.2 with⟨rfl,h0⟩|⟨g,cap,cur,rfl,hb,hg,hnc,hcm,hcs,ht⟩
 ·have:q=[]:=aE (by omega);subst this;exact⟨none,0,rfl, .inl rfl⟩
 ·have hlt:g<w.heap.size:=(Array.getElem?_eq_some_iff.1 hg).1;have cell: ∀j y,(iU q)[j]? =some y->w.cell? ⟨g,j,none⟩=some y:=fun j y hy=>by
   rw[cell_of_row w g j cur e (0,0) hg];rw[<-ht,bG]at hy;split at hy
   ·simpa using hy
   ·cases hy
  refine⟨_,cap,by rw[eS,hn], .inr ⟨by rw[eS];omega,hcm,g,0,rfl,hQ _ hb,hlt,fun i=>if h:i<q.length then q[i].A else none,fun i=>if h:i<q.length then q[i].d else 0,fun i hi=> ?_⟩⟩;have hi':i<q.length:=by simpa using hi
  have r:=fun k hk=>pz q i hi' k hk;have hok:=hq _ (aq hi');simp only[List.getElem_map,dif_pos hi',aD];exact⟨cell _ _ (r 0 (by omega)),cell _ _ (r 1 (by omega)),hok.1,hok.2⟩
end
end Go.Proofs.YtddomeddabfinaaGreatDoor
