/- Parts of the proof. -/
import Derived.Test.YtddomeddabfinaaGreatDoorTt00
import Derived.Test.YtddomeddabfinaaGreatDoorTt31
import Derived.Test.YtddomeddabfinaaGreatDoorTt05
set_option maxRecDepth 100000
set_option maxHeartbeats 8000000
set_option linter.unusedVariables false
set_option linter.unusedSimpArgs false
set_option linter.unusedSectionVars false
namespace Go.Proofs.YtddomeddabfinaaGreatDoor
open Go.Proofs.Tryz
section
open Go.RowKit
def Iv (e:Ending):Prop:= ∃b:Bool,e=.returned (.bool b)
theorem EV {h:World} {P:Nat->Prop} {A:Option Addr} {n c:Nat} {a:Rs} (o:lD h P (.slice A n c) a) (i:Nat) (w:i<a.length):
  ∃b j B d,A=some ⟨b,j,none⟩/\P b/\b<h.heap.size/\n<=c/\c<=maxLen/\h.cell? ⟨b,j+i*2,none⟩=some (.int .i64 a[i].1)/\h.cell? ⟨b,j+i*2+1,none⟩=some (.slice B a[i].2.length d)/\Sl h B d a[i].2/\ ∀z R,B=some ⟨z,R,none⟩->a[i].2≠ []->P z:=by
 obtain⟨ad,ac,V,o⟩:=o;injection V with ab I X;subst ab I X;rcases o with o|⟨h1,h2,b,j,ha,hP,hb,da,dc,hc⟩
 ·rw[o]at w;simp at w
 ·obtain⟨O,M,K,G⟩:=hc i w;exact⟨b,j,_,_,ha,hP,hb,h1,h2,O,M,K,G⟩
theorem lD.form {j:World} {P:Nat->Prop} {v:Value} {a:Rs} (o:lD j P v a): ∃h n c,v=.slice h n c/\a.length=n:=by
 obtain⟨h,c,rfl,_⟩:=o;exact⟨_,_,_,rfl,rfl⟩
theorem Bn (o:Rs) (ad:o.length<=1000000000) (P:Nat->Prop) (j:World) (v:Value) (G:lD j P v o):Calls prog 16 #[v] j λe w'=>Iv e/\az j w':=by
 obtain⟨J,n,c,rfl,A⟩:=G.form;rw[A]at ad;have ai:=O A;have ah:=O G;clear G A;go_enter func16,ntmps16;go_wp2_with fail
 go_loopw [3,4] (λM w wr=> ∃(a:Nat) (k:Int),w=.int .i64 (a:Int)/\M=.int .i64 k/\a<=n/\Hid (az j wr)) (λM w _=>n-(intOf w).toNat)
 case atStart=>exact⟨0,0,rfl,rfl,aI _,O (aS j)⟩
 case round=>
  obtain⟨a,k,rfl,rfl,al,K⟩:=hrel;by_cases hlt:a<n
  ·have ab:(a:Int)<n:=Qa
   have ae:a<o.length:=by have:=ai.out;omega
   obtain⟨b,ak,B,d,rfl,_,R,_,_,af,V,z,_⟩:=EV ah.out a ae;have ag:=(K.out.cell b _ R).trans V;have ac:=z.le;have I:=z.max;unfold maxLen at I;generalize o[a]=x at*;obtain⟨aj,X⟩:=x;simp only at ag ac;generalize X.length=q at*;clear af V z R;go_wp2_with fail;go_roundw
   case rel=>exact⟨a+1,_,by go_num,rfl,by omega,K⟩
   case measure=>simp[intOf];omega
  ·have ab: ¬(a:Int)<n:=Qa
   go_wp2_with fail;all_goals (go_ret;exact⟨⟨_,rfl⟩,K.out⟩)
structure RV where
 x:Int
 l:List UInt8
 A:Option Addr
 d:Nat
def RV.val (p:RV):Value:=.slice p.A p.l.length p.d
def u_ (p:RV):List Value:=[.int .i64 p.x,p.val]
def jP (q:List RV):List Value:=q.flatMap u_
def RV.ok (p:RV) (w:World) (P:Nat->Prop):Prop:=Sl w p.A p.d p.l/\ ∀b o,p.A=some ⟨b,o,none⟩->p.l≠ []->P b
theorem yh (a b:List RV):jP (a++b)=jP a++jP b:=by simp[jP]
theorem qR: ∀(q:List RV) (i:Nat) (a:i<q.length) (k:Nat),k<2->(jP q)[i*2+k]? =(u_ q[i])[k]?
 |p::q,0,_,k,hk=>by
  simp only[jP,bx,bp,aG,aK];rw[df (by simpa[u_]using hk)]
 |p::q,i+1,a,k,hk=>by
  have:=qR q i (by simpa using a) k hk;simp only[jP,bx,aV]at this⊢;rw[cC (by simp[u_];omega),show(i+1)*2+k-(u_ p).length=i*2+k by simp[u_];omega];exact this
theorem lD.rvs {h:World} {P:Nat->Prop} {G:Option Addr} {n c:Nat} {a:Rs} (w:lD h P (.slice G n c) a):
  ∃q:List RV,q.map (λp=>(p.x,p.l))=a/\q.length=n/\(∀p,p∈q->p.ok h P)/\(n=0\/n<=c/\c<=maxLen/\ ∃b j,G=some ⟨b,j,none⟩/\P b/\b<h.heap.size/\ ∀i,(w:i<q.length)->h.cell? ⟨b,j+i*2,none⟩=some (.int .i64 q[i].x)/\h.cell? ⟨b,j+i*2+1,none⟩=some q[i].val):=by
 obtain⟨af,ae,I,w⟩:=w;injection I with ad ac ab;subst ad ac ab;rcases w with rfl|⟨A,z,b,j,ha,hP,hb,da,dc,hc⟩
 ·exact⟨[],rfl,rfl,λp o=>(by cases o),.inl rfl⟩
 ·refine⟨List.ofFn (n:=a.length) (λi=>⟨a[i].1,a[i].2,da i,dc i⟩),?_,by simp,λp o=> ?_,.inr ⟨A,z,b,j,ha,hP,hb,λi X=> ?_⟩⟩
  ·apply List.ext_getElem
   ·simp
   ·intro i A z;simp
  ·rw[List.mem_ofFn]at o;obtain⟨i,rfl⟩:=o;obtain⟨_,_,M,K⟩:=hc i i.2;exact⟨M,K⟩
  ·have V:i<a.length:=by simpa using X
   obtain⟨R,O,_,_⟩:=hc i V;simp only[List.getElem_ofFn,RV.val];exact⟨R,O⟩
theorem lD.of_row {a:World} {base:Nat} {e:TypeId} {v:Value} {n:Nat} {q:List RV} {Q:Nat->Prop} (w:a.ownsRow base e 2 v n (jP q)) (M:q.length=n) (X: ∀b,base<=b->Q b) (K: ∀p,p∈q->p.ok a Q):lD a Q v (q.map λp=>(p.x,p.l)):=by
 rcases w.2 with⟨rfl,I⟩|⟨g,cap,cur,rfl,hb,hg,hnc,hcm,hcs,ht⟩
 ·have:q=[]:=ax Qa;subst this;exact⟨none,0,rfl,.inl rfl⟩
 ·have O:g<a.heap.size:=(Array.getElem?_eq_some_iff.1 hg).1;have G: ∀h y,(jP q)[h]? =some y->a.cell? ⟨g,h,none⟩=some y:=λh y j=>by
   rw[cell_of_row a g h cur e (0,0) hg];rw[<-ht,bL]at j;split at j
   ·simpa using j
   ·cases j
  refine⟨_,cap,by rw[eQ,M],.inr ⟨by rw[eQ];omega,hcm,g,0,rfl,X _ hb,O,λi=>if w:i<q.length then q[i].A else none,λi=>if w:i<q.length then q[i].d else 0,λi V=> ?_⟩⟩;have o:i<q.length:=by simpa using V
  have r:=λk R=>qR q i o k R;have z:=K _ (ay o);simp only[List.getElem_map,dif_pos o,aG];exact⟨G _ _ (r 0 Qa),G _ _ (r 1 Qa),z.1,z.2⟩
end
end Go.Proofs.YtddomeddabfinaaGreatDoor
