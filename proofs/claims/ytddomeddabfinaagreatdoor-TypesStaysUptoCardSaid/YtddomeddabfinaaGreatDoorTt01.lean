/- Parts of the proof. -/
import Derived.Test.YtddomeddabfinaaGreatDoorTt00
import Derived.Orders
import Derived.Tactics
import Derived.Below
import Derived.OrdersHeld
set_option maxRecDepth 100000
set_option maxHeartbeats 8000000
set_option linter.unusedVariables false
set_option linter.unusedSimpArgs false
set_option linter.defProp false
set_option linter.unusedSectionVars false
namespace Go.Proofs.YtddomeddabfinaaGreatDoor
open Go
theorem a8 (a : Act) (d : Nat) (v : Value) : Act.put a (some d) v = { a with tmps := a.tmps.setIfInBounds d v } := rfl
theorem aY (a : Act) (v : Value) : Act.put a none v = a := rfl
theorem a7 {α : Type _} (l : List α) (i : Nat) (a : α) : l.toArray.setIfInBounds i a = (l.set i a).toArray := br ..
theorem a6 {α : Type _} (a b : α) (l : List α) : (a :: l).set 0 b = b :: l := rfl
theorem aZ {α : Type _} (a b : α) (l : List α) (n : Nat) : (a :: l).set (n + 1) b = a :: l.set n b := rfl
def dO (a:Act) (t:Nat):Value:=a.tmps.getD t undef
def lC (ops:Array Oper) (i j:Nat):Bool:=(ops[i]?).any λo=>o.after.any λe=>Region.binds .any e&&e.on==j
def nL (ops:Array Oper):Nat->Nat->Nat->Bool
 |0,i,j=>lC ops i j
 |f+1,i,j=>(ops[i]?).any λo=>o.after.any λe=>Region.binds .any e&&(e.on==j||nL ops f e.on j)
def A_:Op->Bool
 | .select .. =>true
 | .defer _=>true
 | _=>false
def uy (pre:List Nat) (ops:Array Oper) (m size:Nat):Bool:=
 decide (m<=ops.size)&&
 (List.range ops.size).all (λi=>match ops[i]? with
  |some o=>o.after.all λe=> !Region.binds .any e||decide (e.on<i)
  |none=>false)&&
 (List.range m).all (λi=>match ops[i]? with
  |some o=> !A_ o.op&&(match o.dst with
    |some d=>decide (d<size)&&(List.range m).all λj=>j==i||(match ops[j]? with|some oj=>oj.dst !=some d|none=>false)
    |none=>false)&&
   (List.range m).all λj=>match (ops[j]?).bind (·.dst)with|some dj=> !(o.looksAt ops).contains dj||lC ops i j|none=>false
  |none=>false)&&
 (List.range (ops.size-m)).all (λk=>(List.range m).all (λj=>pre.contains j||nL ops 4 (m+k) j))
abbrev Ch:=Nat->Option ((Value->Prop)×(Value->World->Prop))
def pB (v:Value):Option Nat:=match v with
 | .pointer (some a)=>some a.block
 | _=>none
def zf (Q:Exit->Act->World->Prop):Exit->Act->World->Prop:=λe a w=> ∀a',a'.defers=a.defers->Q e a' w
def Yl (P:Program) (QQ:Exit->Act->World->Prop) (o:Oper) (a:Act) (w:World) (R:Value->World->Prop):Prop:=
 ∀(K:Act->World->Prop),(∀v w',R v w'->K (a.put o.dst v) w')->o.wp P a w K (zf QQ)
def eL (P:Program) (QQ:Exit->Act->World->Prop) (ops:Array Oper) (f:Nat) (tab:Ch) (late:Option Nat) (nw:Nat->Bool) (T U:World->World->Prop) (w0:World) (Fin:Act->List (Nat×(World->Prop))->Prop):List Oper->Nat->Act->List (Nat×(World->Prop))->Prop
 | [],_,a,Φ=>Fin a Φ
 |o::rest,i,a,Φ=>
  (Region.wanted o (yielded ops a.tmps)=false->eL P QQ ops f tab late nw T U w0 Fin rest (i+1) (a.put o.dst undef) Φ)/\
  (Region.wanted o (yielded ops a.tmps)=true->
   match tab i with
   |none=> ∃v,(∀w,U w0 w->(execOp a.eval o).run P w=.ok (.value v) w)/\eL P QQ ops f tab late nw T U w0 Fin rest (i+1) (a.put o.dst v) Φ
   |some (Sh,F)=>(∃v,Sh v)/\
    (∀w,(if late=some i then T w0 w else U w0 w)->(∀p∈Φ,nL ops f i p.1=true->p.2 w)->Yl P QQ o a w (λv w'=>(if late=some i then U w w' else T w w')/\Sh v/\F v w'/\(nw i=true-> ∀g,pB v=some g->w.heap.size<=g)))/\
    ∀v,Sh v->eL P QQ ops f tab late nw T U w0 Fin rest (i+1) (a.put o.dst v) ((i,F v)::Φ))
section
variable {QQ:Exit->Act->World->Prop}
variable {P:Program} {ops:Array Oper} {m size:Nat} {pre:List Nat}
theorem qU (a:uy pre ops m size=true):m<=ops.size:=by
 simp only[uy,ag,decide_eq_true_eq]at a;exact a.1.1.1
theorem qT (o:uy pre ops m size=true) {i:Nat} {a:Oper} (h:ops[i]? =some a): ∀e∈a.after,Region.binds .any e=true->e.on<i:=by
 simp only[uy,ag]at o;have j:=o.1.1.2;rw[cf]at j;have:=j i (by rw[eH];exact(Array.getElem?_eq_some_iff.1 h).1);rw[h]at this;simp only[eT,bJ,jK,decide_eq_true_eq]at this;exact λe w z=>(this e w).resolve_left (by rw[z];simp)
theorem jh (R:uy pre ops m size=true) {i:Nat} (ab:i<m): ∃h d,ops[i]? =some h/\h.dst=some d/\d<size/\(∀V b,h.op≠ .select V b)/\(∀c,h.op≠ .defer c)/\
  (∀a,a<m->a≠i-> ∀j,ops[a]? =some j->j.dst≠some d)/\
  (∀a,a<m-> ∀j K,ops[a]? =some j->j.dst=some K->K∈h.looksAt ops->lC ops i a=true):=by
 simp only[uy,ag]at R;have O:=R.1.2;rw[cf]at O;have:=O i (by rw[eH];exact ab)
 cases ho:ops[i]? with
 |none=>rw[ho]at this;cases this
 |some h=>
  rw[ho]at this;simp only[ag]at this;obtain⟨⟨z,o⟩,M⟩:=this
  cases hd:h.dst with
  |none=>rw[hd]at o;cases o
  |some d=>
   rw[hd]at o;simp only[ag,decide_eq_true_eq,cf,eH,bJ,beq_iff_eq]at o M;refine⟨h,d,rfl,hd,o.1,?_,?_,?_,?_⟩;rotate_left
   ·intro c e;rw[e]at z;simp[A_]at z
   rotate_right
   ·intro V b e;rw[e]at z;simp[A_]at z
   ·intro a G X j A;have:=(o.2 a G).resolve_left X;rw[A]at this;simpa using this
   ·intro a G j K A ac I;have:=M a G;rw[A]at this;simp only[gn,ac,bJ,jK]at this;rcases this with w|w
    ·simp at w;exact absurd I w
    ·exact w
theorem C9 (h:uy pre ops m size=true) {i:Nat} (A:m<=i) (z:i<ops.size): ∀a,a<m->a∉pre->nL ops 4 i a=true:=by
 simp only[uy,ag]at h;have j:=h.2;rw[cf]at j;have:=j (i-m) (by rw[eH];omega);simp only[cf,eH,bJ]at this;rw[show m+(i-m)=i from by omega]at this;exact λa w o=>(this a w).resolve_left (λh=>o (by simpa using h))
def GI (ops:Array Oper) (m:Nat):Bool:=(List.range (ops.size-m)).all λk=>k==0||lC ops (m+k) (m+k-1)
def FT (pre:List Nat) (ops:Array Oper) (m size:Nat):Bool:=uy pre ops m size&&GI ops m
def E_ (ops:Array Oper) (m size:Nat):Bool:=FT [] ops m size
theorem oI (a:FT pre ops m size=true):uy pre ops m size=true/\GI ops m=true:=by
 unfold FT at a;exact(ag _ _).mp a
theorem AB (a:GI ops m=true) {i:Nat} (j:m<=i) (h:i<ops.size):i=m\/lC ops i (i-1)=true:=by
 have:=List.all_eq_true.1 a (i-m) (by rw[eH];omega);simp only[bJ,beq_iff_eq]at this;rw[show m+(i-m)=i from by omega]at this;rcases this with a|a
 ·exact .inl Qa
 ·exact .inr a
def jF (ops:Array Oper) (D:Nat->Prop):Prop:= ∀i j,D i->lC ops i j=true->D j
theorem jF.anc {D:Nat->Prop} (h:jF ops D): ∀(f i a:Nat),D i->nL ops f i a=true->D a
 |0,i,a,hi,ha=>h i a hi ha
 |f+1,i,a,hi,ha=>by
  simp only[nL,gP]at ha;obtain⟨z,A,ha⟩:=ha;rw[eJ]at ha;obtain⟨e,G,o⟩:=ha;simp only[ag,bJ,beq_iff_eq]at o;have w:lC ops i e.on=true:=by
   simp only[lC,gP];refine⟨z,A,?_⟩;rw[eJ];exact⟨e,G,by simp[o.1]⟩
  rcases o.2 with j|j
  ·rw[<-j];exact h i _ hi w
  ·exact jF.anc h f _ _ (h i _ hi w) j
theorem mg {D:Nat->Prop} (K:jF ops D) (f i a:Nat) (j: ∀k,lC ops i k=true->D k) (ha:nL ops f i a=true):D a:=by
 cases f with
 |zero=>exact j a ha
 |succ f=>
  simp only[nL,gP]at ha;obtain⟨z,A,ha⟩:=ha;rw[eJ]at ha;obtain⟨e,G,o⟩:=ha;simp only[ag,bJ,beq_iff_eq]at o;have w:lC ops i e.on=true:=by
   simp only[lC,gP];refine⟨z,A,?_⟩;rw[eJ];exact⟨e,G,by simp[o.1]⟩
  rcases o.2 with h|h
  ·rw[<-h];exact j _ w
  ·exact K.anc f _ _ (j _ w) h
theorem g_ (a:Act) (d:Nat) (v:Value) (t:Nat) (j:d<a.tmps.size):dO (a.put (some d) v) t=if t=d then v else dO a t:=by
 unfold dO Act.put;simp only[aA,bB];by_cases h:t=d
 ·subst h;simp[j]
 ·rw[if_neg (λe=>h e.symm),if_neg h]
theorem ee (a:Act) (x:Option Tmp) (v:Value):(a.put x v).tmps.size=a.tmps.size:=by cases x<;>simp[Act.put]
theorem jB (a:Act) (x:Option Tmp) (v:Value):(a.put x v).defers=a.defers:=by cases x<;>rfl
theorem D9 {a c:Act} (j:a.tmps.size=c.tmps.size) (z: ∀t,dO a t=dO c t) (h:a.defers=c.defers):a=c:=by
 obtain⟨G,M⟩:=a;obtain⟨A,K⟩:=c;simp only at j h;subst h
 congr 1
 apply Array.ext j;intro i w o;have:=z i;simp only[dO,aA]at this;simpa[w,o]using this
def gy (ops:Array Oper) (o:Oper) (a c:Act):Prop:= ∀t,t∈o.looksAt ops->dO a t=dO c t
theorem gy.exec {a:Oper} {h c:Act} (o: ∀z b,a.op≠ .select z b) (w:gy ops a h c):execOp h.eval a=execOp c.eval a:=
 execOp_congr a o λx j=>by
  cases x with
  |tmp t=>exact w t (List.mem_append_left _ (List.mem_filterMap.2 ⟨.tmp t,by simpa using j,rfl⟩))
  | _=>rfl
theorem gy.wanted {j:Oper} {h c:Act} (w:h.tmps.size=c.tmps.size) (G:gy ops j h c):Region.wanted j (yielded ops h.tmps)=Region.wanted j (yielded ops c.tmps):=by
 unfold Region.wanted
 cases hg:j.guard with
 |none=>rfl
 |some gw=>
  obtain⟨g,K⟩:=gw;have z:yielded ops h.tmps g=yielded ops c.tmps g:=by
   unfold yielded
   cases ht:(ops[g]?).bind (·.dst)with
   |none=>rfl
   |some t=>
    have o:=G t (by simp[Oper.looksAt,hg,ht]);simp only[dO,aA]at o;simp only[gn];rcases gt t h.tmps.size with a|a
    ·have A:t<c.tmps.size:=w▸a;simp only[bH a,bH A,bM]at o⊢;rw[o]
    ·rw[fO a,fO (w▸a)]
  simp only[z]
theorem Yl.to {a:Oper} {d:Nat} {w c:Act} {G:World} {A:Value->World->Prop} {QQ:Exit->Act->World->Prop} {M:Act->World->Prop} (R:w.defers=c.defers) (V:a.dst=some d) (O:d<c.tmps.size) (j:execOp w.eval a=execOp c.eval a)
  (h:Yl P QQ a c G A) (I: ∀v w',A v w'->M (w.put a.dst v) w'):a.wp P w G M (zf QQ):=by
 have h:=h (λo w'=>o.defers=c.defers/\A (dO o d) w') (λv w' z=>⟨jB _ _ _,by rw[V,g_ _ _ _ _ O,if_pos rfl];exact z⟩);have val: ∀(u:Value) (w':World),((c.put a.dst u).defers=c.defers/\A (dO (c.put a.dst u) d) w')->M (w.put a.dst u) w':=λu w' ⟨_,z⟩=>by
  rw[V,g_ _ _ _ _ O,if_pos rfl]at z;exact I _ _ z
 unfold Oper.wp at*;rw[j];generalize (execOp c.eval a).run P G=r at*
 cases r with
 |ok n w'=>
  cases n<;>simp only[Oper.upon]at h⊢
  case value u=>exact val u _ h
  case skip=>exact val _ _ h
  case defer x=>
   have:=h.1;rw[jB]at this;exact absurd (congrArg List.length this) Qd
  case enter f args=>
   refine Calls.mono h λe X j=> ?_
   cases e with
   |returned u=>exact val u _ j
   |panicked x=>exact λo K=>j o (K.trans R)
   |outgrown=>exact j
  case row row args=>exact Rows.mono h λu X j=>val u _ j
 |halt x w'=>
  cases x<;>simp only[Oper.upon]at h⊢;exact λo K=>h o (K.trans R)
section
variable {QQ:Exit->Act->World->Prop}
variable {f:Nat} {tab:Ch} {late:Option Nat} {nw:Nat->Bool} {T U:World->World->Prop} {w0:World} {a0:Act}
def B8 (P:Program) (ops:Array Oper) (tab:Ch) (U:World->World->Prop) (w0:World) (i:Nat) (o:Oper) (d:Nat) (a:Act):Prop:=
 (Region.wanted o (yielded ops a.tmps)=false->dO a d=undef)/\
 (Region.wanted o (yielded ops a.tmps)=true->match tab i with
  |none=> ∀w,U w0 w->(execOp a.eval o).run P w=.ok (.value (dO a d)) w
  |some (Sh,_)=>Sh (dO a d))
def qo (ops:Array Oper) (m:Nat) (nw:Nat->Bool) (D:Nat->Prop) (a:Act):Prop:=
 ∀(i j:Nat) (oi oj:Oper) (di dj:Nat),D i->D j->i<m->j<m->ops[i]? =some oi->ops[j]? =some oj->oi.dst=some di->oj.dst=some dj->nw i=true->nw j=true->i≠j->
  Region.wanted oi (yielded ops a.tmps)=true->Region.wanted oj (yielded ops a.tmps)=true-> ∀g,pB (dO a di)=some g->pB (dO a dj)≠some g
structure Ip (P:Program) (ops:Array Oper) (m:Nat) (tab:Ch) (late:Option Nat) (nw:Nat->Bool) (T U:World->World->Prop) (w0:World) (a0:Act) (D:Nat->Prop) (a:Act) (w:World):Prop where
 step:U w0 w
 early:(∀x,late=some x-> ¬D x)->T w0 w
 size:a.tmps.size=a0.tmps.size
 defers:a.defers=a0.defers
 base: ∀t,(∀(i:Nat) (o:Oper),i<m->ops[i]? =some o->o.dst≠some t)->dO a t=dO a0 t
 ok: ∀(i:Nat) (o:Oper) (d:Nat),D i->i<m->ops[i]? =some o->o.dst=some d->B8 P ops tab U w0 i o d a
 fact: ∀(i:Nat) (o:Oper) (d:Nat),D i->i<m->ops[i]? =some o->o.dst=some d->Region.wanted o (yielded ops a.tmps)=true-> ∀Sh F,tab i=some (Sh,F)->F (dO a d) w
 pair:qo ops m nw D a
theorem mO {aj:Act->List (Nat×(World->Prop))->Prop} (J:uy pre ops m a0.tmps.size=true) (az:U w0 w0)
  (aX:eL P QQ ops f tab late nw T U w0 aj (ops.toList.take m) 0 a0 []) {D:Nat->Prop} (aU:jF ops D) {G:Act} {aE:World} (ad:Ip P ops m tab late nw T U w0 a0 D G aE):
  ∀k,k<=m-> ∃c M,eL P QQ ops f tab late nw T U w0 aj ((ops.toList.take m).drop k) k c M/\c.tmps.size=a0.tmps.size/\c.defers=a0.defers/\
   (∀t,(∀(i:Nat) (a:Oper),i<m->ops[i]? =some a->a.dst≠some t)->dO c t=dO a0 t)/\
   (∀(i:Nat) (a:Oper) (d:Nat),i<k->D i->ops[i]? =some a->a.dst=some d->dO c d=dO G d)/\
   (∀p∈M,p.1<k/\ ∃a d K F,ops[p.1]? =some a/\a.dst=some d/\tab p.1=some (K,F)/\p.2=F (dO c d)/\(D p.1->Region.wanted a (yielded ops G.tmps)=true)):=by
 intro k
 induction k with
 |zero=>intro _;exact⟨a0,[],aX,rfl,rfl,λ_ _=>rfl,λi a d aw=>absurd aw Qa,λp h=>by cases h⟩
 |succ k ih=>
  intro a2;obtain⟨c,M,au,ao,aW,aC,aB,aV⟩:=ih Qa;obtain⟨a,d,O,R,aT,aJ,a3,ar,aO⟩:=jh J (i:=k) Qa;have aP:k<(ops.toList.take m).length:=by have:=qU J;simp;omega
  have aR:(ops.toList.take m)[k]=a:=by
   have:=(Array.getElem?_eq_some_iff.1 O).2;simp[this]
  rw[aD aP,aR]at au
  -- what the next frame is like
  have next: ∀v,(D k->dO G d=v)->
    ∀(ae:List (Nat×(World->Prop))),(∀p∈ae,p∈M\/(p.1=k/\ ∃K F,tab k=some (K,F)/\p.2=F v/\(D k->Region.wanted a (yielded ops G.tmps)=true)))->
    eL P QQ ops f tab late nw T U w0 aj ((ops.toList.take m).drop (k+1)) (k+1) (c.put a.dst v) ae->
    ∃c M,eL P QQ ops f tab late nw T U w0 aj ((ops.toList.take m).drop (k+1)) (k+1) c M/\c.tmps.size=a0.tmps.size/\c.defers=a0.defers/\
     (∀t,(∀(i:Nat) (a:Oper),i<m->ops[i]? =some a->a.dst≠some t)->dO c t=dO a0 t)/\
     (∀(i:Nat) (a:Oper) (d:Nat),i<k+1->D i->ops[i]? =some a->a.dst=some d->dO c d=dO G d)/\
     (∀p∈M,p.1<k+1/\ ∃a d K F,ops[p.1]? =some a/\a.dst=some d/\tab p.1=some (K,F)/\p.2=F (dO c d)/\(D p.1->Region.wanted a (yielded ops G.tmps)=true)):=by
   intro v al ae aF aL;have h: ∀t,dO (c.put a.dst v) t=if t=d then v else dO c t:=λt=>by rw[R];exact g_ _ _ _ _ (by rw[ao];exact aT)
   refine⟨_,ae,aL,by rw[ee];exact ao,by rw[jB];exact aW,?_,?_,?_⟩
   ·intro t j;rw[h,if_neg (λe=>j k a Qa O (by rw[R,e]))];exact aC t j
   ·intro i A aZ aw aA o w;rw[h];rcases gt i k with ah|ah
    ·rw[if_neg (λe=>ar i Qa Qa A o (by rw[w,e]))];exact aB i A aZ ah aA o w
    ·obtain rfl:i=k:=Qa
     rw[O]at o;injection o with o;subst o;rw[R]at w;injection w with w;subst w;rw[if_pos rfl];exact(al aA).symm
   ·intro p aN;rcases aF p aN with aQ|⟨hpk,K,F,j,hF,hw⟩
    ·obtain⟨a1,op,aY,K,F,av,ax,aI,aM,aG⟩:=aV p aQ;refine⟨by omega,op,aY,K,F,av,ax,aI,?_,aG⟩;rw[h,if_neg (λe=>ar p.1 Qa Qa op av (by rw[ax,e]))];exact aM
    ·refine⟨by omega,a,d,K,F,by rw[hpk];exact O,R,by rw[hpk];exact j,?_,by rw[hpk];exact hw⟩;rw[h,if_pos rfl];exact hF
  -- if k has been carried out, the two frames are the I for it
  have I:D k->gy ops a G c:=λz t j=>by
   by_cases hex: ∃(i:Nat) (A:Oper),i<m/\ops[i]? =some A/\A.dst=some t
   ·obtain⟨i,A,ac,o,w⟩:=hex;have ai:=aO i ac A t o w j;have ah:i<k:=by
     simp only[lC,O,Option.any_some]at ai;rw[eJ]at ai;obtain⟨e,aS,ay⟩:=ai;simp only[ag,beq_iff_eq]at ay;have:=qT J O e aS ay.1;omega
    exact(aB i A t ah (aU k i z ai) o w).symm
   ·rw[ad.base t (λi A ac o w=>hex ⟨i,A,ac,o,w⟩),aC t (λi A ac o w=>hex ⟨i,A,ac,o,w⟩)]
  have ak:G.tmps.size=c.tmps.size:=by rw[ad.size,ao]
  obtain⟨aK,V⟩:=au
  cases hw:Region.wanted a (yielded ops c.tmps)with
  |false=>
   exact next undef (λz=>(ad.ok k a d z Qa O R).1 (by rw[(I z).wanted ak];exact hw)) M (λp h=> .inl h) (aK hw)
  |true=>
   have V:=V hw
   cases j:tab k with
   |none=>
    rw[j]at V;obtain⟨v,al,af⟩:=V;refine next v (λz=> ?_) M (λp h=> .inl h) af;have ab:=(ad.ok k a d z Qa O R).2 (by rw[(I z).wanted ak];exact hw);rw[j]at ab;have X:=ab w0 az;rw[(I z).exec aJ,al w0 az]at X;injection X with X;injection X with X;exact X.symm
   |some sf=>
    obtain⟨K,F⟩:=sf;rw[j]at V;obtain⟨⟨ap,aH⟩,_,af⟩:=V;by_cases z:D k
    ·have aq:Region.wanted a (yielded ops G.tmps)=true:=by rw[(I z).wanted ak];exact hw
     have ab:=(ad.ok k a d z Qa O R).2 aq;rw[j]at ab;refine next (dO G d) (λ_=>rfl) ((k,F (dO G d))::M) ?_ (af _ ab);intro p h;rcases List.mem_cons.1 h with rfl|h
     ·exact .inr ⟨rfl,K,F,j,rfl,λ_=>aq⟩
     ·exact .inl h
    ·refine next ap (λan=>absurd an z) ((k,F ap)::M) ?_ (af _ aH);intro p h;rcases List.mem_cons.1 h with rfl|h
     ·exact .inr ⟨rfl,K,F,j,rfl,λan=>absurd an z⟩
     ·exact .inl h
def s6 (m:Nat) (l:Array Bool):Nat:=(List.range m).countP λi=> !l.getD i true
theorem nf (l:Array Bool) (m:Nat):s6 (m+1) l=s6 m l+(if l.getD m true=false then 1 else 0):=by
 unfold s6;rw[List.range_succ,List.countP_append,lw]
 cases l.getD m true<;>rfl
theorem p8 (l:Array Bool) (i m:Nat) (a:i<l.size):(l.setIfInBounds i true).getD m true=if m=i then true else l.getD m true:=by
 simp only[aA,bB];by_cases h:i=m
 ·subst h;simp[a]
 ·rw[if_neg h,if_neg (λe=>h e.symm)]
theorem wz (l:Array Bool) (i:Nat) (h:l.getD i true=false): ∀m,s6 m (l.setIfInBounds i true)+(if i<m then 1 else 0)=s6 m l:=by
 have j:i<l.size:=by
  rcases gt i l.size with a|a
  ·exact a
  ·simp[aA,fO a]at h
 intro m
 induction m with
 |zero=>simp[s6]
 |succ m ih=>
  rw[nf,nf,p8 _ _ _ j];by_cases a:m=i
  ·subst a;rw[h];simp at ih⊢;omega
  ·rw[if_neg a];have o:(i<m+1)↔(i<m):=Qa
   simp only[o];omega
theorem s5 {l:Array Bool}: ∀m,s6 m l=0-> ∀i,i<m->l.getD i true=true:=by
 intro m a i h;unfold s6 at a;rw[List.countP_eq_zero]at a;have:=a i (by simpa using h);simpa using this
theorem wA {l:Array Bool}: ∀m,s6 m l≠0-> ∃i,i<m/\l.getD i true=false/\ ∀h,h<i->l.getD h true=true:=by
 intro m
 induction m with
 |zero=>simp[s6]
 |succ m ih=>
  intro a;by_cases h0:s6 m l=0
  ·refine⟨m,by omega,?_,s5 m h0⟩;unfold s6 at a h0;rw[List.range_succ,List.countP_append,h0]at a;simp only[lw]at a
   cases hm:l.getD m true<;>simp[hm]at a⊢
  ·obtain⟨i,o,j⟩:=ih h0;exact⟨i,by omega,j⟩
theorem fU {l:Array Bool} {i:Nat}:i∈Region.ready .any ops l↔l.getD i true=false/\ ∃j,ops[i]? =some j/\ ∀e∈j.after,Region.binds .any e=true->l.getD e.on false=true:=by
 unfold Region.ready;rw[List.mem_filter,eH];constructor
 ·rintro⟨A,z⟩;rw[ag]at z;have a:ops[i]? =some ops[i]:=bH A;refine⟨by simpa using z.1,ops[i],a,λe o w=> ?_⟩;have h:=z.2;rw[a]at h;simp only[gL,bM,eT]at h;have:=h e o;simpa[w]using this
 ·rintro⟨G,j,a,h⟩;refine⟨(Array.getElem?_eq_some_iff.1 a).1,?_⟩;rw[ag,a];refine⟨by simp[G],?_⟩;simp only[gL,bM,eT];intro e o
  cases w:Region.binds .any e
  ·simp
  ·simp[h e o w]
theorem jX {i h:Nat} {a:Oper} (j:ops[i]? =some a):lC ops i h=true↔ ∃e∈a.after,Region.binds .any e=true/\e.on=h:=by
 simp only[lC,j,Option.any_some];rw[eJ];simp
def mG (WO:Nat->(Act->World->Prop)->Act->World->Prop) (N:Act->World->Prop) (ops:Array Oper):Nat->Array Bool->Act->World->Prop
 |0,l,a,w=>Region.ready .any ops l=[]/\N a w
 |fuel+1,l,a,w=>(Region.ready .any ops l=[]->N a w)/\ ∀i∈Region.ready .any ops l,WO i (mG WO N ops fuel (l.setIfInBounds i true)) a w
def oE (WO:Nat->(Act->World->Prop)->Act->World->Prop) (N:Act->World->Prop):List Nat->Act->World->Prop
 | []=>N
 |i::l=>WO i (oE WO N l)
structure mD (P:Program) (QQ:Exit->Act->World->Prop) (ops:Array Oper) (S:World->Prop) (WO:Nat->(Act->World->Prop)->Act->World->Prop):Prop where
 mono: ∀{i:Nat} {K K':Act->World->Prop} {a:Act} {w:World},(∀a w,K a w->K' a w)->WO i K a w->WO i K' a w
 skip: ∀{i:Nat} {o:Oper} {K:Act->World->Prop} {a:Act} {w:World},ops[i]? =some o->Region.wanted o (yielded ops a.tmps)=false->S w->K (a.put o.dst undef) w->WO i K a w
 run: ∀{i:Nat} {o:Oper} {K:Act->World->Prop} {a:Act} {w:World},ops[i]? =some o->Region.wanted o (yielded ops a.tmps)=true->(∀c,o.op≠ .defer c)->o.wp P a w (λa' w'=>S w'/\K a' w') (zf QQ)->WO i K a w
structure ql (P:Program) (QQ:Exit->Act->World->Prop) (ops:Array Oper) (WO:Nat->(Act->World->Prop)->Act->World->Prop):Prop where
 mono: ∀{i:Nat} {K K':Act->World->Prop} {a:Act} {w:World},(∀a w,K a w->K' a w)->WO i K a w->WO i K' a w
 skip: ∀{i:Nat} {o:Oper} {K:Act->World->Prop} {a:Act} {w:World},ops[i]? =some o->Region.wanted o (yielded ops a.tmps)=false->K (a.put o.dst undef) w->WO i K a w
 run: ∀{i:Nat} {o:Oper} {K:Act->World->Prop} {a:Act} {w:World},ops[i]? =some o->Region.wanted o (yielded ops a.tmps)=true->(∀c,o.op≠ .defer c)->o.wp P a w K (zf QQ)->WO i K a w
theorem ql.toS {S:World->Prop} {w:Nat->(Act->World->Prop)->Act->World->Prop} (h:ql P QQ ops w):mD P QQ ops S w where
 mono:=h.mono
 skip:=λo j _ a=>h.skip o j a
 run:=λo j z a=>h.mono (λ_ _ a=>a.2) (h.run o j z a)
def k9 (ops:Array Oper) (tk:List Nat) (l:Array Bool):Option Nat:=tk.find? λj=>(Region.ready .any ops l).contains j
theorem oK {a:List Nat} {l:Array Bool} {i:Nat} (h:k9 ops a l=some i):i∈a/\i∈Region.ready .any ops l:=
 ⟨cr h,by have:=List.find?_some h;simpa using this⟩
theorem tY {h:List Nat} {l:Array Bool} (w:k9 ops h l=none): ∀a∈h,¬a∈Region.ready .any ops l:=λa o j=>by
 have:=List.find?_eq_none.1 w a o;exact this (by simpa using j)
def Cp (ops:Array Oper) (tk:List Nat) (m:Nat):Bool:=
 tk.all λi=>decide (i<m)&&(List.range ops.size).all λj=>j==i||lC ops j i||nL ops 4 i j||(match ops[i]?,ops[j]? with|some oi,some oj=>oi.apart ops oj| _,_=>false)
theorem zD {a:List Nat} (h:Cp ops a m=true) {i:Nat} (j:i∈a):i<m:=by
 simp only[Cp,cf,ag,decide_eq_true_eq]at h;exact(h i j).1
theorem xS {j:List Nat} (A:Cp ops j m=true) {i a:Nat} (M:i∈j) {w o:Oper} (G:ops[i]? =some w) (z:ops[a]? =some o) (K:a≠i) (V:lC ops a i=false) (R:nL ops 4 i a=false):w.apart ops o=true:=by
 simp only[Cp,cf,ag,decide_eq_true_eq]at A;have h:=(A i M).2 a (by rw[eH];exact(Array.getElem?_eq_some_iff.1 z).1);rw[G,z,V,R]at h;have O:(a==i)=false:=by simpa using K
 rw[O]at h;simpa using h
def mF (P:Program) (ops:Array Oper) (tk:List Nat) (S:World->Prop) (WO:Nat->(Act->World->Prop)->Act->World->Prop) (N:Act->World->Prop):Nat->Array Bool->Act->World->Prop
 |0,l,a,w=>Region.ready .any ops l=[]/\N a w
 |fuel+1,l,a,w=>match k9 ops tk l with
  |some i=> ∃v o,ops[i]? =some o/\YieldsIf P ops S o v a/\mF P ops tk S WO N fuel (l.setIfInBounds i true) (a.put o.dst v) w
  |none=>(Region.ready .any ops l=[]->N a w)/\ ∀i∈Region.ready .any ops l,WO i (mF P ops tk S WO N fuel (l.setIfInBounds i true)) a w
section
variable {tk:List Nat} {S:World->Prop} {WO:Nat->(Act->World->Prop)->Act->World->Prop} {N:Act->World->Prop}
theorem y7 {o:Nat} {l:Array Bool} {h:Act} {j:World} {i:Nat} (z:k9 ops tk l=some i)
  (w: ∃v a,ops[i]? =some a/\YieldsIf P ops S a v h/\mF P ops tk S WO N o (l.setIfInBounds i true) (h.put a.dst v) j):mF P ops tk S WO N (o+1) l h j:=by
 simp only[mF,z];exact w
theorem rH {j:Nat} {l:Array Bool} {h:Act} {a:World} (w:k9 ops tk l=none)
  (o:(Region.ready .any ops l=[]->N h a)/\ ∀i∈Region.ready .any ops l,WO i (mF P ops tk S WO N j (l.setIfInBounds i true)) h a):mF P ops tk S WO N (j+1) l h a:=by
 simp only[mF,w];exact o
theorem tZ {l:Array Bool} (o: ∀a∈tk,l.getD a true=true):k9 ops tk l=none:=by
 unfold k9;rw[List.find?_eq_none];intro a j h;have h:a∈Region.ready .any ops l:=by simpa using h
 have:=(fU.1 h).1;rw[o a j]at this
 cases this
theorem nK {S':World->Prop} (z:mD P QQ ops S' WO): ∀(o:Nat) (l:Array Bool) (j:Act) (a:World),(∀w∈tk,l.getD w true=true)->mG WO N ops o l j a->mF P ops tk S WO N o l j a
 |0,_,_,_,_,h=>h
 |o+1,l,j,a,hd,h=>rH (tZ hd) ⟨h.1,λi G=>z.mono (λj a K=>nK z o _ j a (λw A=>by
   have:=hd w A;simp only[aA,bB]at this⊢;split
   ·split<;>rfl
   ·exact this) K) (h.2 i G)⟩
end
variable {WO:Nat->(Act->World->Prop)->Act->World->Prop} {N:Act->World->Prop} {S:World->Prop}
theorem tg (ao:mD P QQ ops S WO) (ai:uy pre ops m size=true) (ap:GI ops m=true): ∀(r k:Nat) (l:Array Bool) (h:Act) (a:World),r=ops.size-k->m<=k->k<=ops.size->l.size=ops.size->(∀i,i<ops.size->l.getD i true=decide (i<k))->
  oE WO N (List.range' k (ops.size-k)) h a->mG WO N ops r l h a:=by
 intro r
 induction r with
 |zero=>
  intro k l h a ah _ ak K j z;obtain rfl:k=ops.size:=Qa
  refine⟨?_,by rw[Nat.sub_self]at z;exact z⟩;rw[List.eq_nil_iff_forall_not_mem];intro i M;obtain⟨o,af,A,_⟩:=fU.1 M;have I:=(Array.getElem?_eq_some_iff.1 A).1;rw[j i I]at o;simp at o;omega
 |succ r ih=>
  intro k l h a ah au ak K j z;have ab:k<ops.size:=Qa
  have X:ops[k]? =some ops[k]:=bH ab;refine⟨λaj=> ?_,λi M=> ?_⟩
  ·have:k∈Region.ready .any ops l:=fU.2 ⟨by rw[j k ab];simp,_,X,λe O J=>by
    have o:=qT ai X e O J;have w:=j e.on Qa;simp only[aA]at w⊢;have G:e.on<l.size:=Qa
    simp only[bH G,bM]at w⊢
    rw[w];simp;omega⟩
   rw[aj]at this
   cases this
  ·obtain⟨o,af,A,w⟩:=fU.1 M;have ad:=(Array.getElem?_eq_some_iff.1 A).1;have av:k<=i:=by rw[j i ad]at o;simpa using o
   obtain rfl:i=k:=by
    rcases gt k i with I|hge
    ·rcases AB ap (i:=i) Qa ad with G|G
     ·omega
     ·obtain⟨e,O,an,ar⟩:=(jX A).1 G;have ae:=w e O an;have R:=j e.on Qa;have aq:e.on<l.size:=Qa
      simp only[aA,bH aq,bM]at ae R;rw[ae]at R;simp at R;omega
    ·omega
   have ag: ∀h a,oE WO N (List.range' (i+1) (ops.size-(i+1))) h a->mG WO N ops r (l.setIfInBounds i true) h a:=λh a al=>
    ih (i+1) _ h a Qa Qa Qa (by simpa using K) (λV ac=>by
     simp only[aA,bB];by_cases hji:i=V
     ·subst hji;simp[K,ac]
     ·rw[if_neg hji];have:=j V ac;simp only[aA]at this;rw[this];simp only[decide_eq_decide]
      omega) al
   rw[show ops.size-i=(ops.size-(i+1))+1 from by omega,List.range'_succ]at z;exact ao.mono ag z
theorem qY {TL:Act->World->Prop} (b9:Cp ops pre m=true) (cr: ∀a∈pre,tab a=none) (cA: ∀(l:Array Bool) (h:Act) (o:World),l.size=ops.size->(∀i,i<ops.size->l.getD i true=decide (i<m))->TL h o->mG WO N ops (ops.size-m+0) l h o) (b0:mD P QQ ops (U w0) WO) (ai:uy pre ops m a0.tmps.size=true) (b2:U w0 w0) (b1: ∀h b c,U h b->U b c->U h c) (bd: ∀h b,T h b->U h b) (ch: ∀h b c,T h b->T b c->T h c) (cg: ∀i ac F,tab i=some (ac,F)-> ∀v o w',F v o->T o w'->F v w')
  (cf: ∀i ac F,late≠some i->tab i=some (ac,F)-> ∀v o w',F v o->U o w'->F v w') (a3: ∀o,T o o)
  (bC: ∀i,nw i=true-> ∃ac F,tab i=some (ac,F)/\ ∀v o,F v o-> ∀g,pB v=some g->g<o.heap.size)
  (R:eL P QQ ops f tab late nw T U w0 (λh bz=> ∀o,U w0 o->(∀p∈bz,p.2 o)->qo ops m nw (λ_=>True) h->TL h o) (ops.toList.take m) 0 a0 []):
  ∀(n:Nat) (l:Array Bool) (h:Act) (o:World),n=s6 m l->l.size=ops.size->(∀i,i<ops.size->m<=i->l.getD i true=false)->jF ops (λi=>l.getD i false=true)->
   Ip P ops m tab late nw T U w0 a0 (λi=>l.getD i false=true) h o->mF P ops pre (U w0) WO N (ops.size-m+n) l h o:=by
 have cF:=qU ai;intro n
 induction n with
 |zero=>
  intro l h o be ag bA aQ z;have bZ:=s5 m be.symm;have bw: ∀i,i<m->l.getD i false=true:=λi aJ=>by
   have aj:=bZ i aJ;have aT:i<l.size:=Qa
   simp only[aA,bH aT,bM]at aj⊢;exact aj
  obtain⟨c,bz,a1,aj,aU,aT,bx,cC⟩:=mO ai b2 R aQ z m (ak _);rw[aL (l:=ops.toList.take m) (i:=m) (List.length_take_le _ _)]at a1
  obtain rfl:c=h:=D9 (by rw[aj,z.size]) (λt=>by
   by_cases hex: ∃(i:Nat) (I:Oper),i<m/\ops[i]? =some I/\I.dst=some t
   ·obtain⟨i,I,O,ap,aq⟩:=hex;exact bx i I t O (bw i O) ap aq
   ·rw[z.base t (λi I O ap aq=>hex ⟨i,I,O,ap,aq⟩),aT t (λi I O ap aq=>hex ⟨i,I,O,ap,aq⟩)]) (by rw[aU,z.defers])
  refine nK b0 (ops.size-m+0) l c o (λa K=>bZ a (zD b9 K)) ?_;refine cA l c o ag (λi aJ=> ?_) (a1 o z.step (λp af=> ?_) ?_)
  ·by_cases O:i<m
   ·rw[bZ i O];simp[O]
   ·rw[bA i aJ Qa];simp[O]
  ·obtain⟨bp,w,d,ac,F,M,ad,G,aO,ay⟩:=cC p af;rw[aO];exact z.fact p.1 w d (bw _ bp) bp M ad (ay (bw _ bp)) ac F G
  ·intro i a I V cE ab _ _ aJ K;exact z.pair i a I V cE ab (bw i aJ) (bw a K) aJ K
 |succ n ih=>
  intro l h o be ag bA aQ z;have aP: ∀i,i<ops.size->l.getD i false=l.getD i true:=λi aJ=>by
   have aT:i<l.size:=Qa
   simp only[aA,bH aT,bM]
  have cs:ops.size-m+(n+1)=(ops.size-m+n)+1:=Qa
  rw[cs]
  cases hft:k9 ops pre l with
  |some i=>
   refine y7 hft ?_;obtain⟨cc,aJ⟩:=oK hft;obtain⟨aj,cn,aC,aU⟩:=fU.1 aJ;have ax:=(Array.getElem?_eq_some_iff.1 aC).1;have aN: ∀k,lC ops i k=true->l.getD k false=true:=λk aF=>by
    obtain⟨e,aM,bc,bn⟩:=(jX aC).1 aF;rw[<-bn];exact aU e aM bc
   have O:i<m:=zD b9 cc;obtain⟨w,d,M,ad,a2,aZ,ce,bO,ba⟩:=jh ai O;rw[M]at aC;injection aC with aC;subst aC;obtain⟨c,bz,a1,bE,cj,b7,bD,ci⟩:=mO ai b2 R aQ z i Qa;have bV:i<(ops.toList.take m).length:=Qh
   have bX:(ops.toList.take m)[i]=w:=by
    have:=(Array.getElem?_eq_some_iff.1 M).2;simp[this]
   rw[aD bV,bX]at a1;have aX:gy ops w h c:=λt G=>by
    by_cases hex: ∃(k:Nat) (I:Oper),k<m/\ops[k]? =some I/\I.dst=some t
    ·obtain⟨k,I,av,ap,aq⟩:=hex;have bt:=ba k av I t ap aq G;have bW:k<i:=by
      obtain⟨e,aM,bc,bn⟩:=(jX M).1 bt;have:=qT ai M e aM bc;omega
     exact(bD k I t bW (aN k bt) ap aq).symm
    ·rw[z.base t (λi I O ap aq=>hex ⟨i,I,O,ap,aq⟩),b7 t (λi I O ap aq=>hex ⟨i,I,O,ap,aq⟩)]
   have bN:h.tmps.size=c.tmps.size:=by rw[z.size,bE]
   have b6:jF ops (λa=>(l.setIfInBounds i true).getD a false=true):=λa k K br=>by
    have bF: ∀a,(l.setIfInBounds i true).getD a false=if a=i then true else l.getD a false:=λa=>by
     simp only[aA,bB];by_cases R:i=a
     ·subst R;simp[ag,ax]
     ·rw[if_neg R,if_neg (λe=>R e.symm)]
    simp only[bF]at K⊢;by_cases X:a=i
    ·subst X;by_cases J:k=a
     ·rw[if_pos J]
     ·rw[if_neg J];exact aN k br
    ·rw[if_neg X]at K;by_cases J:k=i
     ·rw[if_pos J]
     ·rw[if_neg J];exact aQ a k K br
   -- the step: h value v in dO d
   have bf: ∀v w',(if late=some i then U o w' else T o w')->B8 P ops tab U w0 i w d (h.put w.dst v)->(Region.wanted w (yielded ops h.tmps)=true-> ∀ac F,tab i=some (ac,F)->F v w')->(nw i=true-> ∀g,pB v=some g->o.heap.size<=g)->
     mF P ops pre (U w0) WO N (ops.size-m+n) (l.setIfInBounds i true) (h.put w.dst v) w':=by
    intro v w' ar b3 b4 bu;have bl:U o w':=by
     by_cases ag:late=some i
     ·rw[if_pos ag]at ar;exact ar
     ·rw[if_neg ag]at ar;exact bd _ _ ar
    have af: ∀t,dO (h.put w.dst v) t=if t=d then v else dO h t:=λt=>by rw[ad];exact g_ _ _ _ _ (by rw[z.size];exact a2)
    have a6: ∀(a:Nat) (V:Oper) (ab:Nat),(l.setIfInBounds i true).getD a false=true->a≠i->a<m->ops[a]? =some V->V.dst=some ab->l.getD a false=true/\ab≠d/\gy ops V (h.put w.dst v) h:=by
     intro a V ab K X ah j A;have aG:l.getD a false=true:=by
      simp only[aA,bB]at K⊢;rw[if_neg (λe=>X e.symm)]at K;exact K
     refine⟨aG,λe=>bO a ah X V j (by rw[A,e]),λt G=> ?_⟩;rw[af];by_cases htd:t=d
     ·subst htd;obtain⟨bG,cD,ao,_,_,_,_,_,bU⟩:=jh ai ah;rw[j]at ao;injection ao with ao;subst ao;have:=aQ a i aG (bU i O w t M ad G);simp only[]at this;rw[aP i ax,aj]at this
      cases this
     ·rw[if_neg htd]
    refine ih _ _ _ ?_ (by simpa using ag) ?_ b6 ⟨b1 _ _ _ z.step bl,?_,by rw[ee,z.size],by rw[jB,z.defers],?_,?_,?_,?_⟩
    ·have:=wz l i aj m;rw[if_pos O]at this;omega
    ·intro a K bT;rw[p8 _ _ _ Qa,if_neg Qa];exact bA a K bT
    ·intro bv;have bS:late≠some i:=λe=>bv i e (by simp[aA,ag,ax]);rw[if_neg bS]at ar;refine ch _ _ _ (z.early λx aY a4=>bv x aY ?_) ar;simp only[aA,bB]at a4⊢;by_cases hxi:i=x
     ·subst hxi;simp[ag,ax]
     ·rw[if_neg hxi];exact a4
    ·intro t G;rw[af,if_neg (λe=>G i w O M (by rw[ad,e]))];exact z.base t G
    ·intro a V ab K ah j A;by_cases X:a=i
     ·subst X;rw[M]at j;injection j with j;subst j;rw[ad]at A;injection A with A;subst A;exact b3
     ·obtain⟨aG,au,aB⟩:=a6 a V ab K X ah j A;obtain⟨bG,_,ao,_,_,bQ,_,_⟩:=jh ai ah;rw[j]at ao;injection ao with ao;subst ao;have bo:=z.ok a V ab aG ah j A;unfold B8 at bo⊢;rw[aB.wanted (ee _ _ _),aB.exec bQ,af,if_neg au];exact bo
    ·intro a V ab K ah j A aS ac F G;rw[af];by_cases X:a=i
     ·subst X;rw[M]at j;injection j with j;subst j;rw[ad]at A;injection A with A;subst A;rw[if_pos rfl];have bP:gy ops w (h.put w.dst v) h:=λt a8=>by
       rw[af,if_neg];intro e;subst e;have:=aN a (ba a O w t M ad a8);rw[aP a ax,aj]at this
       cases this
      exact b4 (by rw[<-bP.wanted (ee _ _ _)];exact aS) ac F G
     ·obtain⟨aG,au,aB⟩:=a6 a V ab K X ah j A;rw[if_neg au];have aO:=z.fact a V ab aG ah j A (by rw[<-aB.wanted (ee _ _ _)];exact aS) ac F G;by_cases ag:late=some i
      ·exact cf a ac F (λe=>X (by rw[ag]at e;injection e with e;exact e.symm)) G _ _ _ aO bl
      ·rw[if_neg ag]at ar;exact cg a ac F G _ _ _ aO ar
    ·intro a k V ae ab al K aF ah av j aw A an a9 aE au aS aR g aK aH;have a7: ∀(k:Nat) (ae:Oper) (al:Nat),(l.setIfInBounds i true).getD k false=true->k≠i->k<m->ops[k]? =some ae->ae.dst=some al->nw k=true->Region.wanted ae (yielded ops (h.put w.dst v).tmps)=true->
       l.getD k false=true/\Region.wanted ae (yielded ops h.tmps)=true/\dO (h.put w.dst v) al=dO h al/\ ∀g,pB (dO h al)=some g->g<o.heap.size:=λk ae al aF J av ai an aE aR=>by
      obtain⟨bq,au,aB⟩:=a6 k ae al aF J av ai an;have bh:Region.wanted ae (yielded ops h.tmps)=true:=by rw[<-aB.wanted (ee _ _ _)];exact aR
      refine⟨bq,bh,by rw[af,if_neg au],λg bb=> ?_⟩;obtain⟨ac,F,G,bR⟩:=bC k aE;exact bR _ _ (z.fact k ae al bq av ai an bh ac F G) g bb
     by_cases X:a=i
     ·subst X;rw[M]at j;injection j with j;subst j;rw[ad]at A;injection A with A;subst A;rw[af,if_pos rfl]at aK;obtain⟨_,_,a5,aV⟩:=a7 k ae al aF (λe=>au e.symm) av aw an aE aR;rw[a5]at aH;have aj:=bu a9 g aK;have aU:=aV g aH;omega
     ·obtain⟨bL,bK,a5,aV⟩:=a7 a V ab K X ah j A a9 aS;rw[a5]at aK;by_cases J:k=i
      ·subst J;rw[M]at aw;injection aw with aw;subst aw;rw[ad]at an;injection an with an;subst an;rw[af,if_pos rfl]at aH;have aj:=bu aE g aH;have aU:=aV g aK;omega
      ·obtain⟨bJ,bI,b8,_⟩:=a7 k ae al aF J av aw an aE aR;rw[b8]at aH;exact z.pair a k V ae ab al bL bJ ah av j aw A an a9 aE au bK bI g aK aH
   have aW: ∀v,gy ops w (h.put w.dst v) h:=λv t a8=>by
    have af: ∀t,dO (h.put w.dst v) t=if t=d then v else dO h t:=λt=>by rw[ad];exact g_ _ _ _ _ (by rw[z.size];exact a2)
    rw[af,if_neg];intro e;subst e;have:=aN i (ba i O w t M ad a8);rw[aP i ax,aj]at this
    cases this
   have own: ∀v,dO (h.put w.dst v) d=v:=λv=>by rw[ad,g_ _ _ _ _ (by rw[z.size];exact a2),if_pos rfl]
   obtain⟨_,aI⟩:=a1
   cases ay:Region.wanted w (yielded ops h.tmps)with
   |true=>
    have aI:=aI (by rw[<-aX.wanted bN];exact ay);have G:=cr i cc;rw[G]at aI;obtain⟨v,bk,_⟩:=aI;refine⟨v,w,M,.inl ⟨ay,λbg bj=>by rw[aX.exec aZ];exact bk bg bj⟩,bf v o (by split;exact bd _ _ (a3 o);exact a3 o) ⟨λaz=> ?_,λ_=> ?_⟩ (λ_ ac F R=>by rw[G]at R;cases R) (λbe=>by obtain⟨_,_,R,_⟩:=bC i be;rw[G]at R;cases R)⟩
    ·rw[(aW v).wanted (ee _ _ _),ay]at az;cases az
    ·rw[G];intro bg bj;rw[(aW v).exec aZ,aX.exec aZ,own];exact bk bg bj
   |false=>
    have bi:=ay;refine⟨undef,w,M,.inr ⟨ay,rfl⟩,bf undef o (by split;exact bd _ _ (a3 o);exact a3 o) ⟨λ_=>own undef,λaz=> ?_⟩ (λR=>by rw[bi]at R;cases R) (λ_ g bb=>by cases bb)⟩;rw[(aW undef).wanted (ee _ _ _),bi]at az
    cases az
  |none=>
   refine rH hft ⟨λct=> ?_,λi aJ=> ?_⟩
   ·obtain⟨i,O,cz,cy⟩:=wA m (l:=l) Qa;obtain⟨w,d,M,_⟩:=jh ai O
    have:i∈Region.ready .any ops l:=fU.2 ⟨cz,w,M,λe aM bY=>by
     have aj:=qT ai M e aM bY;rw[aP _ Qa]
     exact cy _ aj⟩
    rw[ct]at this
    cases this
   ·skip
    obtain⟨aj,cn,aC,aU⟩:=fU.1 aJ;have ax:=(Array.getElem?_eq_some_iff.1 aC).1;have aN: ∀k,lC ops i k=true->l.getD k false=true:=λk aF=>by
     obtain⟨e,aM,bc,bn⟩:=(jX aC).1 aF;rw[<-bn];exact aU e aM bc
    have O:i<m:=by
     rcases gt i m with aT|aT
     ·exact aT
     ·exfalso
      obtain⟨a,K,cb,cx⟩:=wA m (l:=l) Qa;by_cases hjt:a∈pre
      ·obtain⟨V,ab,j,_⟩:=jh ai K
       have cw:a∈Region.ready .any ops l:=fU.2 ⟨cb,V,j,λe aM bY=>by
        have aj:=qT ai j e aM bY;rw[aP _ Qa]
        exact cx _ aj⟩
       exact tY hft a hjt cw
      ·have bx:=mg (D:=λi=>l.getD i false=true) aQ 4 i a aN (C9 ai aT ax a K hjt);rw[aP a Qa]at bx;rw[cb]at bx
       cases bx
    obtain⟨w,d,M,ad,a2,aZ,ce,bO,ba⟩:=jh ai O;rw[M]at aC;injection aC with aC;subst aC;obtain⟨c,bz,a1,bE,cj,b7,bD,ci⟩:=mO ai b2 R aQ z i Qa;have bV:i<(ops.toList.take m).length:=Qh
    have bX:(ops.toList.take m)[i]=w:=by
     have:=(Array.getElem?_eq_some_iff.1 M).2;simp[this]
    rw[aD bV,bX]at a1;have aX:gy ops w h c:=λt G=>by
     by_cases hex: ∃(k:Nat) (I:Oper),k<m/\ops[k]? =some I/\I.dst=some t
     ·obtain⟨k,I,av,ap,aq⟩:=hex;have bt:=ba k av I t ap aq G;have bW:k<i:=by
       obtain⟨e,aM,bc,bn⟩:=(jX M).1 bt;have:=qT ai M e aM bc;omega
      exact(bD k I t bW (aN k bt) ap aq).symm
     ·rw[z.base t (λi I O ap aq=>hex ⟨i,I,O,ap,aq⟩),b7 t (λi I O ap aq=>hex ⟨i,I,O,ap,aq⟩)]
    have bN:h.tmps.size=c.tmps.size:=by rw[z.size,bE]
    have b6:jF ops (λa=>(l.setIfInBounds i true).getD a false=true):=λa k K br=>by
     have bF: ∀a,(l.setIfInBounds i true).getD a false=if a=i then true else l.getD a false:=λa=>by
      simp only[aA,bB];by_cases R:i=a
      ·subst R;simp[ag,ax]
      ·rw[if_neg R,if_neg (λe=>R e.symm)]
     simp only[bF]at K⊢;by_cases X:a=i
     ·subst X;by_cases J:k=a
      ·rw[if_pos J]
      ·rw[if_neg J];exact aN k br
     ·rw[if_neg X]at K;by_cases J:k=i
      ·rw[if_pos J]
      ·rw[if_neg J];exact aQ a k K br
    -- the step: h value v in dO d
    have bf: ∀v w',(if late=some i then U o w' else T o w')->B8 P ops tab U w0 i w d (h.put w.dst v)->(Region.wanted w (yielded ops h.tmps)=true-> ∀ac F,tab i=some (ac,F)->F v w')->(nw i=true-> ∀g,pB v=some g->o.heap.size<=g)->
      mF P ops pre (U w0) WO N (ops.size-m+n) (l.setIfInBounds i true) (h.put w.dst v) w':=by
     intro v w' ar b3 b4 bu;have bl:U o w':=by
      by_cases ag:late=some i
      ·rw[if_pos ag]at ar;exact ar
      ·rw[if_neg ag]at ar;exact bd _ _ ar
     have af: ∀t,dO (h.put w.dst v) t=if t=d then v else dO h t:=λt=>by rw[ad];exact g_ _ _ _ _ (by rw[z.size];exact a2)
     have a6: ∀(a:Nat) (V:Oper) (ab:Nat),(l.setIfInBounds i true).getD a false=true->a≠i->a<m->ops[a]? =some V->V.dst=some ab->l.getD a false=true/\ab≠d/\gy ops V (h.put w.dst v) h:=by
      intro a V ab K X ah j A;have aG:l.getD a false=true:=by
       simp only[aA,bB]at K⊢;rw[if_neg (λe=>X e.symm)]at K;exact K
      refine⟨aG,λe=>bO a ah X V j (by rw[A,e]),λt G=> ?_⟩;rw[af];by_cases htd:t=d
      ·subst htd;obtain⟨bG,cD,ao,_,_,_,_,_,bU⟩:=jh ai ah;rw[j]at ao;injection ao with ao;subst ao;have:=aQ a i aG (bU i O w t M ad G);simp only[]at this;rw[aP i ax,aj]at this
       cases this
      ·rw[if_neg htd]
     refine ih _ _ _ ?_ (by simpa using ag) ?_ b6 ⟨b1 _ _ _ z.step bl,?_,by rw[ee,z.size],by rw[jB,z.defers],?_,?_,?_,?_⟩
     ·have:=wz l i aj m;rw[if_pos O]at this;omega
     ·intro a K bT;rw[p8 _ _ _ Qa,if_neg Qa];exact bA a K bT
     ·intro bv;have bS:late≠some i:=λe=>bv i e (by simp[aA,ag,ax]);rw[if_neg bS]at ar;refine ch _ _ _ (z.early λx aY a4=>bv x aY ?_) ar;simp only[aA,bB]at a4⊢;by_cases hxi:i=x
      ·subst hxi;simp[ag,ax]
      ·rw[if_neg hxi];exact a4
     ·intro t G;rw[af,if_neg (λe=>G i w O M (by rw[ad,e]))];exact z.base t G
     ·intro a V ab K ah j A;by_cases X:a=i
      ·subst X;rw[M]at j;injection j with j;subst j;rw[ad]at A;injection A with A;subst A;exact b3
      ·obtain⟨aG,au,aB⟩:=a6 a V ab K X ah j A;obtain⟨bG,_,ao,_,_,bQ,_,_⟩:=jh ai ah;rw[j]at ao;injection ao with ao;subst ao;have bo:=z.ok a V ab aG ah j A;unfold B8 at bo⊢;rw[aB.wanted (ee _ _ _),aB.exec bQ,af,if_neg au];exact bo
     ·intro a V ab K ah j A aS ac F G;rw[af];by_cases X:a=i
      ·subst X;rw[M]at j;injection j with j;subst j;rw[ad]at A;injection A with A;subst A;rw[if_pos rfl];have bP:gy ops w (h.put w.dst v) h:=λt a8=>by
        rw[af,if_neg];intro e;subst e;have:=aN a (ba a O w t M ad a8);rw[aP a ax,aj]at this
        cases this
       exact b4 (by rw[<-bP.wanted (ee _ _ _)];exact aS) ac F G
      ·obtain⟨aG,au,aB⟩:=a6 a V ab K X ah j A;rw[if_neg au];have aO:=z.fact a V ab aG ah j A (by rw[<-aB.wanted (ee _ _ _)];exact aS) ac F G;by_cases ag:late=some i
       ·exact cf a ac F (λe=>X (by rw[ag]at e;injection e with e;exact e.symm)) G _ _ _ aO bl
       ·rw[if_neg ag]at ar;exact cg a ac F G _ _ _ aO ar
     ·intro a k V ae ab al K aF ah av j aw A an a9 aE au aS aR g aK aH;have a7: ∀(k:Nat) (ae:Oper) (al:Nat),(l.setIfInBounds i true).getD k false=true->k≠i->k<m->ops[k]? =some ae->ae.dst=some al->nw k=true->Region.wanted ae (yielded ops (h.put w.dst v).tmps)=true->
        l.getD k false=true/\Region.wanted ae (yielded ops h.tmps)=true/\dO (h.put w.dst v) al=dO h al/\ ∀g,pB (dO h al)=some g->g<o.heap.size:=λk ae al aF J av ai an aE aR=>by
       obtain⟨bq,au,aB⟩:=a6 k ae al aF J av ai an;have bh:Region.wanted ae (yielded ops h.tmps)=true:=by rw[<-aB.wanted (ee _ _ _)];exact aR
       refine⟨bq,bh,by rw[af,if_neg au],λg bb=> ?_⟩;obtain⟨ac,F,G,bR⟩:=bC k aE;exact bR _ _ (z.fact k ae al bq av ai an bh ac F G) g bb
      by_cases X:a=i
      ·subst X;rw[M]at j;injection j with j;subst j;rw[ad]at A;injection A with A;subst A;rw[af,if_pos rfl]at aK;obtain⟨_,_,a5,aV⟩:=a7 k ae al aF (λe=>au e.symm) av aw an aE aR;rw[a5]at aH;have aj:=bu a9 g aK;have aU:=aV g aH;omega
      ·obtain⟨bL,bK,a5,aV⟩:=a7 a V ab K X ah j A a9 aS;rw[a5]at aK;by_cases J:k=i
       ·subst J;rw[M]at aw;injection aw with aw;subst aw;rw[ad]at an;injection an with an;subst an;rw[af,if_pos rfl]at aH;have aj:=bu aE g aH;have aU:=aV g aK;omega
       ·obtain⟨bJ,bI,b8,_⟩:=a7 k ae al aF J av aw an aE aR;rw[b8]at aH;exact z.pair a k V ae ab al bL bJ ah av j aw A an a9 aE au bK bI g aK aH
    have aW: ∀v,gy ops w (h.put w.dst v) h:=λv t a8=>by
     have af: ∀t,dO (h.put w.dst v) t=if t=d then v else dO h t:=λt=>by rw[ad];exact g_ _ _ _ _ (by rw[z.size];exact a2)
     rw[af,if_neg];intro e;subst e;have:=aN i (ba i O w t M ad a8);rw[aP i ax,aj]at this
     cases this
    have own: ∀v,dO (h.put w.dst v) d=v:=λv=>by rw[ad,g_ _ _ _ _ (by rw[z.size];exact a2),if_pos rfl]
    obtain⟨_,aI⟩:=a1
    cases ay:Region.wanted w (yielded ops h.tmps)with
    |true=>
     have aI:=aI (by rw[<-aX.wanted bN];exact ay);refine b0.run M ay ce ?_
     cases G:tab i with
     |none=>
      rw[G]at aI;obtain⟨v,bk,_⟩:=aI;unfold Oper.wp;rw[aX.exec aZ,bk o z.step];simp only[Oper.upon];refine⟨z.step,bf v o (by split;exact bd _ _ (a3 o);exact a3 o) ⟨λaz=> ?_,λ_=> ?_⟩ (λ_ ac F R=>by rw[G]at R;cases R) (λbe=>by obtain⟨_,_,R,_⟩:=bC i be;rw[G]at R;cases R)⟩
      ·rw[(aW v).wanted (ee _ _ _),ay]at az;cases az
      ·rw[G];intro bg bj;rw[(aW v).exec aZ,aX.exec aZ,own];exact bk bg bj
     |some sf=>
      obtain⟨ac,F⟩:=sf;rw[G]at aI;obtain⟨_,co,_⟩:=aI;refine Yl.to (c:=c) (by rw[z.defers,cj]) ad (by rw[bE];exact a2) (aX.exec aZ) (co o (by split;exact z.early (λx aY a4=>by rename_i cv;rw[cv]at aY;injection aY with aY;subst aY;rw[aP i ax,aj]at a4;cases a4);exact z.step) λp af ha=> ?_) ?_
      ·obtain⟨bp,op,ck,cl,cm,ca,cd,cq,aO,cp⟩:=ci p af;have b5:l.getD p.1 false=true:=mg (D:=λi=>l.getD i false=true) aQ f i p.1 aN ha;rw[aO,bD p.1 op ck bp b5 ca cd];exact z.fact p.1 op ck b5 Qa ca cd (cp b5) cl cm cq
      ·rintro v w' ⟨bm,cB,aO,cu⟩;refine⟨(b1 _ _ _ z.step (by by_cases ag:late=some i;rw[if_pos ag]at bm;exact bm;rw[if_neg ag]at bm;exact bd _ _ bm)),bf v w' bm ⟨λaz=> ?_,λ_=> ?_⟩ (λ_ cl cm R=> ?_) cu⟩
       ·rw[(aW v).wanted (ee _ _ _),ay]at az;cases az
       ·rw[G,own];exact cB
       ·rw[G]at R;injection R with R;injection R with a5 aV;subst aV;exact aO
    |false=>
     have bi:=ay;refine b0.skip M ay (z.step) ?_;refine bf undef o (by split;exact bd _ _ (a3 o);exact a3 o) ⟨λ_=>own undef,λaz=> ?_⟩ (λR=>by rw[bi]at R;cases R) (λ_ g bb=>by cases bb);rw[(aW undef).wanted (ee _ _ _),bi]at az
     cases az
theorem ur {S':World->Prop} (w:mD P QQ ops S' WO): ∀(o:Nat) (l:Array Bool) (j:Act) (a:World),mF P ops [] S WO N o l j a->mG WO N ops o l j a
 |0,_,_,_,h=>h
 |o+1,l,j,a,h=>⟨h.1,λi z=>w.mono (λj a A=>ur w o _ j a A) (h.2 i z)⟩
theorem oO {TL:Act->World->Prop} (K:ql P QQ ops WO) {h:Act} {a:World} (m f:Nat) (tab:Ch) (late:Option Nat) (nw:Nat->Bool) (T U:World->World->Prop) (z:uy [] ops m h.tmps.size=true)
  (ad: ∀(l:Array Bool) (h:Act) (a:World),l.size=ops.size->(∀i,i<ops.size->l.getD i true=decide (i<m))->TL h a->mG WO N ops (ops.size-m+0) l h a)
  (w: ∀a,T a a) (I: ∀h b c,U h b->U b c->U h c) (A: ∀h b,T h b->U h b) (ac: ∀h b c,T h b->T b c->T h c) (ab: ∀i o F,tab i=some (o,F)-> ∀v a w',F v a->T a w'->F v w')
  (X: ∀i o F,late≠some i->tab i=some (o,F)-> ∀v a w',F v a->U a w'->F v w')
  (ae: ∀i,nw i=true-> ∃o F,tab i=some (o,F)/\ ∀v a,F v a-> ∀g,pB v=some g->g<a.heap.size)
  (af:eL P QQ ops f tab late nw T U a.drew (λh M=> ∀w',U a.drew w'->(∀p∈M,p.2 w')->qo ops m nw (λ_=>True) h->TL h w') (ops.toList.take m) 0 h []):mG WO N ops ops.size (Array.replicate ops.size false) h a.drew:=by
 have R:s6 m (Array.replicate ops.size false)=m:=by
  have: ∀k,k<=ops.size->s6 k (Array.replicate ops.size false)=k:=by
   intro k
   induction k with
   |zero=>intro _;rfl
   |succ k ih=>
    intro ai;rw[nf,ih Qa,if_pos];simp[aA,show k<ops.size from by omega]
  exact this m (qU z)
 have:=qY (pre:=[]) (TL:=TL) rfl (λG V=>by cases V) ad (K.toS (S:=U a.drew)) z (A _ _ (w a.drew)) I A ac ab X w ae af m (Array.replicate ops.size false) h a.drew R.symm Qd (λi j _=>by simp[aA,j])
  (λi G j=>by
   simp only[aA,dW]at j
   split at j<;>simp at j)
  ⟨A _ _ (w _),λ_=>w _,rfl,rfl,λ_ _=>rfl,λi O d j=>by
   simp only[aA,dW]at j;split at j<;>simp at j,λi O d j=>by
   simp only[aA,dW]at j;split at j<;>simp at j,λi G ah ag ak aj j=>by
   simp only[aA,dW]at j
   split at j<;>simp at j⟩
 rw[show ops.size-m+m=ops.size from by have:=qU z;omega]at this;exact ur (K.toS (S:=U a.drew)) _ _ _ _ this
theorem eL.fin {P:Program} {ops:Array Oper} {f:Nat} {tab:Ch} {late:Option Nat} {nw:Nat->Bool} {T U:World->World->Prop} {w0:World} {O M:Act->List (Nat×(World->Prop))->Prop} (w: ∀j a,O j a->M j a):
  ∀(l:List Oper) (i:Nat) (j:Act) (a:List (Nat×(World->Prop))),eL P QQ ops f tab late nw T U w0 O l i j a->eL P QQ ops f tab late nw T U w0 M l i j a
 | [],_,j,a,h=>w j a h
 |o::rest,i,j,a,h=>by
  refine⟨λA=>eL.fin w rest _ _ _ (h.1 A),λA=> ?_⟩;have z:=h.2 A
  cases ht:tab i with
  |none=>
   rw[ht]at z;obtain⟨v,K,G⟩:=z;exact⟨v,K,eL.fin w rest _ _ _ G⟩
  |some sf=>
   obtain⟨X,F⟩:=sf;rw[ht]at z;obtain⟨K,G,V⟩:=z;exact⟨K,G,λv R=>eL.fin w rest _ _ _ (V v R)⟩
theorem uP (z:ql P QQ ops WO) (h:E_ ops m size=true) (l:Array Bool) (j:Act) (a:World) (w:l.size=ops.size) (A: ∀i,i<ops.size->l.getD i true=decide (i<m)) (o:oE WO N (List.range' m (ops.size-m)) j a):mG WO N ops (ops.size-m+0) l j a:=
 tg (z.toS (S:=λ_=>True)) (oI h).1 (oI h).2 (ops.size-m+0) m l j a Qa (ak _) (qU (oI h).1) w A o
theorem jd {Q:Exit->Act->World->Prop}:ql P Q ops (wpOp P ops Q) where
 mono:=wpOp_mono
 skip:=λj h a=>by unfold wpOp;simp only[j,h];exact a
 run:=λj h _ a=>by
  unfold wpOp;simp only[j,h,if_true];refine .inl ?_;unfold Oper.wp at*;generalize (execOp _ _).run P _=r at*
  cases r with
  |ok x w'=>
   cases x<;>simp only[Oper.upon]at a⊢ <;>first
    |exact a
    |exact Calls.mono a (λe z o=>by cases e<;>first|exact o|exact o _ rfl|exact(by obtain⟨x,y,w⟩:=o;exact⟨x,y,w x rfl⟩))
  |halt x w'=>cases x<;>simp only[Oper.upon]at a⊢;exact a _ rfl
theorem ld {Q:Exit->Act->World->Prop}: ∀(f:Nat) (l:Array Bool) (j:Act) (a:World),mG (wpOp P ops Q) (Q .normal) ops f l j a->wpAny P .any ops Q f l j a
 |0,_,_,_,h=>h
 |f+1,_,_,_,h=>⟨h.1,λi o=>wpOp_mono (λj a=>ld f _ j a) (h.2 i o)⟩
theorem qN {Q:Exit->Act->World->Prop}: ∀(l:List Nat),oE (wpOp P ops Q) (Q .normal) l=wpOps P ops Q l
 | []=>by funext a w;rfl
 |i::l=>by funext a w;rw[wpOps_cons,<-qN l];rfl
theorem th {Q:Exit->Act->World->Prop} (m:Nat):oE (wpOp P ops Q) (Q .normal) (List.range' m (ops.size-m))=wpList P ops Q (ops.toList.drop m):=by
 rw[qN,<-wpOps_eq_wpList (P:=P) (ops:=ops) (Q:=Q) (ops.toList.drop m) m (λa=>by simp),bD,Array.length_toList]
theorem fC {id:Nat} {Q:Exit->Act->World->Prop} {a:Act} {h:World} (m f:Nat) (tab:Ch) (late:Option Nat) (T U:World->World->Prop) (A:P.follows .mixedOrders=true) (z:E_ ops m a.tmps.size=true)
  (O: ∀h,T h h) (K: ∀a b c,U a b->U b c->U a c) (R: ∀a b,T a b->U a b) (V: ∀a b c,T a b->T b c->T a c) (M: ∀i o F,tab i=some (o,F)-> ∀v h w',F v h->T h w'->F v w')
  (G: ∀i o F,late≠some i->tab i=some (o,F)-> ∀v h w',F v h->U h w'->F v w')
  (j:eL P Q ops f tab late (λ_=>false) T U h.drew (λa w=> ∀w',U h.drew w'->(∀p∈w,p.2 w')->wpList P ops Q (ops.toList.drop m) a w') (ops.toList.take m) 0 a []):(Code.region id ops true).wp P Q a h:=by
 refine wp_region_any A (ld _ _ _ _ (oO jd m f tab late (λ_=>false) T U (oI z).1 (uP jd z) O K R V M G (λi j=>by cases j) ?_));rw[th];exact eL.fin (λa w j w' I X _=>j w' I X) _ _ _ _ j
def tD (n m:Nat):Array Bool:=Array.ofFn (n:=n) λi=>decide (i.val<m)
theorem Ae {n m:Nat} {l:Array Bool} (h:l.size=n) (o: ∀i,i<n->l.getD i true=decide (i<m)):l=tD n m:=by
 apply Array.ext
 ·simp[tD,h]
 ·intro i j w;have a:=o i Qa;simp only[aA,bH j,bM]at a;simp only[tD,Array.getElem_ofFn];exact a
theorem nQ {id:Nat} {Q:Exit->Act->World->Prop} {a:Act} {h:World} (m f:Nat) (tab:Ch) (late:Option Nat) (T U:World->World->Prop) (G:P.follows .mixedOrders=true) (A:uy [] ops m a.tmps.size=true)
  (V: ∀h,T h h) (O: ∀a b c,U a b->U b c->U a c) (X: ∀a b,T a b->U a b) (I: ∀a b c,T a b->T b c->T a c) (R: ∀i o F,tab i=some (o,F)-> ∀v h w',F v h->T h w'->F v w')
  (M: ∀i o F,late≠some i->tab i=some (o,F)-> ∀v h w',F v h->U h w'->F v w')
  (j:eL P Q ops f tab late (λ_=>false) T U h.drew (λa w=> ∀w',U h.drew w'->(∀p∈w,p.2 w')->mG (wpOp P ops Q) (Q .normal) ops (ops.size-m) (tD ops.size m) a w') (ops.toList.take m) 0 a []):(Code.region id ops true).wp P Q a h:=by
 refine wp_region_any G (ld _ _ _ _ (oO jd m f tab late (λ_=>false) T U A (λl a h K j z=>by rw[Ae K j];exact z) V O X I R M (λi j=>by cases j) ?_));exact eL.fin (λa w j w' ac ab _=>j w' ac ab) _ _ _ _ j
theorem bA {Q:Exit->Act->World->Prop} {f:Nat} {l:Array Bool} {j:Act} {h:World} (a:List Nat) (o:Region.ready .any ops l=a) (w:a≠ []) (z: ∀i,i∈a->wpOp P ops Q i (mG (wpOp P ops Q) (Q .normal) ops f (l.setIfInBounds i true)) j h):mG (wpOp P ops Q) (Q .normal) ops (f+1) l j h:=by
 subst o;exact⟨λe=>absurd e w,z⟩
theorem a_ {Q:Exit->Act->World->Prop} {i:Nat} {o:Act->World->Prop} {h:Act} {j:World} {a:Oper} (z:ops[i]? =some a) (w:Region.wanted a (yielded ops h.tmps)=true) (A:a.wp P h j o Q):wpOp P ops Q i o h j:=by
 unfold wpOp;simp only[z,w,if_true];exact .inl A
theorem kB {Q:Exit->Act->World->Prop} {l:Array Bool} {h:Act} {a:World} (j:Region.ready .any ops l=[]) (o:Q .normal h a):mG (wpOp P ops Q) (Q .normal) ops 0 l h a:=⟨j,o⟩
end
abbrev xC:=Nat×(Value->Prop)×(Value->World->Prop)
def eW:List xC->Ch
 | []=>λ_=>none
 |p::l=>λi=>if i=p.1 then some p.2 else eW l i
def jN (T:World->World->Prop):List xC->Prop
 | []=>True
 |p::l=>(∀v w w',p.2.2 v w->T w w'->p.2.2 v w')/\jN T l
theorem jN.out {T:World->World->Prop}: ∀{l:List xC},jN T l-> ∀i j F,eW l i=some (j,F)-> ∀v h w',F v h->T h w'->F v w'
 | [],_,i,j,F,a=>by simp[eW]at a
 |p::l,hs,i,j,F,a=>by
  simp only[eW]at a;split at a
  ·injection a with a;intro v h w' w o;have:=hs.1 v h w';rw[a]at this;exact this w o
  ·exact jN.out hs.2 i j F a
section
variable {QQ:Exit->Act->World->Prop}
variable {f:Nat} {tab:Ch} {late:Option Nat} {nw:Nat->Bool} {T U:World->World->Prop} {w0:World} {Fin:Act->List (Nat×(World->Prop))->Prop} {o:Oper} {rest:List Oper} {i:Nat} {a:Act} {Φ:List (Nat×(World->Prop))}
theorem bQ (j:Region.wanted o (yielded ops a.tmps)=false) (w:eL P QQ ops f tab late nw T U w0 Fin rest (i+1) (a.put o.dst undef) Φ):eL P QQ ops f tab late nw T U w0 Fin (o::rest) i a Φ:=
 ⟨λ_=>w,λh=>by rw[j]at h;cases h⟩
theorem yf (v:Value) (w:Region.wanted o (yielded ops a.tmps)=true) (z:tab i=none) (A: ∀h,U w0 h->(execOp a.eval o).run P h=.ok (.value v) h)
  (G:eL P QQ ops f tab late nw T U w0 Fin rest (i+1) (a.put o.dst v) Φ):eL P QQ ops f tab late nw T U w0 Fin (o::rest) i a Φ:=
 ⟨λj=>(by rw[w]at j;cases j),λ_=>by rw[z];exact⟨v,A,G⟩⟩
theorem bg (w:Value->Prop) (F:Value->World->Prop) (M:Region.wanted o (yielded ops a.tmps)=true) (O:tab i=some (w,F)) (X: ∃v,w v) (A:late≠some i)
  (K: ∀h,U w0 h->(∀p∈Φ,nL ops f i p.1=true->p.2 h)-> ∀(z:Act->World->Prop),(∀v w',T h w'->w v->F v w'->z (a.put o.dst v) w')->o.wp P a h z (zf QQ))
  (ae: ∀v,w v->eL P QQ ops f tab late nw T U w0 Fin rest (i+1) (a.put o.dst v) ((i,F v)::Φ)) (V:nw i=false:=by rfl):eL P QQ ops f tab late nw T U w0 Fin (o::rest) i a Φ:=
 ⟨λj=>(by rw[M]at j;cases j),λ_=>by
  rw[O]
  exact⟨X,λh G R z I=>K h (by rw[if_neg A]at G;exact G) R z λv w' ad ac ab=>I v w' ⟨by rw[if_neg A];exact ad,ac,ab,λj=>by rw[V]at j;cases j⟩,ae⟩⟩
theorem sd (j:Value->Prop) (F:Value->World->Prop) (M:Region.wanted o (yielded ops a.tmps)=true) (O:tab i=some (j,F)) (V: ∃v,j v) (z:late≠some i)
  (K: ∀h,U w0 h->(∀p∈Φ,nL ops f i p.1=true->p.2 h)-> ∀(w:Act->World->Prop),(∀v w',T h w'->j v->F v w'->(∀g,pB v=some g->h.heap.size<=g)->w (a.put o.dst v) w')->o.wp P a h w (zf QQ))
  (ae: ∀v,j v->eL P QQ ops f tab late nw T U w0 Fin rest (i+1) (a.put o.dst v) ((i,F v)::Φ)):eL P QQ ops f tab late nw T U w0 Fin (o::rest) i a Φ:=
 ⟨λG=>(by rw[M]at G;cases G),λ_=>by
  rw[O]
  exact⟨V,λh A R w X=>K h (by rw[if_neg z]at A;exact A) R w λv w' ad ac ab I=>X v w' ⟨by rw[if_neg z];exact ad,ac,ab,λ_=>I⟩,ae⟩⟩
theorem sx (v:Value) (z: ∀h,U w0 h->(execOp a.eval o).run P h=.ok (.value v) h) (A:eL P QQ ops f tab late nw T U w0 Fin rest (i+1) (a.put o.dst v) Φ)
  (j:Region.wanted o (yielded ops a.tmps)=true:=by rfl) (w:tab i=none:=by rfl):eL P QQ ops f tab late nw T U w0 Fin (o::rest) i a Φ:=yf v j w z A
theorem so {h:Value->Prop} {F:Value->World->Prop} (z: ∀j,U w0 j->(∀p∈Φ,nL ops f i p.1=true->p.2 j)-> ∀(w:Act->World->Prop),(∀v w',T j w'->h v->F v w'->w (a.put o.dst v) w')->o.wp P a j w (zf QQ))
  (R: ∀v,h v->eL P QQ ops f tab late nw T U w0 Fin rest (i+1) (a.put o.dst v) ((i,F v)::Φ)) (A:Region.wanted o (yielded ops a.tmps)=true:=by rfl) (G:tab i=some (h,F):=by rfl) (O: ∃v,h v:=by exact⟨_,rfl⟩) (M:late≠some i:=by simp) (K:nw i=false:=by rfl):eL P QQ ops f tab late nw T U w0 Fin (o::rest) i a Φ:=bg h F A G O M z R K
theorem bR (w:Value->Prop) (F:Value->World->Prop) (M:Region.wanted o (yielded ops a.tmps)=true) (O:tab i=some (w,F)) (X: ∃v,w v) (A:late=some i)
  (K: ∀h,T w0 h->(∀p∈Φ,nL ops f i p.1=true->p.2 h)-> ∀(z:Act->World->Prop),(∀v w',U h w'->w v->F v w'->z (a.put o.dst v) w')->o.wp P a h z (zf QQ))
  (ae: ∀v,w v->eL P QQ ops f tab late nw T U w0 Fin rest (i+1) (a.put o.dst v) ((i,F v)::Φ)) (V:nw i=false:=by rfl):eL P QQ ops f tab late nw T U w0 Fin (o::rest) i a Φ:=
 ⟨λj=>(by rw[M]at j;cases j),λ_=>by
  rw[O]
  exact⟨X,λh G R z I=>K h (by rw[if_pos A]at G;exact G) R z λv w' ad ac ab=>I v w' ⟨by rw[if_pos A];exact ad,ac,ab,λj=>by rw[V]at j;cases j⟩,ae⟩⟩
end
end
def az (w w':World):Prop:=RowKit.Below w.heap.size w w'
theorem az.refl (a:World):az a a:=RowKit.Below.refl _ _
theorem az.size {a w':World} (h:az a w'):a.heap.size<=w'.heap.size:=RowKit.Below.size h
theorem az.obj {a w':World} (j:az a w') {b:Nat} (h:b<a.heap.size):w'.heap[b]? =a.heap[b]? :=RowKit.Below.block j b h
theorem az.trans {h b c:World} (a:az h b) (k:az b c):az h c:=RowKit.Below.trans a (RowKit.Below.mono k a.size)
theorem az.un {h w':World} (a:az h.drew w'):az h w':=⟨a.os,a.tape,a.output,a.size,a.block⟩
theorem aB {P:Program} {ops:Array Oper} {id:Nat} {Q:Exit->Act->World->Prop} {a:Act} {h:World} (m f:Nat) (l:List xC) (A:P.follows .mixedOrders=true) (z:E_ ops m a.tmps.size=true) (o:jN az l)
  (j:eL P Q ops f (eW l) none (λ_=>false) az az h.drew (λa w=> ∀w',az h.drew w'->(∀p∈w,p.2 w')->wpList P ops Q (ops.toList.drop m) a w') (ops.toList.take m) 0 a []):(Code.region id ops true).wp P Q a h:=
 fC m f (eW l) none az az A z az.refl (λ_ _ _=>az.trans) (λ_ _ j=>j) (λ_ _ _=>az.trans) o.out (λi G F _=>o.out i G F) j
def mL (x:Nat) (T:World->World->Prop):List xC->Prop
 | []=>True
 |p::l=>(p.1=x\/ ∀v w w',p.2.2 v w->T w w'->p.2.2 v w')/\mL x T l
theorem mL.out {x:Nat} {T:World->World->Prop}: ∀{l:List xC},mL x T l-> ∀i j F,some x≠some i->eW l i=some (j,F)-> ∀v h w',F v h->T h w'->F v w'
 | [],_,i,j,F,_,a=>by simp[eW]at a
 |p::l,hs,i,j,F,hx,a=>by
  simp only[eW]at a;split at a
  ·rename_i o;injection a with a;intro v h w' z w;have:=(hs.1.resolve_left (λe=>hx (by rw[o,e]))) v h w';rw[a]at this;exact this z w
  ·exact mL.out hs.2 i j F hx a
theorem az.grownBy {h w':World} (a:az h w') (row:Option Nat):h.grownBy w' row:=⟨a.os,a.tape,a.output,a.size,λk j _=>a.obj j⟩
theorem ap {o b c:World} {row:Option Nat} (a:o.grownBy b row) (k:b.grownBy c row):o.grownBy c row:=
 ⟨k.os.trans a.os,k.tape.trans a.tape,k.output.trans a.output,aR a.size k.size,λi j h=>(k.block i (aF j a.size) h).trans (a.block i j h)⟩
theorem aJ {h w':World} {row:Option Nat} (a:h.drew.grownBy w' row):h.grownBy w' row:=⟨a.os,a.tape,a.output,a.size,a.block⟩
theorem bV {P:Program} {ops:Array Oper} {id:Nat} {Q:Exit->Act->World->Prop} {h:Act} {a:World} (m f:Nat) (l:List xC) (x:Nat) (row:Option Nat) (G:P.follows .mixedOrders=true) (A:E_ ops m h.tmps.size=true)
  (z:jN az l) (w:mL x (λa w'=>a.grownBy w' row) l)
  (j:eL P Q ops f (eW l) (some x) (λ_=>false) az (λa w'=>a.grownBy w' row) a.drew (λh o=> ∀w',a.drew.grownBy w' row->(∀p∈o,p.2 w')->wpList P ops Q (ops.toList.drop m) h w') (ops.toList.take m) 0 h []):(Code.region id ops true).wp P Q h a:=
 fC m f (eW l) (some x) az (λa w'=>a.grownBy w' row) G A az.refl (λ_ _ _=>ap) (λ_ _ j=>j.grownBy _) (λ_ _ _=>az.trans) z.out w.out j
theorem lm {P:Program} {ops:Array Oper} {id:Nat} {Q:Exit->Act->World->Prop} {h:Act} {a:World} (m f:Nat) (l:List xC) (x:Nat) (row:Option Nat) (G:P.follows .mixedOrders=true) (A:uy [] ops m h.tmps.size=true)
  (z:jN az l) (w:mL x (λa w'=>a.grownBy w' row) l)
  (j:eL P Q ops f (eW l) (some x) (λ_=>false) az (λa w'=>a.grownBy w' row) a.drew (λh o=> ∀w',a.drew.grownBy w' row->(∀p∈o,p.2 w')->mG (wpOp P ops Q) (Q .normal) ops (ops.size-m) (tD ops.size m) h w') (ops.toList.take m) 0 h []):(Code.region id ops true).wp P Q h a:=
 nQ m f (eW l) (some x) az (λa w'=>a.grownBy w' row) G A az.refl (λ_ _ _=>ap) (λ_ _ j=>j.grownBy _) (λ_ _ _=>az.trans) z.out w.out j
def ed (Q:Exit->Act->World->Prop):Exit->Act->World->Prop:=λe a w=>match e with
 | .normal=>Q .normal a w
 | _=>False
theorem ed.imp {Q:Exit->Act->World->Prop}: ∀(e:Exit) (h:Act) (a:World),ed Q e h a->Q e h a:=λe h a j=>by
 cases e<;>first|exact j|exact(j:False).elim
section
variable {P:Program} {ops:Array Oper} {Q:Exit->Act->World->Prop} {S:World->Prop}
def FU (P:Program) (ops:Array Oper) (Q:Exit->Act->World->Prop) (S:World->Prop) (i:Nat) (K:Act->World->Prop) (a:Act) (w:World):Prop:=wpOp P ops Q i (λa' w'=>S w'/\K a' w') a w
theorem lO:mD P Q ops S (FU P ops Q S) where
 mono:=λa=>wpOp_mono λG w o=>⟨o.1,a G w o.2⟩
 skip:=λj h z a=>by unfold FU wpOp;simp only[j,h];exact⟨z,a⟩
 run:=λj h A a=>by
  have:=jd (P:=P) (ops:=ops) (Q:=Q).run j h A a;exact this
def oD (P:Program) (QQ:Exit->Act->World->Prop) (ops:Array Oper) (N:Act->World->Prop) (S:World->Prop):List Oper->Act->World->Prop
 | [],a,w=>N a w
 |o::l,a,w=>Region.wanted o (yielded ops a.tmps)=true/\(∀c,o.op≠ .defer c)/\o.wp P a w (λa' w'=>S w'/\oD P QQ ops N S l a' w') (zf QQ)
theorem aN {j:Exit->Act->World->Prop} {N:Act->World->Prop} {a:Oper} {l:List Oper} {h:Act} {o:World} (A:Region.wanted a (yielded ops h.tmps)=true) (G: ∀c,a.op≠ .defer c)
  (O: ∀z:Act->World->Prop,(∀w w',S w'->oD P j ops N S l w w'->z w w')->a.wp P h o z (zf j)):oD P j ops N S (a::l) h o:=⟨A,G,O _ λ_ _ M K=>⟨M,K⟩⟩
theorem cz {o Q:Exit->Act->World->Prop} {h:Act} {a:World} (j:wpList P ops Q [] h a):oD P o ops (Q .normal) S [] h a:=j
theorem pt {N:Act->World->Prop}: ∀(n k:Nat) (h:Act) (a:World),k+n=ops.size->oD P Q ops N S (ops.toList.drop k) h a->oE (FU P ops Q S) N (List.range' k n) h a
 |0,k,h,a,o,j=>by
  rw[aL Qh]at j;exact j
 |n+1,k,h,a,o,j=>by
  have M:k<ops.toList.length:=Qh
  rw[aD M]at j;obtain⟨V,R,O⟩:=j;have K:ops[k]? =some ops.toList[k]:=Qd
  show FU P ops Q S k (oE (FU P ops Q S) N (List.range' (k+1) n)) h a;refine lO.run K V R ?_;refine stepOk_mono O λX w' z=>⟨z.1,pt n (k+1) X w' Qa z.2⟩
where
 stepOk_mono {w:Oper} {h:Act} {a:World} {G A:Act->World->Prop} (j:w.wp P h a G (zf Q)) (o: ∀h a,G h a->A h a):w.wp P h a A (zf Q):=Oper.wp_mono o j
variable {m size:Nat} {pre:List Nat}
theorem ow {X:List Nat} (ad:Region.noSelect ops=true) (ab:Cp ops X m=true) (af: ∀c w j,¬Q (.panic c) w j): ∀(z:Nat) (l:Array Bool) (w:Act) (j:World),S j->jF ops (λi=>l.getD i false=true)->l.size=ops.size->
  mF P ops X S (FU P ops Q S) (Q .normal) z l w j->wpAnyH P .any ops Q S z l w j
 |0,_,_,_,_,_,_,h=>h
 |z+1,l,w,j,hS,hC,hl,h=>by
  have ah: ∀i,i∈Region.ready .any ops l->jF ops (λa=>(l.setIfInBounds i true).getD a false=true):=λi o a k ae ai=>by
   obtain⟨_,ak,G,ag⟩:=fU.1 o;have ar:=(Array.getElem?_eq_some_iff.1 G).1;have aj: ∀a,(l.setIfInBounds i true).getD a false=if a=i then true else l.getD a false:=λa=>by
    simp only[aA,bB];by_cases h:i=a
    ·subst h;simp[hl,ar]
    ·rw[if_neg h,if_neg (λe=>h e.symm)]
   simp only[aj]at ae⊢;by_cases hki:k=i
   ·rw[if_pos hki]
   ·rw[if_neg hki];by_cases R:a=i
    ·subst R;obtain⟨e,M,O,A⟩:=(jX G).1 ai;rw[<-A];exact ag e M O
    ·rw[if_neg R]at ae;exact hC a k ae ai
  cases hft:k9 ops X l with
  |some i=>
   simp only[mF,hft]at h;obtain⟨v,ak,G,al,J⟩:=h;obtain⟨aq,o⟩:=oK hft;refine wpAnyH_first G (Region.noSelect_spec ad) (λc w j h=>absurd h (af c _ _)) z l w j ?_ o al hS (ow ad ab af z _ _ _ hS (ah i o) (by simpa using hl) J);intro a av ac R I ao;refine xS ab aq G ac R ?_ ?_
   ·rw[Bool.eq_false_iff];intro V;obtain⟨e,M,O,A⟩:=(jX ac).1 V;exact ao e M O A
   ·rw[Bool.eq_false_iff];intro ha;obtain⟨_,aw,an,ag⟩:=fU.1 o
    have V:=mg (D:=λi=>l.getD i false=true) hC 4 i a (λk K=>by
     obtain⟨e,M,O,A⟩:=(jX an).1 K
     rw[<-A];exact ag e M O) ha
    have ap:a<l.size:=by rw[hl];exact(Array.getElem?_eq_some_iff.1 ac).1
    simp only[aA,bH ap,bM]at V I;rw[V]at I
    cases I
  |none=>
   simp only[mF,hft]at h;refine⟨h.1,λi o=>wpOp_mono (λau w' K=>⟨K.1,ow ad ab af z _ au w' K.1 (ah i o) (by simpa using hl) K.2⟩) (h.2 i o)⟩
theorem lk (U:World->World->Prop) (z: ∀a,U a a) (ab: ∀h b c,U h b->U b c->U h c) {id:Nat} {h:Act} {a:World} (m f:Nat) (l:List xC) (G A:List Nat) (ai:P.follows .mixedOrders=true) (K:FT A ops m h.tmps.size=true) (V:Cp ops A m=true) (ag:Region.noSelect ops=true) (af:(A.all λw=>(eW l w).isNone)=true) (X:jN U l)
  (ah: ∀i,G.contains i=true-> ∃O F,eW l i=some (O,F)/\ ∀v a,F v a-> ∀g,pB v=some g->g<a.heap.size)
  (j:eL P (ed Q) ops f (eW l) none (λi=>G.contains i) U U a.drew (λh R=> ∀w',U a.drew w'->(∀p∈R,p.2 w')->qo ops m (λi=>G.contains i) (λ_=>True) h->oD P (ed Q) ops (Q .normal) (U a.drew) (ops.toList.drop m) h w') (ops.toList.take m) 0 h []):(Code.region id ops true).wp P Q h a:=by
 refine Code.wp_mono ed.imp (wp_region_held (S:=U a.drew) ai ?_);have I:=qU (oI K).1;have ao: ∀i,(Array.replicate ops.size false).getD i false=false:=λi=>by
  simp only[aA,dW];split<;>rfl
 have M: ∀i,¬(Array.replicate ops.size false).getD i false=true:=λi j=>by rw[ao]at j;cases j
 have ac:jF ops (λi=>(Array.replicate ops.size false).getD i false=true):=λi w o=>absurd o (M i);have ae:s6 m (Array.replicate ops.size false)=m:=by
  have: ∀k,k<=ops.size->s6 k (Array.replicate ops.size false)=k:=by
   intro k
   induction k with
   |zero=>intro _;rfl
   |succ k ih=>
    intro ar;rw[nf,ih Qa,if_pos];simp[aA,show k<ops.size from by omega]
  exact this m I
 refine ow (Q:=ed Q) ag V (λc h a j=>j) _ _ _ _ (z _) ac Qd ?_
 have:=qY (a0:=h) (pre:=A) (f:=f) V (λw aj=>by
   have:=List.all_eq_true.1 af w aj
   simpa using this) (tg (S:=U a.drew) lO (oI K).1 (oI K).2 (ops.size-m+0) m · · · Qa (ak _) I · · ·) (lO (P:=P) (ops:=ops) (Q:=ed Q) (S:=U a.drew)) (oI K).1 (T:=U) (U:=U) (w0:=a.drew) (tab:=eW l) (late:=none) (nw:=λi=>G.contains i) (N:=ed Q .normal) (z _) ab (λ_ _ j=>j) ab
   X.out (λi O F _=>X.out i O F) z ah
   (eL.fin (λh R j w' an J al=>pt _ _ _ _ Qa (j w' an J al)) _ _ _ _ j) m (Array.replicate ops.size false) h a.drew ae.symm Qd (λi o _=>by simp[aA,o]) ac
   ⟨z _,λ_=>z _,rfl,rfl,λ_ _=>rfl,λi ad d o=>absurd o (M i),λi ad d o=>absurd o (M i),λi w aq ap av au o=>absurd o (M i)⟩
 rw[show ops.size-m+m=ops.size from by omega]at this;exact this
theorem cD {id:Nat} {h:Act} {a:World} (m f:Nat) (l:List xC) (o j:List Nat) (V:P.follows .mixedOrders=true) (M:FT j ops m h.tmps.size=true) (G:Cp ops j m=true) (O:Region.noSelect ops=true) (A:(j.all λz=>(eW l z).isNone)=true) (K:jN az l)
  (R: ∀i,o.contains i=true-> ∃I F,eW l i=some (I,F)/\ ∀v a,F v a-> ∀g,pB v=some g->g<a.heap.size)
  (X:eL P (ed Q) ops f (eW l) none (λi=>o.contains i) az az a.drew (λh w=> ∀w',az a.drew w'->(∀p∈w,p.2 w')->qo ops m (λi=>o.contains i) (λ_=>True) h->oD P (ed Q) ops (Q .normal) (az a.drew) (ops.toList.drop m) h w') (ops.toList.take m) 0 h []):(Code.region id ops true).wp P Q h a:=
 lk az az.refl (λ_ _ _=>az.trans) m f l o j V M G O A K R X
theorem cU {id:Nat} {a:Act} {h:World} (U:World->World->Prop) (I: ∀h,U h h) (X: ∀a b c,U a b->U b c->U a c) (m f:Nat) (l:List xC) (j:List Nat) (R:P.follows .mixedOrders=true) (M:FT j ops m a.tmps.size=true) (G:Cp ops j m=true) (O:Region.noSelect ops=true) (A:(j.all λz=>(eW l z).isNone)=true) (K:jN U l)
  (o:eL P (ed Q) ops f (eW l) none (λ_=>false) U U h.drew (λa w=> ∀w',U h.drew w'->(∀p∈w,p.2 w')->oD P (ed Q) ops (Q .normal) (U h.drew) (ops.toList.drop m) a w') (ops.toList.take m) 0 a []):(Code.region id ops true).wp P Q a h:=
 lk U I X m f l [] j R M G O A K (λi V=>by cases V) (eL.fin (λa w o w' ac ab _=>o w' ac ab) _ _ _ _ o)
end
def aS:=@az.refl
def dz:=@az.size
def oB:=@az.trans
end Go.Proofs.YtddomeddabfinaaGreatDoor

