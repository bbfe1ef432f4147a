/- Parts of the proof. -/
import Derived.Test.YtoedmpgicdekmaaGreatDoorCo00
import Derived.Below
import Derived.OrdersHeld
set_option maxRecDepth 100000
set_option maxHeartbeats 8000000
set_option linter.all false
namespace Go.Proofs.YtoedmpgicdekmaaGreatDoor
open Go
theorem bE (a : Act) (d : Nat) (v : Value) : Act.put a (some d) v = { a with tmps := a.tmps.setIfInBounds d v } := rfl
theorem bA (a : Act) (v : Value) : Act.put a none v = a := rfl
theorem bD {a : Type _} (l : List a) (i : Nat) (d : a) : l.toArray.setIfInBounds i d = (l.set i d).toArray := a8 ..
theorem bC {a : Type _} (d b : a) (l : List a) : (d :: l).set 0 b = b :: l := rfl
theorem bB {a : Type _} (d b : a) (l : List a) (n : Nat) : (d :: l).set (n + 1) b = d :: l.set n b := rfl
def dX (a:Act) (t:Nat):Value:=a.tmps.getD t undef
def lL (ops:Array Oper) (i j:Nat):Bool:=(ops[i]?).any λo=>o.after.any λe=>Region.binds .any e&&e.on==j
def pA (ops:Array Oper):Nat->Nat->Nat->Bool
 |0,i,j=>lL ops i j
 |f+1,i,j=>(ops[i]?).any λo=>o.after.any λe=>Region.binds .any e&&(e.on==j||pA ops f e.on j)
def Cf:Op->Bool
 | .select .. =>true
 | .defer _=>true
 | _=>false
def wg (pre:List Nat) (ops:Array Oper) (m size:Nat):Bool:=
 decide (m<=ops.size)&&
 (List.range ops.size).all (λi=>match ops[i]? with
  |some o=>o.after.all λe=> !Region.binds .any e||decide (e.on<i)
  |none=>false)&&
 (List.range m).all (λi=>match ops[i]? with
  |some o=> !Cf o.op&&(match o.dst with
    |some d=>decide (d<size)&&(List.range m).all λj=>j==i||(match ops[j]? with|some oj=>oj.dst !=some d|none=>false)
    |none=>false)&&
   (List.range m).all λj=>match (ops[j]?).bind (·.dst)with|some dj=> !(o.looksAt ops).contains dj||lL ops i j|none=>false
  |none=>false)&&
 (List.range (ops.size-m)).all (λk=>(List.range m).all (λj=>pre.contains j||pA ops 4 (m+k) j))
abbrev DF:=Nat->Option ((Value->Prop)×(Value->World->Prop))
def pB (v:Value):Option Nat:=match v with
 | .pointer (some a)=>some a.block
 | _=>none
def Dx (Q:Exit->Act->World->Prop):Exit->Act->World->Prop:=λe a w=> ∀a',a'.defers=a.defers->Q e a' w
def Yl (P:Program) (QQ:Exit->Act->World->Prop) (o:Oper) (a:Act) (w:World) (R:Value->World->Prop):Prop:=
 ∀(K:Act->World->Prop),(∀v w',R v w'->K (a.put o.dst v) w')->o.wp P a w K (Dx QQ)
def fM (P:Program) (QQ:Exit->Act->World->Prop) (ops:Array Oper) (f:Nat) (tab:DF) (late:Option Nat) (nw:Nat->Bool) (T U:World->World->Prop) (w0:World) (Fin:Act->List (Nat×(World->Prop))->Prop):List Oper->Nat->Act->List (Nat×(World->Prop))->Prop
 | [],_,a,Φ=>Fin a Φ
 |o::rest,i,a,Φ=>
  (Region.wanted o (yielded ops a.tmps)=false->fM P QQ ops f tab late nw T U w0 Fin rest (i+1) (a.put o.dst undef) Φ)/\
  (Region.wanted o (yielded ops a.tmps)=true->
   match tab i with
   |none=> ∃v,(∀w,U w0 w->(execOp a.eval o).run P w=.ok (.value v) w)/\fM P QQ ops f tab late nw T U w0 Fin rest (i+1) (a.put o.dst v) Φ
   |some (Sh,F)=>(∃v,Sh v)/\
    (∀w,(if late=some i then T w0 w else U w0 w)->(∀p∈Φ,pA ops f i p.1=true->p.2 w)->Yl P QQ o a w (λv w'=>(if late=some i then U w w' else T w w')/\Sh v/\F v w'/\(nw i=true-> ∀g,pB v=some g->w.heap.size<=g)))/\
    ∀v,Sh v->fM P QQ ops f tab late nw T U w0 Fin rest (i+1) (a.put o.dst v) ((i,F v)::Φ))
section
variable {QQ:Exit->Act->World->Prop}
variable {P:Program} {ops:Array Oper} {m size:Nat} {pre:List Nat}
theorem r5 (a:wg pre ops m size=true):m<=ops.size:=by
 simp only[wg,am,decide_eq_true_eq]at a;exact a.1.1.1
theorem rZ (h:wg pre ops m size=true) {i:Nat} {a:Oper} (hi:ops[i]? =some a): ∀e∈a.after,Region.binds .any e=true->e.on<i:=by
 simp only[wg,am]at h;have d:=h.1.1.2;rw[cg]at d;have:=d i (by rw[eM];exact(Array.getElem?_eq_some_iff.1 hi).1);rw[hi]at this;simp only[fh,du,Bool.not_eq_true',decide_eq_true_eq]at this;exact λe o u=>(this e o).resolve_left (by rw[u];simp)
theorem jy (R:wg pre ops m size=true) {i:Nat} (hi:i<m): ∃a o,ops[i]? =some a/\a.dst=some o/\o<size/\(∀V b,a.op≠ .select V b)/\(∀c,a.op≠ .defer c)/\
  (∀j,j<m->j≠i-> ∀d,ops[j]? =some d->d.dst≠some o)/\
  (∀j,j<m-> ∀d A,ops[j]? =some d->d.dst=some A->A∈a.looksAt ops->lL ops i j=true):=by
 simp only[wg,am]at R;have G:=R.1.2;rw[cg]at G;have:=G i (by rw[eM];exact hi)
 cases ho:ops[i]? with
 |none=>rw[ho]at this;cases this
 |some a=>
  rw[ho]at this;simp only[am]at this;obtain⟨⟨w,h⟩,F⟩:=this
  cases hd:a.dst with
  |none=>rw[hd]at h;cases h
  |some o=>
   rw[hd]at h;simp only[am,decide_eq_true_eq,cg,eM,du,beq_iff_eq]at h F;refine⟨a,o,rfl,hd,h.1,?_,?_,?_,?_⟩;rotate_left
   ·intro c e;rw[e]at w;simp[Cf]at w
   rotate_right
   ·intro V b e;rw[e]at w;simp[Cf]at w
   ·intro j z X d y;have:=(h.2 j z).resolve_left X;rw[y]at this;simpa using this
   ·intro j z d A y I aa;have:=F j z;rw[y]at this;simp only[fF,I,du,Bool.not_eq_true']at this;rcases this with u|u
    ·simp at u;exact absurd aa u
    ·exact u
theorem Eg (a:wg pre ops m size=true) {i:Nat} (w:m<=i) (u:i<ops.size): ∀j,j<m->j∉pre->pA ops 4 i j=true:=by
 simp only[wg,am]at a;have d:=a.2;rw[cg]at d;have:=d (i-m) (by rw[eM];omega);simp only[cg,eM,du]at this;rw[show m+(i-m)=i from by omega]at this;exact λj o h=>(this j o).resolve_left (λa=>h (by simpa using a))
def IX (ops:Array Oper) (m:Nat):Bool:=(List.range (ops.size-m)).all λk=>k==0||lL ops (m+k) (m+k-1)
def Hk (pre:List Nat) (ops:Array Oper) (m size:Nat):Bool:=wg pre ops m size&&IX ops m
def Ig (ops:Array Oper) (m size:Nat):Bool:=Hk [] ops m size
theorem pN (a:Hk pre ops m size=true):wg pre ops m size=true/\IX ops m=true:=by
 unfold Hk at a;exact(am _ _).mp a
theorem BQ (a:IX ops m=true) {i:Nat} (h:m<=i) (d:i<ops.size):i=m\/lL ops i (i-1)=true:=by
 have:=List.all_eq_true.1 a (i-m) (by rw[eM];omega);simp only[du,beq_iff_eq]at this;rw[show m+(i-m)=i from by omega]at this;rcases this with a|a
 ·exact .inl J
 ·exact .inr a
def jX (ops:Array Oper) (D:Nat->Prop):Prop:= ∀i j,D i->lL ops i j=true->D j
theorem jX.anc {D:Nat->Prop} (a:jX ops D): ∀(f i j:Nat),D i->pA ops f i j=true->D j
 |0,i,j,hi,ha=>a i j hi ha
 |f+1,i,j,hi,ha=>by
  simp only[pA,gY]at ha;obtain⟨u,w,ha⟩:=ha;rw[eN]at ha;obtain⟨e,y,h⟩:=ha;simp only[am,du,beq_iff_eq]at h;have o:lL ops i e.on=true:=by
   simp only[lL,gY];refine⟨u,w,?_⟩;rw[eN];exact⟨e,y,by simp[h.1]⟩
  rcases h.2 with d|d
  ·rw[<-d];exact a i _ hi o
  ·exact jX.anc a f _ _ (a i _ hi o) d
theorem mn {D:Nat->Prop} (z:jX ops D) (f i j:Nat) (d: ∀k,lL ops i k=true->D k) (ha:pA ops f i j=true):D j:=by
 cases f with
 |zero=>exact d j ha
 |succ f=>
  simp only[pA,gY]at ha;obtain⟨u,w,ha⟩:=ha;rw[eN]at ha;obtain⟨e,y,h⟩:=ha;simp only[am,du,beq_iff_eq]at h;have o:lL ops i e.on=true:=by
   simp only[lL,gY];refine⟨u,w,?_⟩;rw[eN];exact⟨e,y,by simp[h.1]⟩
  rcases h.2 with a|a
  ·rw[<-a];exact d _ o
  ·exact z.anc f _ _ (d _ o) a
theorem iv (d:Act) (a:Nat) (v:Value) (t:Nat) (o:a<d.tmps.size):dX (d.put (some a) v) t=if t=a then v else dX d t:=by
 unfold dX Act.put;simp only[az,bI];by_cases h:t=a
 ·subst h;simp[o]
 ·rw[if_neg (λe=>h e.symm),if_neg h]
theorem eC (a:Act) (x:Option Tmp) (v:Value):(a.put x v).tmps.size=a.tmps.size:=by cases x<;>simp[Act.put]
theorem jR (a:Act) (x:Option Tmp) (v:Value):(a.put x v).defers=a.defers:=by cases x<;>rfl
theorem Fp {a c:Act} (h:a.tmps.size=c.tmps.size) (u: ∀t,dX a t=dX c t) (d:a.defers=c.defers):a=c:=by
 obtain⟨y,A⟩:=a;obtain⟨w,z⟩:=c;simp only at h d;subst d
 congr 1
 apply Array.ext h;intro i hi o;have:=u i;simp only[dX,az]at this;simpa[hi,o]using this
def gF (ops:Array Oper) (o:Oper) (a c:Act):Prop:= ∀t,t∈o.looksAt ops->dX a t=dX c t
theorem gF.exec {a:Oper} {d c:Act} (o: ∀w b,a.op≠ .select w b) (u:gF ops a d c):execOp d.eval a=execOp c.eval a:=
 execOp_congr a o λx h=>by
  cases x with
  |tmp t=>exact u t (List.mem_append_left _ (List.mem_filterMap.2 ⟨.tmp t,by simpa using h,rfl⟩))
  | _=>rfl
theorem gF.wanted {h:Oper} {d c:Act} (u:d.tmps.size=c.tmps.size) (z:gF ops h d c):Region.wanted h (yielded ops d.tmps)=Region.wanted h (yielded ops c.tmps):=by
 unfold Region.wanted
 cases hg:h.guard with
 |none=>rfl
 |some gw=>
  obtain⟨g,A⟩:=gw;have w:yielded ops d.tmps g=yielded ops c.tmps g:=by
   unfold yielded
   cases ht:(ops[g]?).bind (·.dst)with
   |none=>rfl
   |some t=>
    have o:=z t (by simp[Oper.looksAt,hg,ht]);simp only[dX,az]at o;simp only[fF];rcases fg t d.tmps.size with a|a
    ·have y:t<c.tmps.size:=u▸a;simp only[bX a,bX y,bZ]at o⊢;rw[o]
    ·rw[fR a,fR (u▸a)]
  simp only[w]
theorem Yl.to {d:Oper} {z:Nat} {w c:Act} {F:World} {A:Value->World->Prop} {QQ:Exit->Act->World->Prop} {K:Act->World->Prop} (V:w.defers=c.defers) (X:d.dst=some z) (R:z<c.tmps.size) (o:execOp w.eval d=execOp c.eval d)
  (h:Yl P QQ d c F A) (I: ∀v w',A v w'->K (w.put d.dst v) w'):d.wp P w F K (Dx QQ):=by
 have h:=h (λu w'=>u.defers=c.defers/\A (dX u z) w') (λv w' y=>⟨jR _ _ _,by rw[X,iv _ _ _ _ R,if_pos rfl];exact y⟩);have val: ∀(a:Value) (w':World),((c.put d.dst a).defers=c.defers/\A (dX (c.put d.dst a) z) w')->K (w.put d.dst a) w':=λa w' ⟨_,y⟩=>by
  rw[X,iv _ _ _ _ R,if_pos rfl]at y;exact I _ _ y
 unfold Oper.wp at*;rw[o];generalize (execOp c.eval d).run P F=r at*
 cases r with
 |ok n w'=>
  cases n<;>simp only[Oper.upon]at h⊢
  case value a=>exact val a _ h
  case skip=>exact val _ _ h
  case defer x=>
   have:=h.1;rw[jR]at this;exact absurd (congrArg List.length this) Qe
  case enter f args=>
   refine Calls.mono h λe aa o=> ?_
   cases e with
   |returned a=>exact val a _ o
   |panicked x=>exact λu G=>o u (G.trans V)
   |outgrown=>exact o
  case row row args=>exact Rows.mono h λa aa o=>val a _ o
 |halt x w'=>
  cases x<;>simp only[Oper.upon]at h⊢;exact λu G=>h u (G.trans V)
section
variable {QQ:Exit->Act->World->Prop}
variable {f:Nat} {tab:DF} {late:Option Nat} {nw:Nat->Bool} {T U:World->World->Prop} {w0:World} {a0:Act}
def Dy (P:Program) (ops:Array Oper) (tab:DF) (U:World->World->Prop) (w0:World) (i:Nat) (o:Oper) (d:Nat) (a:Act):Prop:=
 (Region.wanted o (yielded ops a.tmps)=false->dX a d=undef)/\
 (Region.wanted o (yielded ops a.tmps)=true->match tab i with
  |none=> ∀w,U w0 w->(execOp a.eval o).run P w=.ok (.value (dX a d)) w
  |some (Sh,_)=>Sh (dX a d))
def rr (ops:Array Oper) (m:Nat) (nw:Nat->Bool) (D:Nat->Prop) (a:Act):Prop:=
 ∀(i j:Nat) (oi oj:Oper) (di dj:Nat),D i->D j->i<m->j<m->ops[i]? =some oi->ops[j]? =some oj->oi.dst=some di->oj.dst=some dj->nw i=true->nw j=true->i≠j->
  Region.wanted oi (yielded ops a.tmps)=true->Region.wanted oj (yielded ops a.tmps)=true-> ∀g,pB (dX a di)=some g->pB (dX a dj)≠some g
structure Kd (P:Program) (ops:Array Oper) (m:Nat) (tab:DF) (late:Option Nat) (nw:Nat->Bool) (T U:World->World->Prop) (w0:World) (a0:Act) (D:Nat->Prop) (a:Act) (w:World):Prop where
 step:U w0 w
 early:(∀x,late=some x-> ¬D x)->T w0 w
 size:a.tmps.size=a0.tmps.size
 defers:a.defers=a0.defers
 base: ∀t,(∀(i:Nat) (o:Oper),i<m->ops[i]? =some o->o.dst≠some t)->dX a t=dX a0 t
 ok: ∀(i:Nat) (o:Oper) (d:Nat),D i->i<m->ops[i]? =some o->o.dst=some d->Dy P ops tab U w0 i o d a
 fact: ∀(i:Nat) (o:Oper) (d:Nat),D i->i<m->ops[i]? =some o->o.dst=some d->Region.wanted o (yielded ops a.tmps)=true-> ∀Sh F,tab i=some (Sh,F)->F (dX a d) w
 pair:rr ops m nw D a
theorem pV {Z:Act->List (Nat×(World->Prop))->Prop} (ao:wg pre ops m a0.tmps.size=true) (aB:U w0 w0)
  (aY:fM P QQ ops f tab late nw T U w0 Z (ops.toList.take m) 0 a0 []) {D:Nat->Prop} (aV:jX ops D) {F:Act} {aF:World} (af:Kd P ops m tab late nw T U w0 a0 D F aF):
  ∀k,k<=m-> ∃c R,fM P QQ ops f tab late nw T U w0 Z ((ops.toList.take m).drop k) k c R/\c.tmps.size=a0.tmps.size/\c.defers=a0.defers/\
   (∀t,(∀(i:Nat) (a:Oper),i<m->ops[i]? =some a->a.dst≠some t)->dX c t=dX a0 t)/\
   (∀(i:Nat) (a:Oper) (d:Nat),i<k->D i->ops[i]? =some a->a.dst=some d->dX c d=dX F d)/\
   (∀p∈R,p.1<k/\ ∃a d G o,ops[p.1]? =some a/\a.dst=some d/\tab p.1=some (G,o)/\p.2=o (dX c d)/\(D p.1->Region.wanted a (yielded ops F.tmps)=true)):=by
 intro k
 induction k with
 |zero=>intro _;exact⟨a0,[],aY,rfl,rfl,λ_ _=>rfl,λi a d hi=>absurd hi J,λp h=>by cases h⟩
 |succ k ih=>
  intro a3;obtain⟨c,R,ax,ar,aX,aE,aD,aW⟩:=ih J;obtain⟨a,d,V,X,aU,aK,a4,aw,aP⟩:=jy ao (i:=k) J;have aQ:k<(ops.toList.take m).length:=by have:=r5 ao;simp;omega
  have aS:(ops.toList.take m)[k]=a:=by
   have:=(Array.getElem?_eq_some_iff.1 V).2;simp[this]
  rw[ap aQ,aS]at ax
  -- what the next frame is like
  have next: ∀v,(D k->dX F d=v)->
    ∀(ag:List (Nat×(World->Prop))),(∀p∈ag,p∈R\/(p.1=k/\ ∃G o,tab k=some (G,o)/\p.2=o v/\(D k->Region.wanted a (yielded ops F.tmps)=true)))->
    fM P QQ ops f tab late nw T U w0 Z ((ops.toList.take m).drop (k+1)) (k+1) (c.put a.dst v) ag->
    ∃c R,fM P QQ ops f tab late nw T U w0 Z ((ops.toList.take m).drop (k+1)) (k+1) c R/\c.tmps.size=a0.tmps.size/\c.defers=a0.defers/\
     (∀t,(∀(i:Nat) (a:Oper),i<m->ops[i]? =some a->a.dst≠some t)->dX c t=dX a0 t)/\
     (∀(i:Nat) (a:Oper) (d:Nat),i<k+1->D i->ops[i]? =some a->a.dst=some d->dX c d=dX F d)/\
     (∀p∈R,p.1<k+1/\ ∃a d G o,ops[p.1]? =some a/\a.dst=some d/\tab p.1=some (G,o)/\p.2=o (dX c d)/\(D p.1->Region.wanted a (yielded ops F.tmps)=true)):=by
   intro v an ag aG aM;have h: ∀t,dX (c.put a.dst v) t=if t=d then v else dX c t:=λt=>by rw[X];exact iv _ _ _ _ (by rw[ar];exact aU)
   refine⟨_,ag,aM,by rw[eC];exact ar,by rw[jR];exact aX,?_,?_,?_⟩
   ·intro t u;rw[h,if_neg (λe=>u k a J V (by rw[X,e]))];exact aE t u
   ·intro i A a1 hi aC w y;rw[h];rcases fg i k with ai|ai
    ·rw[if_neg (λe=>aw i J J A w (by rw[y,e]))];exact aD i A a1 ai aC w y
    ·obtain rfl:i=k:=J
     rw[V]at w;injection w with w;subst w;rw[X]at y;injection y with y;subst y;rw[if_pos rfl];exact(an aC).symm
   ·intro p aO;rcases aG p aO with aR|⟨hpk,G,o,u,hF,hw⟩
    ·obtain⟨a2,op,aZ,G,o,ay,az,aJ,aN,aH⟩:=aW p aR;refine⟨by omega,op,aZ,G,o,ay,az,aJ,?_,aH⟩;rw[h,if_neg (λe=>aw p.1 J J op ay (by rw[az,e]))];exact aN
    ·refine⟨by omega,a,d,G,o,by rw[hpk];exact V,X,by rw[hpk];exact u,?_,by rw[hpk];exact hw⟩;rw[h,if_pos rfl];exact hF
  -- if k has been carried out, the two frames are the H for it
  have H:D k->gF ops a F c:=λz t u=>by
   by_cases hex: ∃(i:Nat) (A:Oper),i<m/\ops[i]? =some A/\A.dst=some t
   ·obtain⟨i,A,ae,w,y⟩:=hex;have aj:=aP i ae A t w y u;have ai:i<k:=by
     simp only[lL,V,Option.any_some]at aj;rw[eN]at aj;obtain⟨e,aT,aA⟩:=aj;simp only[am,beq_iff_eq]at aA;have:=rZ ao V e aT aA.1;omega
    exact(aD i A t ai (aV k i z aj) w y).symm
   ·rw[af.base t (λi A ae w y=>hex ⟨i,A,ae,w,y⟩),aE t (λi A ae w y=>hex ⟨i,A,ae,w,y⟩)]
  have al:F.tmps.size=c.tmps.size:=by rw[af.size,ar]
  obtain⟨aL,aa⟩:=ax
  cases hw:Region.wanted a (yielded ops c.tmps)with
  |false=>
   exact next undef (λz=>(af.ok k a d z J V X).1 (by rw[(H z).wanted al];exact hw)) R (λp h=> .inl h) (aL hw)
  |true=>
   have aa:=aa hw
   cases u:tab k with
   |none=>
    rw[u]at aa;obtain⟨v,an,ah⟩:=aa;refine next v (λz=> ?_) R (λp h=> .inl h) ah;have ad:=(af.ok k a d z J V X).2 (by rw[(H z).wanted al];exact hw);rw[u]at ad;have I:=ad w0 aB;rw[(H z).exec aK,an w0 aB]at I;injection I with I;injection I with I;exact I.symm
   |some sf=>
    obtain⟨G,o⟩:=sf;rw[u]at aa;obtain⟨⟨au,aI⟩,_,ah⟩:=aa;by_cases z:D k
    ·have av:Region.wanted a (yielded ops F.tmps)=true:=by rw[(H z).wanted al];exact hw
     have ad:=(af.ok k a d z J V X).2 av;rw[u]at ad;refine next (dX F d) (λ_=>rfl) ((k,o (dX F d))::R) ?_ (ah _ ad);intro p h;rcases List.mem_cons.1 h with rfl|h
     ·exact .inr ⟨rfl,G,o,u,rfl,λ_=>av⟩
     ·exact .inl h
    ·refine next au (λaq=>absurd aq z) ((k,o au)::R) ?_ (ah _ aI);intro p h;rcases List.mem_cons.1 h with rfl|h
     ·exact .inr ⟨rfl,G,o,u,rfl,λaq=>absurd aq z⟩
     ·exact .inl h
def ur (m:Nat) (l:Array Bool):Nat:=(List.range m).countP λi=> !l.getD i true
theorem nU (l:Array Bool) (m:Nat):ur (m+1) l=ur m l+(if l.getD m true=false then 1 else 0):=by
 unfold ur;rw[ll,List.countP_append,lF]
 cases l.getD m true<;>rfl
theorem qT (l:Array Bool) (i m:Nat) (a:i<l.size):(l.setIfInBounds i true).getD m true=if m=i then true else l.getD m true:=by
 simp only[az,bI];by_cases h:i=m
 ·subst h;simp[a]
 ·rw[if_neg h,if_neg (λe=>h e.symm)]
theorem xZ (l:Array Bool) (i:Nat) (hi:l.getD i true=false): ∀m,ur m (l.setIfInBounds i true)+(if i<m then 1 else 0)=ur m l:=by
 have d:i<l.size:=by
  rcases fg i l.size with a|a
  ·exact a
  ·simp[az,fR a]at hi
 intro m
 induction m with
 |zero=>simp[ur]
 |succ m ih=>
  rw[nU,nU,qT _ _ _ d];by_cases a:m=i
  ·subst a;rw[hi];simp at ih⊢;omega
  ·rw[if_neg a];have h:(i<m+1)↔(i<m):=J
   simp only[h];omega
theorem uq {l:Array Bool}: ∀m,ur m l=0-> ∀i,i<m->l.getD i true=true:=by
 intro m a i hi;unfold ur at a;rw[List.countP_eq_zero]at a;have:=a i (by simpa using hi);simpa using this
theorem x6 {l:Array Bool}: ∀m,ur m l≠0-> ∃i,i<m/\l.getD i true=false/\ ∀j,j<i->l.getD j true=true:=by
 intro m
 induction m with
 |zero=>simp[ur]
 |succ m ih=>
  intro a;by_cases h0:ur m l=0
  ·refine⟨m,by omega,?_,uq m h0⟩;unfold ur at a h0;rw[ll,List.countP_append,h0]at a;simp only[lF]at a
   cases hm:l.getD m true<;>simp[hm]at a⊢
  ·obtain⟨i,h,d⟩:=ih h0;exact⟨i,by omega,d⟩
theorem fY {l:Array Bool} {i:Nat}:i∈Region.ready .any ops l↔l.getD i true=false/\ ∃h,ops[i]? =some h/\ ∀e∈h.after,Region.binds .any e=true->l.getD e.on false=true:=by
 unfold Region.ready;rw[List.mem_filter,eM];constructor
 ·rintro⟨y,w⟩;rw[am]at w;have a:ops[i]? =some ops[i]:=bX y;refine⟨by simpa using w.1,ops[i],a,λe o u=> ?_⟩;have d:=w.2;rw[a]at d;simp only[ji,bZ,fh]at d;have:=d e o;simpa[u]using this
 ·rintro⟨z,h,a,d⟩;refine⟨(Array.getElem?_eq_some_iff.1 a).1,?_⟩;rw[am,a];refine⟨by simp[z],?_⟩;simp only[ji,bZ,fh];intro e o
  cases u:Region.binds .any e
  ·simp
  ·simp[d e o u]
theorem kf {i j:Nat} {a:Oper} (d:ops[i]? =some a):lL ops i j=true↔ ∃e∈a.after,Region.binds .any e=true/\e.on=j:=by
 simp only[lL,d,Option.any_some];rw[eN];simp
def nK (WO:Nat->(Act->World->Prop)->Act->World->Prop) (N:Act->World->Prop) (ops:Array Oper):Nat->Array Bool->Act->World->Prop
 |0,l,a,w=>Region.ready .any ops l=[]/\N a w
 |fuel+1,l,a,w=>(Region.ready .any ops l=[]->N a w)/\ ∀i∈Region.ready .any ops l,WO i (nK WO N ops fuel (l.setIfInBounds i true)) a w
def pH (WO:Nat->(Act->World->Prop)->Act->World->Prop) (N:Act->World->Prop):List Nat->Act->World->Prop
 | []=>N
 |i::l=>WO i (pH WO N l)
structure mM (P:Program) (QQ:Exit->Act->World->Prop) (ops:Array Oper) (S:World->Prop) (WO:Nat->(Act->World->Prop)->Act->World->Prop):Prop where
 mono: ∀{i:Nat} {K K':Act->World->Prop} {a:Act} {w:World},(∀a w,K a w->K' a w)->WO i K a w->WO i K' a w
 skip: ∀{i:Nat} {o:Oper} {K:Act->World->Prop} {a:Act} {w:World},ops[i]? =some o->Region.wanted o (yielded ops a.tmps)=false->S w->K (a.put o.dst undef) w->WO i K a w
 run: ∀{i:Nat} {o:Oper} {K:Act->World->Prop} {a:Act} {w:World},ops[i]? =some o->Region.wanted o (yielded ops a.tmps)=true->(∀c,o.op≠ .defer c)->o.wp P a w (λa' w'=>S w'/\K a' w') (Dx QQ)->WO i K a w
structure rp (P:Program) (QQ:Exit->Act->World->Prop) (ops:Array Oper) (WO:Nat->(Act->World->Prop)->Act->World->Prop):Prop where
 mono: ∀{i:Nat} {K K':Act->World->Prop} {a:Act} {w:World},(∀a w,K a w->K' a w)->WO i K a w->WO i K' a w
 skip: ∀{i:Nat} {o:Oper} {K:Act->World->Prop} {a:Act} {w:World},ops[i]? =some o->Region.wanted o (yielded ops a.tmps)=false->K (a.put o.dst undef) w->WO i K a w
 run: ∀{i:Nat} {o:Oper} {K:Act->World->Prop} {a:Act} {w:World},ops[i]? =some o->Region.wanted o (yielded ops a.tmps)=true->(∀c,o.op≠ .defer c)->o.wp P a w K (Dx QQ)->WO i K a w
theorem rp.toS {S:World->Prop} {u:Nat->(Act->World->Prop)->Act->World->Prop} (d:rp P QQ ops u):mM P QQ ops S u where
 mono:=d.mono
 skip:=λo h _ a=>d.skip o h a
 run:=λo h w a=>d.mono (λ_ _ a=>a.2) (d.run o h w a)
def k_ (ops:Array Oper) (tk:List Nat) (l:Array Bool):Option Nat:=tk.find? λj=>(Region.ready .any ops l).contains j
theorem pP {a:List Nat} {l:Array Bool} {i:Nat} (d:k_ ops a l=some i):i∈a/\i∈Region.ready .any ops l:=
 ⟨dA d,by have:=List.find?_some d;simpa using this⟩
theorem vA {a:List Nat} {l:Array Bool} (o:k_ ops a l=none): ∀j∈a,¬j∈Region.ready .any ops l:=λj h d=>by
 have:=List.find?_eq_none.1 o j h;exact this (by simpa using d)
def DP (ops:Array Oper) (tk:List Nat) (m:Nat):Bool:=
 tk.all λi=>decide (i<m)&&(List.range ops.size).all λj=>j==i||lL ops j i||pA ops 4 i j||(match ops[i]?,ops[j]? with|some oi,some oj=>oi.apart ops oj| _,_=>false)
theorem AL {a:List Nat} (d:DP ops a m=true) {i:Nat} (hi:i∈a):i<m:=by
 simp only[DP,cg,am,decide_eq_true_eq]at d;exact(d i hi).1
theorem yZ {d:List Nat} (w:DP ops d m=true) {i j:Nat} (hi:i∈d) {o h:Oper} (y:ops[i]? =some o) (u:ops[j]? =some h) (z:j≠i) (G:lL ops j i=false) (F:pA ops 4 i j=false):o.apart ops h=true:=by
 simp only[DP,cg,am,decide_eq_true_eq]at w;have a:=(w i hi).2 j (by rw[eM];exact(Array.getElem?_eq_some_iff.1 u).1);rw[y,u,G,F]at a;have A:(j==i)=false:=by simpa using z
 rw[A]at a;simpa using a
def mR (P:Program) (ops:Array Oper) (tk:List Nat) (S:World->Prop) (WO:Nat->(Act->World->Prop)->Act->World->Prop) (N:Act->World->Prop):Nat->Array Bool->Act->World->Prop
 |0,l,a,w=>Region.ready .any ops l=[]/\N a w
 |fuel+1,l,a,w=>match k_ ops tk l with
  |some i=> ∃v o,ops[i]? =some o/\YieldsIf P ops S o v a/\mR P ops tk S WO N fuel (l.setIfInBounds i true) (a.put o.dst v) w
  |none=>(Region.ready .any ops l=[]->N a w)/\ ∀i∈Region.ready .any ops l,WO i (mR P ops tk S WO N fuel (l.setIfInBounds i true)) a w
section
variable {tk:List Nat} {S:World->Prop} {WO:Nat->(Act->World->Prop)->Act->World->Prop} {N:Act->World->Prop}
theorem Al {o:Nat} {l:Array Bool} {d:Act} {h:World} {i:Nat} (w:k_ ops tk l=some i)
  (u: ∃v a,ops[i]? =some a/\YieldsIf P ops S a v d/\mR P ops tk S WO N o (l.setIfInBounds i true) (d.put a.dst v) h):mR P ops tk S WO N (o+1) l d h:=by
 simp only[mR,w];exact u
theorem sE {h:Nat} {l:Array Bool} {d:Act} {a:World} (u:k_ ops tk l=none)
  (o:(Region.ready .any ops l=[]->N d a)/\ ∀i∈Region.ready .any ops l,WO i (mR P ops tk S WO N h (l.setIfInBounds i true)) d a):mR P ops tk S WO N (h+1) l d a:=by
 simp only[mR,u];exact o
theorem vB {l:Array Bool} (h: ∀j∈tk,l.getD j true=true):k_ ops tk l=none:=by
 unfold k_;rw[List.find?_eq_none];intro j d a;have a:j∈Region.ready .any ops l:=by simpa using a
 have:=(fY.1 a).1;rw[h j d]at this
 cases this
theorem oQ {S':World->Prop} (u:mM P QQ ops S' WO): ∀(o:Nat) (l:Array Bool) (d:Act) (a:World),(∀j∈tk,l.getD j true=true)->nK WO N ops o l d a->mR P ops tk S WO N o l d a
 |0,_,_,_,_,h=>h
 |o+1,l,d,a,hd,h=>sE (vB hd) ⟨h.1,λi hi=>u.mono (λd a y=>oQ u o _ d a (λj w=>by
   have:=hd j w;simp only[az,bI]at this⊢;split
   ·split<;>rfl
   ·exact this) y) (h.2 i hi)⟩
end
variable {WO:Nat->(Act->World->Prop)->Act->World->Prop} {N:Act->World->Prop} {S:World->Prop}
theorem uw (am:mM P QQ ops S WO) (ag:wg pre ops m size=true) (an:IX ops m=true): ∀(r k:Nat) (l:Array Bool) (d:Act) (a:World),r=ops.size-k->m<=k->k<=ops.size->l.size=ops.size->(∀i,i<ops.size->l.getD i true=decide (i<k))->
  pH WO N (List.range' k (ops.size-k)) d a->nK WO N ops r l d a:=by
 intro r
 induction r with
 |zero=>
  intro k l d a af _ ai A h w;obtain rfl:k=ops.size:=J
  refine⟨?_,by rw[nQ]at w;exact w⟩;rw[List.eq_nil_iff_forall_not_mem];intro i hi;obtain⟨o,ad,y,_⟩:=fY.1 hi;have V:=(Array.getElem?_eq_some_iff.1 y).1;rw[h i V]at o;simp at o;omega
 |succ r ih=>
  intro k l d a af aq ai A h w;have X:k<ops.size:=J
  have R:ops[k]? =some ops[k]:=bX X;refine⟨λah=> ?_,λi hi=> ?_⟩
  ·have:k∈Region.ready .any ops l:=fY.2 ⟨by rw[h k X];simp,_,R,λe F Z=>by
    have o:=rZ ag R e F Z;have u:=h e.on J;simp only[az]at u⊢;have z:e.on<l.size:=J
    simp only[bX z,bZ]at u⊢
    rw[u];simp;omega⟩
   rw[ah]at this
   cases this
  ·obtain⟨o,ad,y,u⟩:=fY.1 hi;have I:=(Array.getElem?_eq_some_iff.1 y).1;have ar:k<=i:=by rw[h i I]at o;simpa using o
   obtain rfl:i=k:=by
    rcases fg k i with V|hge
    ·rcases BQ an (i:=i) J I with z|z
     ·omega
     ·obtain⟨e,F,al,ap⟩:=(kf y).1 z;have H:=u e F al;have G:=h e.on J;have ao:e.on<l.size:=J
      simp only[az,bX ao,bZ]at H G;rw[H]at G;simp at G;omega
    ·omega
   have ae: ∀d a,pH WO N (List.range' (i+1) (ops.size-(i+1))) d a->nK WO N ops r (l.setIfInBounds i true) d a:=λd a aj=>
    ih (i+1) _ d a J J J (by simpa using A) (λj aa=>by
     simp only[az,bI];by_cases hji:i=j
     ·subst hji;simp[A,aa]
     ·rw[if_neg hji];have:=h j aa;simp only[az]at this;rw[this];simp only[decide_eq_decide]
      omega) aj
   rw[show ops.size-i=(ops.size-(i+1))+1 from by omega,List.range'_succ]at w;exact am.mono ae w
theorem sa {TL:Act->World->Prop} (cd:DP ops pre m=true) (cv: ∀j∈pre,tab j=none) (cE: ∀(l:Array Bool) (a:Act) (h:World),l.size=ops.size->(∀i,i<ops.size->l.getD i true=decide (i<m))->TL a h->nK WO N ops (ops.size-m+0) l a h) (b4:mM P QQ ops (U w0) WO) (aj:wg pre ops m a0.tmps.size=true) (b6:U w0 w0) (b5: ∀a b c,U a b->U b c->U a c) (bd: ∀a b,T a b->U a b) (cl: ∀a b c,T a b->T b c->T a c) (ck: ∀i H A,tab i=some (H,A)-> ∀v h w',A v h->T h w'->A v w')
  (cj: ∀i H A,late≠some i->tab i=some (H,A)-> ∀v h w',A v h->U h w'->A v w') (a3: ∀h,T h h)
  (bB: ∀i,nw i=true-> ∃H A,tab i=some (H,A)/\ ∀v h,A v h-> ∀g,pB v=some g->g<h.heap.size)
  (R:fM P QQ ops f tab late nw T U w0 (λa bz=> ∀h,U w0 h->(∀p∈bz,p.2 h)->rr ops m nw (λ_=>True) a->TL a h) (ops.toList.take m) 0 a0 []):
  ∀(n:Nat) (l:Array Bool) (a:Act) (h:World),n=ur m l->l.size=ops.size->(∀i,i<ops.size->m<=i->l.getD i true=false)->jX ops (λi=>l.getD i false=true)->
   Kd P ops m tab late nw T U w0 a0 (λi=>l.getD i false=true) a h->mR P ops pre (U w0) WO N (ops.size-m+n) l a h:=by
 have cJ:=r5 aj;intro n
 induction n with
 |zero=>
  intro l a h be ag bA aQ u;have bY:=uq m be.symm;have bw: ∀i,i<m->l.getD i false=true:=λi hi=>by
   have Z:=bY i hi;have aT:i<l.size:=J
   simp only[az,bX aT,bZ]at Z⊢;exact Z
  obtain⟨c,bz,a1,Z,aU,aT,bx,cG⟩:=pV aj b6 R aQ u m (ah _);rw[aK (l:=ops.toList.take m) (i:=m) (List.length_take_le _ _)]at a1
  obtain rfl:c=a:=Fp (by rw[Z,u.size]) (λt=>by
   by_cases hex: ∃(i:Nat) (aa:Oper),i<m/\ops[i]? =some aa/\aa.dst=some t
   ·obtain⟨i,aa,G,aq,ar⟩:=hex;exact bx i aa t G (bw i G) aq ar
   ·rw[u.base t (λi aa G aq ar=>hex ⟨i,aa,G,aq,ar⟩),aT t (λi aa G aq ar=>hex ⟨i,aa,G,aq,ar⟩)]) (by rw[aU,u.defers])
  refine oQ b4 (ops.size-m+0) l c h (λj z=>bY j (AL cd z)) ?_;refine cE l c h ag (λi hi=> ?_) (a1 h u.step (λp af=> ?_) ?_)
  ·by_cases G:i<m
   ·rw[bY i G];simp[G]
   ·rw[bA i hi J];simp[G]
  ·obtain⟨bp,o,au,H,A,F,ad,y,aO,aB⟩:=cG p af;rw[aO];exact u.fact p.1 o au (bw _ bp) bp F ad (aB (bw _ bp)) H A y
  ·intro i j aa V cI I _ _ hi z;exact u.pair i j aa V cI I (bw i hi) (bw j z) hi z
 |succ n ih=>
  intro l a h be ag bA aQ u;have aP: ∀i,i<ops.size->l.getD i false=l.getD i true:=λi hi=>by
   have aT:i<l.size:=J
   simp only[az,bX aT,bZ]
  have cw:ops.size-m+(n+1)=(ops.size-m+n)+1:=J
  rw[cw]
  cases hft:k_ ops pre l with
  |some i=>
   refine Al hft ?_;obtain⟨cg,hi⟩:=pP hft;obtain⟨Z,cr,aE,aU⟩:=fY.1 hi;have aA:=(Array.getElem?_eq_some_iff.1 aE).1;have aN: ∀k,lL ops i k=true->l.getD k false=true:=λk aG=>by
    obtain⟨e,aM,bc,bn⟩:=(kf aE).1 aG;rw[<-bn];exact aU e aM bc
   have G:i<m:=AL cd cg;obtain⟨o,au,F,ad,a2,aZ,ci,bM,ba⟩:=jy aj G;rw[F]at aE;injection aE with aE;subst aE;obtain⟨c,bz,a1,bD,cn,cb,bC,cm⟩:=pV aj b6 R aQ u i J;have bT:i<(ops.toList.take m).length:=Qg
   have bV:(ops.toList.take m)[i]=o:=by
    have:=(Array.getElem?_eq_some_iff.1 F).2;simp[this]
   rw[ap bT,bV]at a1;have aX:gF ops o a c:=λt y=>by
    by_cases hex: ∃(k:Nat) (aa:Oper),k<m/\ops[k]? =some aa/\aa.dst=some t
    ·obtain⟨k,aa,ax,aq,ar⟩:=hex;have bt:=ba k ax aa t aq ar y;have bU:k<i:=by
      obtain⟨e,aM,bc,bn⟩:=(kf F).1 bt;have:=rZ aj F e aM bc;omega
     exact(bC k aa t bU (aN k bt) aq ar).symm
    ·rw[u.base t (λi aa G aq ar=>hex ⟨i,aa,G,aq,ar⟩),cb t (λi aa G aq ar=>hex ⟨i,aa,G,aq,ar⟩)]
   have bL:a.tmps.size=c.tmps.size:=by rw[u.size,bD]
   have ca:jX ops (λj=>(l.setIfInBounds i true).getD j false=true):=λj k z br=>by
    have bE: ∀j,(l.setIfInBounds i true).getD j false=if j=i then true else l.getD j false:=λj=>by
     simp only[az,bI];by_cases R:i=j
     ·subst R;simp[ag,aA]
     ·rw[if_neg R,if_neg (λe=>R e.symm)]
    simp only[bE]at z⊢;by_cases X:j=i
    ·subst X;by_cases am:k=j
     ·rw[if_pos am]
     ·rw[if_neg am];exact aN k br
    ·rw[if_neg X]at z;by_cases am:k=i
     ·rw[if_pos am]
     ·rw[if_neg am];exact aQ j k z br
   -- the step: a value v in dX au
   have bf: ∀v w',(if late=some i then U h w' else T h w')->Dy P ops tab U w0 i o au (a.put o.dst v)->(Region.wanted o (yielded ops a.tmps)=true-> ∀H A,tab i=some (H,A)->A v w')->(nw i=true-> ∀g,pB v=some g->h.heap.size<=g)->
     mR P ops pre (U w0) WO N (ops.size-m+n) (l.setIfInBounds i true) (a.put o.dst v) w':=by
    intro v w' av b7 b8 bu;have bl:U h w':=by
     by_cases ag:late=some i
     ·rw[if_pos ag]at av;exact av
     ·rw[if_neg ag]at av;exact bd _ _ av
    have af: ∀t,dX (a.put o.dst v) t=if t=au then v else dX a t:=λt=>by rw[ad];exact iv _ _ _ _ (by rw[u.size];exact a2)
    have a6: ∀(j:Nat) (V:Oper) (I:Nat),(l.setIfInBounds i true).getD j false=true->j≠i->j<m->ops[j]? =some V->V.dst=some I->l.getD j false=true/\I≠au/\gF ops V (a.put o.dst v) a:=by
     intro j V I z X ai d w;have aH:l.getD j false=true:=by
      simp only[az,bI]at z⊢;rw[if_neg (λe=>X e.symm)]at z;exact z
     refine⟨aH,λe=>bM j ai X V d (by rw[w,e]),λt y=> ?_⟩;rw[af];by_cases htd:t=au
     ·subst htd;obtain⟨bF,cH,ao,_,_,_,_,_,bS⟩:=jy aj ai;rw[d]at ao;injection ao with ao;subst ao;have:=aQ j i aH (bS i G o t F ad y);simp only[]at this;rw[aP i aA,Z]at this
      cases this
     ·rw[if_neg htd]
    refine ih _ _ _ ?_ (by simpa using ag) ?_ ca ⟨b5 _ _ _ u.step bl,?_,by rw[eC,u.size],by rw[jR,u.defers],?_,?_,?_,?_⟩
    ·have:=xZ l i Z m;rw[if_pos G]at this;omega
    ·intro j z bR;rw[qT _ _ _ J,if_neg J];exact bA j z bR
    ·intro bv;have bQ:late≠some i:=λe=>bv i e (by simp[az,ag,aA]);rw[if_neg bQ]at av;refine cl _ _ _ (u.early λx aY a4=>bv x aY ?_) av;simp only[az,bI]at a4⊢;by_cases hxi:i=x
     ·subst hxi;simp[ag,aA]
     ·rw[if_neg hxi];exact a4
    ·intro t y;rw[af,if_neg (λe=>y i o G F (by rw[ad,e]))];exact u.base t y
    ·intro j V I z ai d w;by_cases X:j=i
     ·subst X;rw[F]at d;injection d with d;subst d;rw[ad]at w;injection w with w;subst w;exact b7
     ·obtain⟨aH,aw,aD⟩:=a6 j V I z X ai d w;obtain⟨bF,_,ao,_,_,bO,_,_⟩:=jy aj ai;rw[d]at ao;injection ao with ao;subst ao;have bo:=u.ok j V I aH ai d w;unfold Dy at bo⊢;rw[aD.wanted (eC _ _ _),aD.exec bO,af,if_neg aw];exact bo
    ·intro j V I z ai d w aS H A y;rw[af];by_cases X:j=i
     ·subst X;rw[F]at d;injection d with d;subst d;rw[ad]at w;injection w with w;subst w;rw[if_pos rfl];have bN:gF ops o (a.put o.dst v) a:=λt a8=>by
       rw[af,if_neg];intro e;subst e;have:=aN j (ba j G o t F ad a8);rw[aP j aA,Z]at this
       cases this
      exact b8 (by rw[<-bN.wanted (eC _ _ _)];exact aS) H A y
     ·obtain⟨aH,aw,aD⟩:=a6 j V I z X ai d w;rw[if_neg aw];have aO:=u.fact j V I aH ai d w (by rw[<-aD.wanted (eC _ _ _)];exact aS) H A y;by_cases ag:late=some i
      ·exact cj j H A (λe=>X (by rw[ag]at e;injection e with e;exact e.symm)) y _ _ _ aO bl
      ·rw[if_neg ag]at av;exact ck j H A y _ _ _ aO av
    ·intro j k V ae I al z aG ai ax d ay w an a9 aF aw aS aR g aL aI;have a7: ∀(k:Nat) (ae:Oper) (al:Nat),(l.setIfInBounds i true).getD k false=true->k≠i->k<m->ops[k]? =some ae->ae.dst=some al->nw k=true->Region.wanted ae (yielded ops (a.put o.dst v).tmps)=true->
       l.getD k false=true/\Region.wanted ae (yielded ops a.tmps)=true/\dX (a.put o.dst v) al=dX a al/\ ∀g,pB (dX a al)=some g->g<h.heap.size:=λk ae al aG am ax aj an aF aR=>by
      obtain⟨bq,aw,aD⟩:=a6 k ae al aG am ax aj an;have bh:Region.wanted ae (yielded ops a.tmps)=true:=by rw[<-aD.wanted (eC _ _ _)];exact aR
      refine⟨bq,bh,by rw[af,if_neg aw],λg bb=> ?_⟩;obtain⟨H,A,y,bP⟩:=bB k aF;exact bP _ _ (u.fact k ae al bq ax aj an bh H A y) g bb
     by_cases X:j=i
     ·subst X;rw[F]at d;injection d with d;subst d;rw[ad]at w;injection w with w;subst w;rw[af,if_pos rfl]at aL;obtain⟨_,_,a5,aV⟩:=a7 k ae al aG (λe=>aw e.symm) ax ay an aF aR;rw[a5]at aI;have Z:=bu a9 g aL;have aU:=aV g aI;omega
     ·obtain⟨bK,bJ,a5,aV⟩:=a7 j V I z X ai d w a9 aS;rw[a5]at aL;by_cases am:k=i
      ·subst am;rw[F]at ay;injection ay with ay;subst ay;rw[ad]at an;injection an with an;subst an;rw[af,if_pos rfl]at aI;have Z:=bu aF g aI;have aU:=aV g aL;omega
      ·obtain⟨bH,bG,cc,_⟩:=a7 k ae al aG am ax ay an aF aR;rw[cc]at aI;exact u.pair j k V ae I al bK bH ai ax d ay w an a9 aF aw bJ bG g aL aI
   have aW: ∀v,gF ops o (a.put o.dst v) a:=λv t a8=>by
    have af: ∀t,dX (a.put o.dst v) t=if t=au then v else dX a t:=λt=>by rw[ad];exact iv _ _ _ _ (by rw[u.size];exact a2)
    rw[af,if_neg];intro e;subst e;have:=aN i (ba i G o t F ad a8);rw[aP i aA,Z]at this
    cases this
   have own: ∀v,dX (a.put o.dst v) au=v:=λv=>by rw[ad,iv _ _ _ _ (by rw[u.size];exact a2),if_pos rfl]
   obtain⟨_,aJ⟩:=a1
   cases aB:Region.wanted o (yielded ops a.tmps)with
   |true=>
    have aJ:=aJ (by rw[<-aX.wanted bL];exact aB);have y:=cv i cg;rw[y]at aJ;obtain⟨v,bk,_⟩:=aJ;refine⟨v,o,F,.inl ⟨aB,λbg bj=>by rw[aX.exec aZ];exact bk bg bj⟩,bf v h (by split;exact bd _ _ (a3 h);exact a3 h) ⟨λaC=> ?_,λ_=> ?_⟩ (λ_ H A R=>by rw[y]at R;cases R) (λbe=>by obtain⟨_,_,R,_⟩:=bB i be;rw[y]at R;cases R)⟩
    ·rw[(aW v).wanted (eC _ _ _),aB]at aC;cases aC
    ·rw[y];intro bg bj;rw[(aW v).exec aZ,aX.exec aZ,own];exact bk bg bj
   |false=>
    have bi:=aB;refine⟨undef,o,F,.inr ⟨aB,rfl⟩,bf undef h (by split;exact bd _ _ (a3 h);exact a3 h) ⟨λ_=>own undef,λaC=> ?_⟩ (λR=>by rw[bi]at R;cases R) (λ_ g bb=>by cases bb)⟩;rw[(aW undef).wanted (eC _ _ _),bi]at aC
    cases aC
  |none=>
   refine sE hft ⟨λcx=> ?_,λi hi=> ?_⟩
   ·obtain⟨i,G,cD,cC⟩:=x6 m (l:=l) J;obtain⟨o,au,F,_⟩:=jy aj G
    have:i∈Region.ready .any ops l:=fY.2 ⟨cD,o,F,λe aM bW=>by
     have Z:=rZ aj F e aM bW;rw[aP _ J]
     exact cC _ Z⟩
    rw[cx]at this
    cases this
   ·skip
    obtain⟨Z,cr,aE,aU⟩:=fY.1 hi;have aA:=(Array.getElem?_eq_some_iff.1 aE).1;have aN: ∀k,lL ops i k=true->l.getD k false=true:=λk aG=>by
     obtain⟨e,aM,bc,bn⟩:=(kf aE).1 aG;rw[<-bn];exact aU e aM bc
    have G:i<m:=by
     rcases fg i m with aT|aT
     ·exact aT
     ·exfalso
      obtain⟨j,z,cf,cB⟩:=x6 m (l:=l) J;by_cases hjt:j∈pre
      ·obtain⟨V,I,d,_⟩:=jy aj z
       have cA:j∈Region.ready .any ops l:=fY.2 ⟨cf,V,d,λe aM bW=>by
        have Z:=rZ aj d e aM bW;rw[aP _ J]
        exact cB _ Z⟩
       exact vA hft j hjt cA
      ·have bx:=mn (D:=λi=>l.getD i false=true) aQ 4 i j aN (Eg aj aT aA j z hjt);rw[aP j J]at bx;rw[cf]at bx
       cases bx
    obtain⟨o,au,F,ad,a2,aZ,ci,bM,ba⟩:=jy aj G;rw[F]at aE;injection aE with aE;subst aE;obtain⟨c,bz,a1,bD,cn,cb,bC,cm⟩:=pV aj b6 R aQ u i J;have bT:i<(ops.toList.take m).length:=Qg
    have bV:(ops.toList.take m)[i]=o:=by
     have:=(Array.getElem?_eq_some_iff.1 F).2;simp[this]
    rw[ap bT,bV]at a1;have aX:gF ops o a c:=λt y=>by
     by_cases hex: ∃(k:Nat) (aa:Oper),k<m/\ops[k]? =some aa/\aa.dst=some t
     ·obtain⟨k,aa,ax,aq,ar⟩:=hex;have bt:=ba k ax aa t aq ar y;have bU:k<i:=by
       obtain⟨e,aM,bc,bn⟩:=(kf F).1 bt;have:=rZ aj F e aM bc;omega
      exact(bC k aa t bU (aN k bt) aq ar).symm
     ·rw[u.base t (λi aa G aq ar=>hex ⟨i,aa,G,aq,ar⟩),cb t (λi aa G aq ar=>hex ⟨i,aa,G,aq,ar⟩)]
    have bL:a.tmps.size=c.tmps.size:=by rw[u.size,bD]
    have ca:jX ops (λj=>(l.setIfInBounds i true).getD j false=true):=λj k z br=>by
     have bE: ∀j,(l.setIfInBounds i true).getD j false=if j=i then true else l.getD j false:=λj=>by
      simp only[az,bI];by_cases R:i=j
      ·subst R;simp[ag,aA]
      ·rw[if_neg R,if_neg (λe=>R e.symm)]
     simp only[bE]at z⊢;by_cases X:j=i
     ·subst X;by_cases am:k=j
      ·rw[if_pos am]
      ·rw[if_neg am];exact aN k br
     ·rw[if_neg X]at z;by_cases am:k=i
      ·rw[if_pos am]
      ·rw[if_neg am];exact aQ j k z br
    -- the step: a value v in dX au
    have bf: ∀v w',(if late=some i then U h w' else T h w')->Dy P ops tab U w0 i o au (a.put o.dst v)->(Region.wanted o (yielded ops a.tmps)=true-> ∀H A,tab i=some (H,A)->A v w')->(nw i=true-> ∀g,pB v=some g->h.heap.size<=g)->
      mR P ops pre (U w0) WO N (ops.size-m+n) (l.setIfInBounds i true) (a.put o.dst v) w':=by
     intro v w' av b7 b8 bu;have bl:U h w':=by
      by_cases ag:late=some i
      ·rw[if_pos ag]at av;exact av
      ·rw[if_neg ag]at av;exact bd _ _ av
     have af: ∀t,dX (a.put o.dst v) t=if t=au then v else dX a t:=λt=>by rw[ad];exact iv _ _ _ _ (by rw[u.size];exact a2)
     have a6: ∀(j:Nat) (V:Oper) (I:Nat),(l.setIfInBounds i true).getD j false=true->j≠i->j<m->ops[j]? =some V->V.dst=some I->l.getD j false=true/\I≠au/\gF ops V (a.put o.dst v) a:=by
      intro j V I z X ai d w;have aH:l.getD j false=true:=by
       simp only[az,bI]at z⊢;rw[if_neg (λe=>X e.symm)]at z;exact z
      refine⟨aH,λe=>bM j ai X V d (by rw[w,e]),λt y=> ?_⟩;rw[af];by_cases htd:t=au
      ·subst htd;obtain⟨bF,cH,ao,_,_,_,_,_,bS⟩:=jy aj ai;rw[d]at ao;injection ao with ao;subst ao;have:=aQ j i aH (bS i G o t F ad y);simp only[]at this;rw[aP i aA,Z]at this
       cases this
      ·rw[if_neg htd]
     refine ih _ _ _ ?_ (by simpa using ag) ?_ ca ⟨b5 _ _ _ u.step bl,?_,by rw[eC,u.size],by rw[jR,u.defers],?_,?_,?_,?_⟩
     ·have:=xZ l i Z m;rw[if_pos G]at this;omega
     ·intro j z bR;rw[qT _ _ _ J,if_neg J];exact bA j z bR
     ·intro bv;have bQ:late≠some i:=λe=>bv i e (by simp[az,ag,aA]);rw[if_neg bQ]at av;refine cl _ _ _ (u.early λx aY a4=>bv x aY ?_) av;simp only[az,bI]at a4⊢;by_cases hxi:i=x
      ·subst hxi;simp[ag,aA]
      ·rw[if_neg hxi];exact a4
     ·intro t y;rw[af,if_neg (λe=>y i o G F (by rw[ad,e]))];exact u.base t y
     ·intro j V I z ai d w;by_cases X:j=i
      ·subst X;rw[F]at d;injection d with d;subst d;rw[ad]at w;injection w with w;subst w;exact b7
      ·obtain⟨aH,aw,aD⟩:=a6 j V I z X ai d w;obtain⟨bF,_,ao,_,_,bO,_,_⟩:=jy aj ai;rw[d]at ao;injection ao with ao;subst ao;have bo:=u.ok j V I aH ai d w;unfold Dy at bo⊢;rw[aD.wanted (eC _ _ _),aD.exec bO,af,if_neg aw];exact bo
     ·intro j V I z ai d w aS H A y;rw[af];by_cases X:j=i
      ·subst X;rw[F]at d;injection d with d;subst d;rw[ad]at w;injection w with w;subst w;rw[if_pos rfl];have bN:gF ops o (a.put o.dst v) a:=λt a8=>by
        rw[af,if_neg];intro e;subst e;have:=aN j (ba j G o t F ad a8);rw[aP j aA,Z]at this
        cases this
       exact b8 (by rw[<-bN.wanted (eC _ _ _)];exact aS) H A y
      ·obtain⟨aH,aw,aD⟩:=a6 j V I z X ai d w;rw[if_neg aw];have aO:=u.fact j V I aH ai d w (by rw[<-aD.wanted (eC _ _ _)];exact aS) H A y;by_cases ag:late=some i
       ·exact cj j H A (λe=>X (by rw[ag]at e;injection e with e;exact e.symm)) y _ _ _ aO bl
       ·rw[if_neg ag]at av;exact ck j H A y _ _ _ aO av
     ·intro j k V ae I al z aG ai ax d ay w an a9 aF aw aS aR g aL aI;have a7: ∀(k:Nat) (ae:Oper) (al:Nat),(l.setIfInBounds i true).getD k false=true->k≠i->k<m->ops[k]? =some ae->ae.dst=some al->nw k=true->Region.wanted ae (yielded ops (a.put o.dst v).tmps)=true->
        l.getD k false=true/\Region.wanted ae (yielded ops a.tmps)=true/\dX (a.put o.dst v) al=dX a al/\ ∀g,pB (dX a al)=some g->g<h.heap.size:=λk ae al aG am ax aj an aF aR=>by
       obtain⟨bq,aw,aD⟩:=a6 k ae al aG am ax aj an;have bh:Region.wanted ae (yielded ops a.tmps)=true:=by rw[<-aD.wanted (eC _ _ _)];exact aR
       refine⟨bq,bh,by rw[af,if_neg aw],λg bb=> ?_⟩;obtain⟨H,A,y,bP⟩:=bB k aF;exact bP _ _ (u.fact k ae al bq ax aj an bh H A y) g bb
      by_cases X:j=i
      ·subst X;rw[F]at d;injection d with d;subst d;rw[ad]at w;injection w with w;subst w;rw[af,if_pos rfl]at aL;obtain⟨_,_,a5,aV⟩:=a7 k ae al aG (λe=>aw e.symm) ax ay an aF aR;rw[a5]at aI;have Z:=bu a9 g aL;have aU:=aV g aI;omega
      ·obtain⟨bK,bJ,a5,aV⟩:=a7 j V I z X ai d w a9 aS;rw[a5]at aL;by_cases am:k=i
       ·subst am;rw[F]at ay;injection ay with ay;subst ay;rw[ad]at an;injection an with an;subst an;rw[af,if_pos rfl]at aI;have Z:=bu aF g aI;have aU:=aV g aL;omega
       ·obtain⟨bH,bG,cc,_⟩:=a7 k ae al aG am ax ay an aF aR;rw[cc]at aI;exact u.pair j k V ae I al bK bH ai ax d ay w an a9 aF aw bJ bG g aL aI
    have aW: ∀v,gF ops o (a.put o.dst v) a:=λv t a8=>by
     have af: ∀t,dX (a.put o.dst v) t=if t=au then v else dX a t:=λt=>by rw[ad];exact iv _ _ _ _ (by rw[u.size];exact a2)
     rw[af,if_neg];intro e;subst e;have:=aN i (ba i G o t F ad a8);rw[aP i aA,Z]at this
     cases this
    have own: ∀v,dX (a.put o.dst v) au=v:=λv=>by rw[ad,iv _ _ _ _ (by rw[u.size];exact a2),if_pos rfl]
    obtain⟨_,aJ⟩:=a1
    cases aB:Region.wanted o (yielded ops a.tmps)with
    |true=>
     have aJ:=aJ (by rw[<-aX.wanted bL];exact aB);refine b4.run F aB ci ?_
     cases y:tab i with
     |none=>
      rw[y]at aJ;obtain⟨v,bk,_⟩:=aJ;unfold Oper.wp;rw[aX.exec aZ,bk h u.step];simp only[Oper.upon];refine⟨u.step,bf v h (by split;exact bd _ _ (a3 h);exact a3 h) ⟨λaC=> ?_,λ_=> ?_⟩ (λ_ H A R=>by rw[y]at R;cases R) (λbe=>by obtain⟨_,_,R,_⟩:=bB i be;rw[y]at R;cases R)⟩
      ·rw[(aW v).wanted (eC _ _ _),aB]at aC;cases aC
      ·rw[y];intro bg bj;rw[(aW v).exec aZ,aX.exec aZ,own];exact bk bg bj
     |some sf=>
      obtain⟨H,A⟩:=sf;rw[y]at aJ;obtain⟨_,cs,_⟩:=aJ;refine Yl.to (c:=c) (by rw[u.defers,cn]) ad (by rw[bD];exact a2) (aX.exec aZ) (cs h (by split;exact u.early (λx aY a4=>by rename_i cz;rw[cz]at aY;injection aY with aY;subst aY;rw[aP i aA,Z]at a4;cases a4);exact u.step) λp af ha=> ?_) ?_
      ·obtain⟨bp,op,co,cp,cq,ce,ch,cu,aO,ct⟩:=cm p af;have b9:l.getD p.1 false=true:=mn (D:=λi=>l.getD i false=true) aQ f i p.1 aN ha;rw[aO,bC p.1 op co bp b9 ce ch];exact u.fact p.1 op co b9 J ce ch (ct b9) cp cq cu
      ·rintro v w' ⟨bm,cF,aO,cy⟩;refine⟨(b5 _ _ _ u.step (by by_cases ag:late=some i;rw[if_pos ag]at bm;exact bm;rw[if_neg ag]at bm;exact bd _ _ bm)),bf v w' bm ⟨λaC=> ?_,λ_=> ?_⟩ (λ_ cp cq R=> ?_) cy⟩
       ·rw[(aW v).wanted (eC _ _ _),aB]at aC;cases aC
       ·rw[y,own];exact cF
       ·rw[y]at R;injection R with R;injection R with a5 aV;subst aV;exact aO
    |false=>
     have bi:=aB;refine b4.skip F aB (u.step) ?_;refine bf undef h (by split;exact bd _ _ (a3 h);exact a3 h) ⟨λ_=>own undef,λaC=> ?_⟩ (λR=>by rw[bi]at R;cases R) (λ_ g bb=>by cases bb);rw[(aW undef).wanted (eC _ _ _),bi]at aC
     cases aC
theorem vZ {S':World->Prop} (u:mM P QQ ops S' WO): ∀(o:Nat) (l:Array Bool) (d:Act) (a:World),mR P ops [] S WO N o l d a->nK WO N ops o l d a
 |0,_,_,_,h=>h
 |o+1,l,d,a,h=>⟨h.1,λi hi=>u.mono (λd a w=>vZ u o _ d a w) (h.2 i hi)⟩
theorem pX {TL:Act->World->Prop} (z:rp P QQ ops WO) {d:Act} {a:World} (m f:Nat) (tab:DF) (late:Option Nat) (nw:Nat->Bool) (T U:World->World->Prop) (w:wg [] ops m d.tmps.size=true)
  (H: ∀(l:Array Bool) (d:Act) (a:World),l.size=ops.size->(∀i,i<ops.size->l.getD i true=decide (i<m))->TL d a->nK WO N ops (ops.size-m+0) l d a)
  (u: ∀a,T a a) (X: ∀d b c,U d b->U b c->U d c) (y: ∀d b,T d b->U d b) (I: ∀d b c,T d b->T b c->T d c) (aa: ∀i o h,tab i=some (o,h)-> ∀v a w',h v a->T a w'->h v w')
  (V: ∀i o h,late≠some i->tab i=some (o,h)-> ∀v a w',h v a->U a w'->h v w')
  (ad: ∀i,nw i=true-> ∃o h,tab i=some (o,h)/\ ∀v a,h v a-> ∀g,pB v=some g->g<a.heap.size)
  (ae:fM P QQ ops f tab late nw T U a.drew (λd A=> ∀w',U a.drew w'->(∀p∈A,p.2 w')->rr ops m nw (λ_=>True) d->TL d w') (ops.toList.take m) 0 d []):nK WO N ops ops.size (Array.replicate ops.size false) d a.drew:=by
 have G:ur m (Array.replicate ops.size false)=m:=by
  have: ∀k,k<=ops.size->ur k (Array.replicate ops.size false)=k:=by
   intro k
   induction k with
   |zero=>intro _;rfl
   |succ k ih=>
    intro ai;rw[nU,ih J,if_pos];simp[az,show k<ops.size from by omega]
  exact this m (r5 w)
 have:=sa (pre:=[]) (TL:=TL) rfl (λj R=>by cases R) H (z.toS (S:=U a.drew)) w (y _ _ (u a.drew)) X y I aa V u ad ae m (Array.replicate ops.size false) d a.drew G.symm Qe (λi hi _=>by simp[az,hi])
  (λi j hi=>by
   simp only[az,d_]at hi
   split at hi<;>simp at hi)
  ⟨y _ _ (u _),λ_=>u _,rfl,rfl,λ_ _=>rfl,λi F af hi=>by
   simp only[az,d_]at hi;split at hi<;>simp at hi,λi F af hi=>by
   simp only[az,d_]at hi;split at hi<;>simp at hi,λi j ah ag Z aj hi=>by
   simp only[az,d_]at hi
   split at hi<;>simp at hi⟩
 rw[show ops.size-m+m=ops.size from by have:=r5 w;omega]at this;exact vZ (z.toS (S:=U a.drew)) _ _ _ _ this
theorem fM.fin {P:Program} {ops:Array Oper} {f:Nat} {tab:DF} {late:Option Nat} {nw:Nat->Bool} {T U:World->World->Prop} {w0:World} {G F:Act->List (Nat×(World->Prop))->Prop} (u: ∀d a,G d a->F d a):
  ∀(l:List Oper) (i:Nat) (d:Act) (a:List (Nat×(World->Prop))),fM P QQ ops f tab late nw T U w0 G l i d a->fM P QQ ops f tab late nw T U w0 F l i d a
 | [],_,d,a,h=>u d a h
 |o::rest,i,d,a,h=>by
  refine⟨λy=>fM.fin u rest _ _ _ (h.1 y),λy=> ?_⟩;have w:=h.2 y
  cases ht:tab i with
  |none=>
   rw[ht]at w;obtain⟨v,A,z⟩:=w;exact⟨v,A,fM.fin u rest _ _ _ z⟩
  |some sf=>
   obtain⟨X,aa⟩:=sf;rw[ht]at w;obtain⟨A,z,V⟩:=w;exact⟨A,z,λv R=>fM.fin u rest _ _ _ (V v R)⟩
theorem wF (w:rp P QQ ops WO) (d:Ig ops m size=true) (l:Array Bool) (h:Act) (a:World) (u:l.size=ops.size) (y: ∀i,i<ops.size->l.getD i true=decide (i<m)) (o:pH WO N (List.range' m (ops.size-m)) h a):nK WO N ops (ops.size-m+0) l h a:=
 uw (w.toS (S:=λ_=>True)) (pN d).1 (pN d).2 (ops.size-m+0) m l h a J (ah _) (r5 (pN d).1) u y o
theorem jw {Q:Exit->Act->World->Prop}:rp P Q ops (wpOp P ops Q) where
 mono:=wpOp_mono
 skip:=λh d a=>by unfold wpOp;simp only[h,d];exact a
 run:=λh d _ a=>by
  unfold wpOp;simp only[h,d,if_true];refine .inl ?_;unfold Oper.wp at*;generalize (execOp _ _).run P _=r at*
  cases r with
  |ok x w'=>
   cases x<;>simp only[Oper.upon]at a⊢ <;>first
    |exact a
    |exact Calls.mono a (λe y o=>by cases e<;>first|exact o|exact o _ rfl|exact(by obtain⟨x,u,w⟩:=o;exact⟨x,u,w x rfl⟩))
  |halt x w'=>cases x<;>simp only[Oper.upon]at a⊢;exact a _ rfl
theorem nJ {Q:Exit->Act->World->Prop}: ∀(f:Nat) (l:Array Bool) (d:Act) (a:World),nK (wpOp P ops Q) (Q .normal) ops f l d a->wpAny P .any ops Q f l d a
 |0,_,_,_,h=>h
 |f+1,_,_,_,h=>⟨h.1,λi hi=>wpOp_mono (λd a=>nJ f _ d a) (h.2 i hi)⟩
theorem rU {Q:Exit->Act->World->Prop}: ∀(l:List Nat),pH (wpOp P ops Q) (Q .normal) l=wpOps P ops Q l
 | []=>by funext a w;rfl
 |i::l=>by funext a w;rw[wpOps_cons,<-rU l];rfl
theorem ux {Q:Exit->Act->World->Prop} (m:Nat):pH (wpOp P ops Q) (Q .normal) (List.range' m (ops.size-m))=wpList P ops Q (ops.toList.drop m):=by
 rw[rU,<-wpOps_eq_wpList (P:=P) (ops:=ops) (Q:=Q) (ops.toList.drop m) m (λj=>by simp),bK,Array.length_toList]
theorem jG {id:Nat} {Q:Exit->Act->World->Prop} {a:Act} {d:World} (m f:Nat) (tab:DF) (late:Option Nat) (T U:World->World->Prop) (z:P.follows .mixedOrders=true) (y:Ig ops m a.tmps.size=true)
  (R: ∀d,T d d) (F: ∀a b c,U a b->U b c->U a c) (V: ∀a b,T a b->U a b) (X: ∀a b c,T a b->T b c->T a c) (G: ∀i u h,tab i=some (u,h)-> ∀v d w',h v d->T d w'->h v w')
  (A: ∀i u h,late≠some i->tab i=some (u,h)-> ∀v d w',h v d->U d w'->h v w')
  (o:fM P Q ops f tab late (λ_=>false) T U d.drew (λa w=> ∀w',U d.drew w'->(∀p∈w,p.2 w')->wpList P ops Q (ops.toList.drop m) a w') (ops.toList.take m) 0 a []):(Code.region id ops true).wp P Q a d:=by
 refine wp_region_any z (nJ _ _ _ _ (pX jw m f tab late (λ_=>false) T U (pN y).1 (wF jw y) R F V X G A (λi o=>by cases o) ?_));rw[ux];exact fM.fin (λa w o w' I aa _=>o w' I aa) _ _ _ _ o
def uO (n m:Nat):Array Bool:=Array.ofFn (n:=n) λi=>decide (i.val<m)
theorem Bz {n m:Nat} {l:Array Bool} (d:l.size=n) (h: ∀i,i<n->l.getD i true=decide (i<m)):l=uO n m:=by
 apply Array.ext
 ·simp[uO,d]
 ·intro i hi o;have a:=h i J;simp only[az,bX hi,bZ]at a;simp only[uO,Array.getElem_ofFn];exact a
theorem oU {id:Nat} {Q:Exit->Act->World->Prop} {a:Act} {d:World} (m f:Nat) (tab:DF) (late:Option Nat) (T U:World->World->Prop) (A:P.follows .mixedOrders=true) (z:wg [] ops m a.tmps.size=true)
  (X: ∀d,T d d) (R: ∀a b c,U a b->U b c->U a c) (aa: ∀a b,T a b->U a b) (I: ∀a b c,T a b->T b c->T a c) (V: ∀i u o,tab i=some (u,o)-> ∀v d w',o v d->T d w'->o v w')
  (G: ∀i u o,late≠some i->tab i=some (u,o)-> ∀v d w',o v d->U d w'->o v w')
  (h:fM P Q ops f tab late (λ_=>false) T U d.drew (λa w=> ∀w',U d.drew w'->(∀p∈w,p.2 w')->nK (wpOp P ops Q) (Q .normal) ops (ops.size-m) (uO ops.size m) a w') (ops.toList.take m) 0 a []):(Code.region id ops true).wp P Q a d:=by
 refine wp_region_any A (nJ _ _ _ _ (pX jw m f tab late (λ_=>false) T U z (λl a d F h y=>by rw[Bz F h];exact y) X R aa I V G (λi h=>by cases h) ?_));exact fM.fin (λa w h w' ad H _=>h w' ad H) _ _ _ _ h
theorem gn {Q:Exit->Act->World->Prop} {f:Nat} {l:Array Bool} {h:Act} {d:World} (a:List Nat) (o:Region.ready .any ops l=a) (u:a≠ []) (w: ∀i,i∈a->wpOp P ops Q i (nK (wpOp P ops Q) (Q .normal) ops f (l.setIfInBounds i true)) h d):nK (wpOp P ops Q) (Q .normal) ops (f+1) l h d:=by
 subst o;exact⟨λe=>absurd e u,w⟩
theorem eF {Q:Exit->Act->World->Prop} {i:Nat} {K:Act->World->Prop} {d:Act} {h:World} {a:Oper} (u:ops[i]? =some a) (o:Region.wanted a (yielded ops d.tmps)=true) (w:a.wp P d h K Q):wpOp P ops Q i K d h:=by
 unfold wpOp;simp only[u,o,if_true];exact .inl w
theorem kJ {Q:Exit->Act->World->Prop} {l:Array Bool} {d:Act} {a:World} (h:Region.ready .any ops l=[]) (o:Q .normal d a):nK (wpOp P ops Q) (Q .normal) ops 0 l d a:=⟨h,o⟩
end
abbrev Av:=Nat×(Value->Prop)×(Value->World->Prop)
def gg:List Av->DF
 | []=>λ_=>none
 |p::l=>λi=>if i=p.1 then some p.2 else gg l i
def lY (T:World->World->Prop):List Av->Prop
 | []=>True
 |p::l=>(∀v w w',p.2.2 v w->T w w'->p.2.2 v w')/\lY T l
theorem lY.out {T:World->World->Prop}: ∀{l:List Av},lY T l-> ∀i u h,gg l i=some (u,h)-> ∀v o w',h v o->T o w'->h v w'
 | [],_,i,u,h,d=>by simp[gg]at d
 |p::l,hs,i,u,h,d=>by
  simp only[gg]at d;split at d
  ·injection d with d;intro v o w' y w;have:=hs.1 v o w';rw[d]at this;exact this y w
  ·exact lY.out hs.2 i u h d
section
variable {QQ:Exit->Act->World->Prop}
variable {f:Nat} {tab:DF} {late:Option Nat} {nw:Nat->Bool} {T U:World->World->Prop} {w0:World} {Fin:Act->List (Nat×(World->Prop))->Prop} {o:Oper} {rest:List Oper} {i:Nat} {a:Act} {Φ:List (Nat×(World->Prop))}
theorem bU (h:Region.wanted o (yielded ops a.tmps)=false) (u:fM P QQ ops f tab late nw T U w0 Fin rest (i+1) (a.put o.dst undef) Φ):fM P QQ ops f tab late nw T U w0 Fin (o::rest) i a Φ:=
 ⟨λ_=>u,λd=>by rw[h]at d;cases d⟩
theorem zf (v:Value) (u:Region.wanted o (yielded ops a.tmps)=true) (w:tab i=none) (y: ∀d,U w0 d->(execOp a.eval o).run P d=.ok (.value v) d)
  (z:fM P QQ ops f tab late nw T U w0 Fin rest (i+1) (a.put o.dst v) Φ):fM P QQ ops f tab late nw T U w0 Fin (o::rest) i a Φ:=
 ⟨λh=>(by rw[u]at h;cases h),λ_=>by rw[w];exact⟨v,y,z⟩⟩
theorem cU (u:Value->Prop) (w:Value->World->Prop) (F:Region.wanted o (yielded ops a.tmps)=true) (G:tab i=some (u,w)) (X: ∃v,u v) (y:late≠some i)
  (A: ∀d,U w0 d->(∀p∈Φ,pA ops f i p.1=true->p.2 d)-> ∀(K:Act->World->Prop),(∀v w',T d w'->u v->w v w'->K (a.put o.dst v) w')->o.wp P a d K (Dx QQ))
  (ae: ∀v,u v->fM P QQ ops f tab late nw T U w0 Fin rest (i+1) (a.put o.dst v) ((i,w v)::Φ)) (V:nw i=false:=by rfl):fM P QQ ops f tab late nw T U w0 Fin (o::rest) i a Φ:=
 ⟨λh=>(by rw[F]at h;cases h),λ_=>by
  rw[G]
  exact⟨X,λd z R K aa=>A d (by rw[if_neg y]at z;exact z) R K λv w' ad H I=>aa v w' ⟨by rw[if_neg y];exact ad,H,I,λh=>by rw[V]at h;cases h⟩,ae⟩⟩
theorem sx (v:Value) (w: ∀d,U w0 d->(execOp a.eval o).run P d=.ok (.value v) d) (y:fM P QQ ops f tab late nw T U w0 Fin rest (i+1) (a.put o.dst v) Φ)
  (h:Region.wanted o (yielded ops a.tmps)=true:=by rfl) (u:tab i=none:=by rfl):fM P QQ ops f tab late nw T U w0 Fin (o::rest) i a Φ:=zf v h u w y
theorem so {d:Value->Prop} {u:Value->World->Prop} (w: ∀h,U w0 h->(∀p∈Φ,pA ops f i p.1=true->p.2 h)-> ∀(K:Act->World->Prop),(∀v w',T h w'->d v->u v w'->K (a.put o.dst v) w')->o.wp P a h K (Dx QQ))
  (R: ∀v,d v->fM P QQ ops f tab late nw T U w0 Fin rest (i+1) (a.put o.dst v) ((i,u v)::Φ)) (y:Region.wanted o (yielded ops a.tmps)=true:=by rfl) (z:tab i=some (d,u):=by rfl) (G: ∃v,d v:=by exact⟨_,rfl⟩) (F:late≠some i:=by simp) (A:nw i=false:=by rfl):fM P QQ ops f tab late nw T U w0 Fin (o::rest) i a Φ:=cU d u y z G F w R A
theorem dL (u:Value->Prop) (w:Value->World->Prop) (F:Region.wanted o (yielded ops a.tmps)=true) (G:tab i=some (u,w)) (X: ∃v,u v) (y:late=some i)
  (A: ∀d,T w0 d->(∀p∈Φ,pA ops f i p.1=true->p.2 d)-> ∀(K:Act->World->Prop),(∀v w',U d w'->u v->w v w'->K (a.put o.dst v) w')->o.wp P a d K (Dx QQ))
  (ae: ∀v,u v->fM P QQ ops f tab late nw T U w0 Fin rest (i+1) (a.put o.dst v) ((i,w v)::Φ)) (V:nw i=false:=by rfl):fM P QQ ops f tab late nw T U w0 Fin (o::rest) i a Φ:=
 ⟨λh=>(by rw[F]at h;cases h),λ_=>by
  rw[G]
  exact⟨X,λd z R K aa=>A d (by rw[if_pos y]at z;exact z) R K λv w' ad H I=>aa v w' ⟨by rw[if_pos y];exact ad,H,I,λh=>by rw[V]at h;cases h⟩,ae⟩⟩
end
end
def au (w w':World):Prop:=RowKit.Below w.heap.size w w'
theorem au.refl (a:World):au a a:=RowKit.Below.refl _ _
theorem au.size {a w':World} (d:au a w'):a.heap.size<=w'.heap.size:=RowKit.Below.size d
theorem au.obj {a w':World} (h:au a w') {b:Nat} (d:b<a.heap.size):w'.heap[b]? =a.heap[b]? :=RowKit.Below.block h b d
theorem au.trans {d b c:World} (a:au d b) (k:au b c):au d c:=RowKit.Below.trans a (RowKit.Below.mono k a.size)
theorem au.un {d w':World} (a:au d.drew w'):au d w':=⟨a.os,a.tape,a.output,a.size,a.block⟩
theorem aB {P:Program} {ops:Array Oper} {id:Nat} {Q:Exit->Act->World->Prop} {a:Act} {d:World} (m f:Nat) (l:List Av) (y:P.follows .mixedOrders=true) (w:Ig ops m a.tmps.size=true) (o:lY au l)
  (h:fM P Q ops f (gg l) none (λ_=>false) au au d.drew (λa u=> ∀w',au d.drew w'->(∀p∈u,p.2 w')->wpList P ops Q (ops.toList.drop m) a w') (ops.toList.take m) 0 a []):(Code.region id ops true).wp P Q a d:=
 jG m f (gg l) none au au y w au.refl (λ_ _ _=>au.trans) (λ_ _ h=>h) (λ_ _ _=>au.trans) o.out (λi z A _=>o.out i z A) h
def qw (x:Nat) (T:World->World->Prop):List Av->Prop
 | []=>True
 |p::l=>(p.1=x\/ ∀v w w',p.2.2 v w->T w w'->p.2.2 v w')/\qw x T l
theorem qw.out {x:Nat} {T:World->World->Prop}: ∀{l:List Av},qw x T l-> ∀i u h,some x≠some i->gg l i=some (u,h)-> ∀v o w',h v o->T o w'->h v w'
 | [],_,i,u,h,_,d=>by simp[gg]at d
 |p::l,hs,i,u,h,hx,d=>by
  simp only[gg]at d;split at d
  ·rename_i hi;injection d with d;intro v o w' y w;have:=(hs.1.resolve_left (λe=>hx (by rw[hi,e]))) v o w';rw[d]at this;exact this y w
  ·exact qw.out hs.2 i u h hx d
theorem au.grownBy {d w':World} (a:au d w') (row:Option Nat):d.grownBy w' row:=⟨a.os,a.tape,a.output,a.size,λk h _=>a.obj h⟩
theorem an {h b c:World} {row:Option Nat} (a:h.grownBy b row) (k:b.grownBy c row):h.grownBy c row:=
 ⟨k.os.trans a.os,k.tape.trans a.tape,k.output.trans a.output,ay a.size k.size,λi hi d=>(k.block i (aA hi a.size) d).trans (a.block i hi d)⟩
theorem aJ {d w':World} {row:Option Nat} (a:d.drew.grownBy w' row):d.grownBy w' row:=⟨a.os,a.tape,a.output,a.size,a.block⟩
theorem cS {P:Program} {ops:Array Oper} {id:Nat} {Q:Exit->Act->World->Prop} {d:Act} {a:World} (m f:Nat) (l:List Av) (x:Nat) (row:Option Nat) (z:P.follows .mixedOrders=true) (y:Ig ops m d.tmps.size=true)
  (w:lY au l) (u:qw x (λa w'=>a.grownBy w' row) l)
  (h:fM P Q ops f (gg l) (some x) (λ_=>false) au (λa w'=>a.grownBy w' row) a.drew (λd o=> ∀w',a.drew.grownBy w' row->(∀p∈o,p.2 w')->wpList P ops Q (ops.toList.drop m) d w') (ops.toList.take m) 0 d []):(Code.region id ops true).wp P Q d a:=
 jG m f (gg l) (some x) au (λa w'=>a.grownBy w' row) z y au.refl (λ_ _ _=>an) (λ_ _ h=>h.grownBy _) (λ_ _ _=>au.trans) w.out u.out h
theorem lr {P:Program} {ops:Array Oper} {id:Nat} {Q:Exit->Act->World->Prop} {d:Act} {a:World} (m f:Nat) (l:List Av) (x:Nat) (row:Option Nat) (z:P.follows .mixedOrders=true) (y:wg [] ops m d.tmps.size=true)
  (w:lY au l) (u:qw x (λa w'=>a.grownBy w' row) l)
  (h:fM P Q ops f (gg l) (some x) (λ_=>false) au (λa w'=>a.grownBy w' row) a.drew (λd o=> ∀w',a.drew.grownBy w' row->(∀p∈o,p.2 w')->nK (wpOp P ops Q) (Q .normal) ops (ops.size-m) (uO ops.size m) d w') (ops.toList.take m) 0 d []):(Code.region id ops true).wp P Q d a:=
 oU m f (gg l) (some x) au (λa w'=>a.grownBy w' row) z y au.refl (λ_ _ _=>an) (λ_ _ h=>h.grownBy _) (λ_ _ _=>au.trans) w.out u.out h
def eA (Q:Exit->Act->World->Prop):Exit->Act->World->Prop:=λe a w=>match e with
 | .normal=>Q .normal a w
 | _=>False
theorem eA.imp {Q:Exit->Act->World->Prop}: ∀(e:Exit) (d:Act) (a:World),eA Q e d a->Q e d a:=λe d a h=>by
 cases e<;>first|exact h|exact(h:False).elim
section
variable {P:Program} {ops:Array Oper} {Q:Exit->Act->World->Prop} {S:World->Prop}
def Hm (P:Program) (ops:Array Oper) (Q:Exit->Act->World->Prop) (S:World->Prop) (i:Nat) (K:Act->World->Prop) (a:Act) (w:World):Prop:=wpOp P ops Q i (λa' w'=>S w'/\K a' w') a w
theorem lX:mM P Q ops S (Hm P ops Q S) where
 mono:=λa=>wpOp_mono λz u o=>⟨o.1,a z u o.2⟩
 skip:=λh d w a=>by unfold Hm wpOp;simp only[h,d];exact⟨w,a⟩
 run:=λh d y a=>by
  have:=jw (P:=P) (ops:=ops) (Q:=Q).run h d y a;exact this
def pG (P:Program) (QQ:Exit->Act->World->Prop) (ops:Array Oper) (N:Act->World->Prop) (S:World->Prop):List Oper->Act->World->Prop
 | [],a,w=>N a w
 |o::l,a,w=>Region.wanted o (yielded ops a.tmps)=true/\(∀c,o.op≠ .defer c)/\o.wp P a w (λa' w'=>S w'/\pG P QQ ops N S l a' w') (Dx QQ)
theorem aN {h:Exit->Act->World->Prop} {N:Act->World->Prop} {a:Oper} {l:List Oper} {d:Act} {o:World} (w:Region.wanted a (yielded ops d.tmps)=true) (y: ∀c,a.op≠ .defer c)
  (F: ∀K:Act->World->Prop,(∀u w',S w'->pG P h ops N S l u w'->K u w')->a.wp P d o K (Dx h)):pG P h ops N S (a::l) d o:=⟨w,y,F _ λ_ _ A z=>⟨A,z⟩⟩
theorem cQ {o Q:Exit->Act->World->Prop} {d:Act} {a:World} (h:wpList P ops Q [] d a):pG P o ops (Q .normal) S [] d a:=h
theorem qr {N:Act->World->Prop}: ∀(n k:Nat) (d:Act) (a:World),k+n=ops.size->pG P Q ops N S (ops.toList.drop k) d a->pH (Hm P ops Q S) N (List.range' k n) d a
 |0,k,d,a,o,h=>by
  rw[aK Qg]at h;exact h
 |n+1,k,d,a,o,h=>by
  have A:k<ops.toList.length:=Qg
  rw[ap A]at h;obtain⟨R,G,F⟩:=h;have z:ops[k]? =some ops.toList[k]:=Qe
  show Hm P ops Q S k (pH (Hm P ops Q S) N (List.range' (k+1) n)) d a;refine lX.run z R G ?_;refine stepOk_mono F λV w' w=>⟨w.1,qr n (k+1) V w' J w.2⟩
where
 stepOk_mono {u:Oper} {d:Act} {a:World} {K y:Act->World->Prop} (h:u.wp P d a K (Dx Q)) (o: ∀d a,K d a->y d a):u.wp P d a y (Dx Q):=Oper.wp_mono o h
variable {m size:Nat} {pre:List Nat}
theorem pz {R:List Nat} (I:Region.noSelect ops=true) (X:DP ops R m=true) (ad: ∀c h d,¬Q (.panic c) h d): ∀(o:Nat) (l:Array Bool) (h:Act) (d:World),S d->jX ops (λi=>l.getD i false=true)->l.size=ops.size->
  mR P ops R S (Hm P ops Q S) (Q .normal) o l h d->wpAnyH P .any ops Q S o l h d
 |0,_,_,_,_,_,_,a=>a
 |o+1,l,h,d,hS,hC,hl,a=>by
  have af: ∀i,i∈Region.ready .any ops l->jX ops (λj=>(l.setIfInBounds i true).getD j false=true):=λi hi j k H ag=>by
   obtain⟨_,ai,w,ae⟩:=fY.1 hi;have ap:=(Array.getElem?_eq_some_iff.1 w).1;have ah: ∀j,(l.setIfInBounds i true).getD j false=if j=i then true else l.getD j false:=λj=>by
    simp only[az,bI];by_cases a:i=j
    ·subst a;simp[hl,ap]
    ·rw[if_neg a,if_neg (λe=>a e.symm)]
   simp only[ah]at H⊢;by_cases hki:k=i
   ·rw[if_pos hki]
   ·rw[if_neg hki];by_cases F:j=i
    ·subst F;obtain⟨e,z,A,u⟩:=(kf w).1 ag;rw[<-u];exact ae e z A
    ·rw[if_neg F]at H;exact hC j k H ag
  cases hft:k_ ops R l with
  |some i=>
   simp only[mR,hft]at a;obtain⟨v,ai,w,aj,Z⟩:=a;obtain⟨ao,hi⟩:=pP hft;refine wpAnyH_first w (Region.noSelect_spec I) (λc h d a=>absurd a (ad c _ _)) o l h d ?_ hi aj hS (pz I X ad o _ _ _ hS (af i hi) (by simpa using hl) Z);intro j ar aa F V am;refine yZ X ao w aa F ?_ ?_
   ·rw[Bool.eq_false_iff];intro G;obtain⟨e,z,A,u⟩:=(kf aa).1 G;exact am e z A u
   ·rw[Bool.eq_false_iff];intro ha;obtain⟨_,au,al,ae⟩:=fY.1 hi
    have G:=mn (D:=λi=>l.getD i false=true) hC 4 i j (λk y=>by
     obtain⟨e,z,A,u⟩:=(kf al).1 y
     rw[<-u];exact ae e z A) ha
    have an:j<l.size:=by rw[hl];exact(Array.getElem?_eq_some_iff.1 aa).1
    simp only[az,bX an,bZ]at G V;rw[G]at V
    cases V
  |none=>
   simp only[mR,hft]at a;refine⟨a.1,λi hi=>wpOp_mono (λaq w' y=>⟨y.1,pz I X ad o _ aq w' y.1 (af i hi) (by simpa using hl) y.2⟩) (a.2 i hi)⟩
theorem lq (U:World->World->Prop) (o: ∀a,U a a) (aa: ∀d b c,U d b->U b c->U d c) {id:Nat} {d:Act} {a:World} (m f:Nat) (l:List Av) (w u:List Nat) (ai:P.follows .mixedOrders=true) (y:Hk u ops m d.tmps.size=true) (R:DP ops u m=true) (af:Region.noSelect ops=true) (ae:(u.all λj=>(gg l j).isNone)=true) (V:lY U l)
  (ag: ∀i,w.contains i=true-> ∃F A,gg l i=some (F,A)/\ ∀v a,A v a-> ∀g,pB v=some g->g<a.heap.size)
  (h:fM P (eA Q) ops f (gg l) none (λi=>w.contains i) U U a.drew (λd G=> ∀w',U a.drew w'->(∀p∈G,p.2 w')->rr ops m (λi=>w.contains i) (λ_=>True) d->pG P (eA Q) ops (Q .normal) (U a.drew) (ops.toList.drop m) d w') (ops.toList.take m) 0 d []):(Code.region id ops true).wp P Q d a:=by
 refine Code.wp_mono eA.imp (wp_region_held (S:=U a.drew) ai ?_);have X:=r5 (pN y).1;have an: ∀i,(Array.replicate ops.size false).getD i false=false:=λi=>by
  simp only[az,d_];split<;>rfl
 have z: ∀i,¬(Array.replicate ops.size false).getD i false=true:=λi h=>by rw[an]at h;cases h
 have I:jX ops (λi=>(Array.replicate ops.size false).getD i false=true):=λi j hi=>absurd hi (z i);have ad:ur m (Array.replicate ops.size false)=m:=by
  have: ∀k,k<=ops.size->ur k (Array.replicate ops.size false)=k:=by
   intro k
   induction k with
   |zero=>intro _;rfl
   |succ k ih=>
    intro ar;rw[nU,ih J,if_pos];simp[az,show k<ops.size from by omega]
  exact this m X
 refine pz (Q:=eA Q) af R (λc d a h=>h) _ _ _ _ (o _) I Qe ?_
 have:=sa (a0:=d) (pre:=u) (f:=f) R (λj aj=>by
   have:=List.all_eq_true.1 ae j aj
   simpa using this) (uw (S:=U a.drew) lX (pN y).1 (pN y).2 (ops.size-m+0) m · · · J (ah _) X · · ·) (lX (P:=P) (ops:=ops) (Q:=eA Q) (S:=U a.drew)) (pN y).1 (T:=U) (U:=U) (w0:=a.drew) (tab:=gg l) (late:=none) (nw:=λi=>w.contains i) (N:=eA Q .normal) (o _) aa (λ_ _ h=>h) aa
   V.out (λi F A _=>V.out i F A) o ag
   (fM.fin (λd G h w' am al Z=>qr _ _ _ _ J (h w' am al Z)) _ _ _ _ h) m (Array.replicate ops.size false) d a.drew ad.symm Qe (λi hi _=>by simp[az,hi]) I
   ⟨o _,λ_=>o _,rfl,rfl,λ_ _=>rfl,λi H ao hi=>absurd hi (z i),λi H ao hi=>absurd hi (z i),λi j aq ap av au hi=>absurd hi (z i)⟩
 rw[show ops.size-m+m=ops.size from by omega]at this;exact this
theorem dG {id:Nat} {d:Act} {a:World} (m f:Nat) (l:List Av) (o h:List Nat) (V:P.follows .mixedOrders=true) (F:Hk h ops m d.tmps.size=true) (z:DP ops h m=true) (G:Region.noSelect ops=true) (y:(h.all λj=>(gg l j).isNone)=true) (A:lY au l)
  (R: ∀i,o.contains i=true-> ∃aa u,gg l i=some (aa,u)/\ ∀v a,u v a-> ∀g,pB v=some g->g<a.heap.size)
  (X:fM P (eA Q) ops f (gg l) none (λi=>o.contains i) au au a.drew (λd w=> ∀w',au a.drew w'->(∀p∈w,p.2 w')->rr ops m (λi=>o.contains i) (λ_=>True) d->pG P (eA Q) ops (Q .normal) (au a.drew) (ops.toList.drop m) d w') (ops.toList.take m) 0 d []):(Code.region id ops true).wp P Q d a:=
 lq au au.refl (λ_ _ _=>au.trans) m f l o h V F z G y A R X
theorem cC {id:Nat} {a:Act} {d:World} (U:World->World->Prop) (V: ∀d,U d d) (R: ∀a b c,U a b->U b c->U a c) (m f:Nat) (l:List Av) (h:List Nat) (G:P.follows .mixedOrders=true) (A:Hk h ops m a.tmps.size=true) (y:DP ops h m=true) (F:Region.noSelect ops=true) (w:(h.all λj=>(gg l j).isNone)=true) (z:lY U l)
  (o:fM P (eA Q) ops f (gg l) none (λ_=>false) U U d.drew (λa u=> ∀w',U d.drew w'->(∀p∈u,p.2 w')->pG P (eA Q) ops (Q .normal) (U d.drew) (ops.toList.drop m) a w') (ops.toList.take m) 0 a []):(Code.region id ops true).wp P Q a d:=
 lq U V R m f l [] h G A y F w z (λi hi=>by cases hi) (fM.fin (λa u o w' aa X _=>o w' aa X) _ _ _ _ o)
end
def aI:=@au.refl
def dr:=@au.size
def sJ:=@au.trans
end Go.Proofs.YtoedmpgicdekmaaGreatDoor

