/- Parts of the proof. -/
import Derived.Test.YtoedmpgicdekmaaGreatDoorCl00
import Derived.Orders
import Derived.Tactics
import Derived.Below
import Derived.OrdersHeld
set_option maxRecDepth 100000
set_option maxHeartbeats 8000000
set_option linter.unusedVariables false
set_option linter.unusedSimpArgs false
set_option linter.defProp false
set_option linter.unusedSectionVars false
namespace Go.Proofs.YtoedmpgicdekmaaGreatDoor
open Go
theorem bA (a : Act) (d : Nat) (v : Value) : Act.put a (some d) v = { a with tmps := a.tmps.setIfInBounds d v } := rfl
theorem bo (a : Act) (v : Value) : Act.put a none v = a := rfl
theorem bx {d : Type _} (l : List d) (i : Nat) (a : d) : l.toArray.setIfInBounds i a = (l.set i a).toArray := a8 ..
theorem bw {d : Type _} (a b : d) (l : List d) : (a :: l).set 0 b = b :: l := rfl
theorem br {d : Type _} (a b : d) (l : List d) (n : Nat) : (a :: l).set (n + 1) b = a :: l.set n b := rfl
def dP (a:Act) (t:Nat):Value:=a.tmps.getD t undef
def ll (ops:Array Oper) (i j:Nat):Bool:=(ops[i]?).any λo=>o.after.any λe=>Region.binds .any e&&e.on==j
def oR (ops:Array Oper):Nat->Nat->Nat->Bool
 |0,i,j=>ll ops i j
 |f+1,i,j=>(ops[i]?).any λo=>o.after.any λe=>Region.binds .any e&&(e.on==j||oR ops f e.on j)
def Bp:Op->Bool
 | .select .. =>true
 | .defer _=>true
 | _=>false
def vB (pre:List Nat) (ops:Array Oper) (m size:Nat):Bool:=
 decide (m<=ops.size)&&
 (List.range ops.size).all (λi=>match ops[i]? with
  |some o=>o.after.all λe=> !Region.binds .any e||decide (e.on<i)
  |none=>false)&&
 (List.range m).all (λi=>match ops[i]? with
  |some o=> !Bp o.op&&(match o.dst with
    |some d=>decide (d<size)&&(List.range m).all λj=>j==i||(match ops[j]? with|some oj=>oj.dst !=some d|none=>false)
    |none=>false)&&
   (List.range m).all λj=>match (ops[j]?).bind (·.dst)with|some dj=> !(o.looksAt ops).contains dj||ll ops i j|none=>false
  |none=>false)&&
 (List.range (ops.size-m)).all (λk=>(List.range m).all (λj=>pre.contains j||oR ops 4 (m+k) j))
abbrev CO:=Nat->Option ((Value->Prop)×(Value->World->Prop))
def pB (v:Value):Option Nat:=match v with
 | .pointer (some a)=>some a.block
 | _=>none
def Ct (Q:Exit->Act->World->Prop):Exit->Act->World->Prop:=λe a w=> ∀a',a'.defers=a.defers->Q e a' w
def Yl (P:Program) (QQ:Exit->Act->World->Prop) (o:Oper) (a:Act) (w:World) (R:Value->World->Prop):Prop:=
 ∀(K:Act->World->Prop),(∀v w',R v w'->K (a.put o.dst v) w')->o.wp P a w K (Ct QQ)
def fx (P:Program) (QQ:Exit->Act->World->Prop) (ops:Array Oper) (f:Nat) (tab:CO) (late:Option Nat) (nw:Nat->Bool) (T U:World->World->Prop) (w0:World) (Fin:Act->List (Nat×(World->Prop))->Prop):List Oper->Nat->Act->List (Nat×(World->Prop))->Prop
 | [],_,a,Φ=>Fin a Φ
 |o::rest,i,a,Φ=>
  (Region.wanted o (yielded ops a.tmps)=false->fx P QQ ops f tab late nw T U w0 Fin rest (i+1) (a.put o.dst undef) Φ)/\
  (Region.wanted o (yielded ops a.tmps)=true->
   match tab i with
   |none=> ∃v,(∀w,U w0 w->(execOp a.eval o).run P w= .ok (.value v) w)/\fx P QQ ops f tab late nw T U w0 Fin rest (i+1) (a.put o.dst v) Φ
   |some (Sh,F)=>(∃v,Sh v)/\
    (∀w,(if late=some i then T w0 w else U w0 w)->(∀p∈Φ,oR ops f i p.1=true->p.2 w)->Yl P QQ o a w (λv w'=>(if late=some i then U w w' else T w w')/\Sh v/\F v w'/\(nw i=true-> ∀g,pB v=some g->w.heap.size<=g)))/\
    ∀v,Sh v->fx P QQ ops f tab late nw T U w0 Fin rest (i+1) (a.put o.dst v) ((i,F v)::Φ))
section
variable {QQ:Exit->Act->World->Prop}
variable {P:Program} {ops:Array Oper} {m size:Nat} {pre:List Nat}
theorem rC (d:vB pre ops m size=true):m<=ops.size:=by
 simp only[vB,an,decide_eq_true_eq]at d;exact d.1.1.1
theorem rB (u:vB pre ops m size=true) {i:Nat} {o:Oper} (d:ops[i]? =some o): ∀e∈o.after,Region.binds .any e=true->e.on<i:=by
 simp only[vB,an]at u;have h:=u.1.1.2;rw[cC]at h;have:=h i (by rw[eD];exact(Array.getElem?_eq_some_iff.1 d).1);rw[d]at this;simp only[eT,dn,Bool.not_eq_true',decide_eq_true_eq]at this;exact λe w y=>(this e w).resolve_left (by rw[y];simp)
theorem je (I:vB pre ops m size=true) {i:Nat} (R:i<m): ∃o u,ops[i]? =some o/\o.dst=some u/\u<size/\(∀J b,o.op≠ .select J b)/\(∀c,o.op≠ .defer c)/\
  (∀j,j<m->j≠i-> ∀d,ops[j]? =some d->d.dst≠some u)/\
  (∀j,j<m-> ∀d F,ops[j]? =some d->d.dst=some F->F∈o.looksAt ops->ll ops i j=true):=by
 simp only[vB,an]at I;have H:=I.1.2;rw[cC]at H;have:=H i (by rw[eD];exact R)
 cases ho:ops[i]? with
 |none=>rw[ho]at this;cases this
 |some o=>
  rw[ho]at this;simp only[an]at this;obtain⟨⟨y,h⟩,G⟩:=this
  cases hd:o.dst with
  |none=>rw[hd]at h;cases h
  |some u=>
   rw[hd]at h;simp only[an,decide_eq_true_eq,cC,eD,dn,beq_iff_eq]at h G;refine⟨o,u,rfl,hd,h.1,?_,?_,?_,?_⟩;rotate_left
   ·intro c e;rw[e]at y;simp[Bp]at y
   rotate_right
   ·intro J b e;rw[e]at y;simp[Bp]at y
   ·intro j A K d z;have:=(h.2 j A).resolve_left K;rw[z]at this;simpa using this
   ·intro j A d F z V M;have:=G j A;rw[z]at this;simp only[fj,V,dn,Bool.not_eq_true']at this;rcases this with w|w
    ·simp at w;exact absurd M w
    ·exact w
theorem Dr (d:vB pre ops m size=true) {i:Nat} (z:m<=i) (y:i<ops.size): ∀j,j<m->j∉pre->oR ops 4 i j=true:=by
 simp only[vB,an]at d;have h:=d.2;rw[cC]at h;have:=h (i-m) (by rw[eD];omega);simp only[cC,eD,dn]at this;rw[show m+(i-m)=i from by omega]at this;exact λj w u=>(this j w).resolve_left (λd=>u (by simpa using d))
def IK (ops:Array Oper) (m:Nat):Bool:=(List.range (ops.size-m)).all λk=>k==0||ll ops (m+k) (m+k-1)
def G7 (pre:List Nat) (ops:Array Oper) (m size:Nat):Bool:=vB pre ops m size&&IK ops m
def Hx (ops:Array Oper) (m size:Nat):Bool:=G7 [] ops m size
theorem o7 (d:G7 pre ops m size=true):vB pre ops m size=true/\IK ops m=true:=by
 unfold G7 at d;exact(an _ _).mp d
theorem AY (d:IK ops m=true) {i:Nat} (u:m<=i) (h:i<ops.size):i=m\/ll ops i (i-1)=true:=by
 have:=List.all_eq_true.1 d (i-m) (by rw[eD];omega);simp only[dn,beq_iff_eq]at this;rw[show m+(i-m)=i from by omega]at this;rcases this with d|d
 ·exact .inl Qa
 ·exact .inr d
def jE (ops:Array Oper) (D:Nat->Prop):Prop:= ∀i j,D i->ll ops i j=true->D j
theorem jE.anc {D:Nat->Prop} (d:jE ops D): ∀(f i j:Nat),D i->oR ops f i j=true->D j
 |0,i,j,hi,ha=>d i j hi ha
 |f+1,i,j,hi,ha=>by
  simp only[oR,gF]at ha;obtain⟨o,y,ha⟩:=ha;rw[eE]at ha;obtain⟨e,z,u⟩:=ha;simp only[an,dn,beq_iff_eq]at u;have w:ll ops i e.on=true:=by
   simp only[ll,gF];refine⟨o,y,?_⟩;rw[eE];exact⟨e,z,by simp[u.1]⟩
  rcases u.2 with h|h
  ·rw[<-h];exact d i _ hi w
  ·exact jE.anc d f _ _ (d i _ hi w) h
theorem lT {D:Nat->Prop} (A:jE ops D) (f i j:Nat) (h: ∀k,ll ops i k=true->D k) (ha:oR ops f i j=true):D j:=by
 cases f with
 |zero=>exact h j ha
 |succ f=>
  simp only[oR,gF]at ha;obtain⟨o,y,ha⟩:=ha;rw[eE]at ha;obtain⟨e,z,u⟩:=ha;simp only[an,dn,beq_iff_eq]at u;have w:ll ops i e.on=true:=by
   simp only[ll,gF];refine⟨o,y,?_⟩;rw[eE];exact⟨e,z,by simp[u.1]⟩
  rcases u.2 with d|d
  ·rw[<-d];exact h _ w
  ·exact A.anc f _ _ (h _ w) d
theorem ib (a:Act) (d:Nat) (v:Value) (t:Nat) (u:d<a.tmps.size):dP (a.put (some d) v) t=if t=d then v else dP a t:=by
 unfold dP Act.put;simp only[az,bF];by_cases h:t=d
 ·subst h;simp[u]
 ·rw[if_neg (λe=>h e.symm),if_neg h]
theorem ek (a:Act) (x:Option Tmp) (v:Value):(a.put x v).tmps.size=a.tmps.size:=by cases x<;>simp[Act.put]
theorem jy (a:Act) (x:Option Tmp) (v:Value):(a.put x v).defers=a.defers:=by cases x<;>rfl
theorem ES {a c:Act} (h:a.tmps.size=c.tmps.size) (y: ∀t,dP a t=dP c t) (d:a.defers=c.defers):a=c:=by
 obtain⟨A,G⟩:=a;obtain⟨z,F⟩:=c;simp only at h d;subst d
 congr 1
 apply Array.ext h;intro i w u;have:=y i;simp only[dP,az]at this;simpa[w,u]using this
def gk (ops:Array Oper) (o:Oper) (a c:Act):Prop:= ∀t,t∈o.looksAt ops->dP a t=dP c t
theorem gk.exec {o:Oper} {a c:Act} (h: ∀w b,o.op≠ .select w b) (u:gk ops o a c):execOp a.eval o=execOp c.eval o:=
 execOp_congr o h λx d=>by
  cases x with
  |tmp t=>exact u t (List.mem_append_left _ (List.mem_filterMap.2 ⟨.tmp t,by simpa using d,rfl⟩))
  | _=>rfl
theorem gk.wanted {o:Oper} {a c:Act} (u:a.tmps.size=c.tmps.size) (z:gk ops o a c):Region.wanted o (yielded ops a.tmps)=Region.wanted o (yielded ops c.tmps):=by
 unfold Region.wanted
 cases hg:o.guard with
 |none=>rfl
 |some gw=>
  obtain⟨g,A⟩:=gw;have w:yielded ops a.tmps g=yielded ops c.tmps g:=by
   unfold yielded
   cases ht:(ops[g]?).bind (·.dst)with
   |none=>rfl
   |some t=>
    have h:=z t (by simp[Oper.looksAt,hg,ht]);simp only[dP,az]at h;simp only[fj];rcases eS t a.tmps.size with d|d
    ·have y:t<c.tmps.size:=u▸d;simp only[bV d,bV y,bX]at h⊢;rw[h]
    ·rw[fD d,fD (u▸d)]
  simp only[w]
theorem Yl.to {o:Oper} {z:Nat} {a c:Act} {F:World} {A:Value->World->Prop} {QQ:Exit->Act->World->Prop} {H:Act->World->Prop} (J:a.defers=c.defers) (K:o.dst=some z) (I:z<c.tmps.size) (u:execOp a.eval o=execOp c.eval o)
  (h:Yl P QQ o c F A) (R: ∀v w',A v w'->H (a.put o.dst v) w'):o.wp P a F H (Ct QQ):=by
 have h:=h (λw w'=>w.defers=c.defers/\A (dP w z) w') (λv w' y=>⟨jy _ _ _,by rw[K,ib _ _ _ _ I,if_pos rfl];exact y⟩);have val: ∀(d:Value) (w':World),((c.put o.dst d).defers=c.defers/\A (dP (c.put o.dst d) z) w')->H (a.put o.dst d) w':=λd w' ⟨_,y⟩=>by
  rw[K,ib _ _ _ _ I,if_pos rfl]at y;exact R _ _ y
 unfold Oper.wp at*;rw[u];generalize (execOp c.eval o).run P F=r at*
 cases r with
 |ok n w'=>
  cases n<;>simp only[Oper.upon]at h⊢
  case value d=>exact val d _ h
  case skip=>exact val _ _ h
  case defer x=>
   have:=h.1;rw[jy]at this;exact absurd (congrArg List.length this) Qe
  case enter f args=>
   refine Calls.mono h λe M u=> ?_
   cases e with
   |returned d=>exact val d _ u
   |panicked x=>exact λw G=>u w (G.trans J)
   |outgrown=>exact u
  case row row args=>exact Rows.mono h λd M u=>val d _ u
 |halt x w'=>
  cases x<;>simp only[Oper.upon]at h⊢;exact λw G=>h w (G.trans J)
section
variable {QQ:Exit->Act->World->Prop}
variable {f:Nat} {tab:CO} {late:Option Nat} {nw:Nat->Bool} {T U:World->World->Prop} {w0:World} {a0:Act}
def Cv (P:Program) (ops:Array Oper) (tab:CO) (U:World->World->Prop) (w0:World) (i:Nat) (o:Oper) (d:Nat) (a:Act):Prop:=
 (Region.wanted o (yielded ops a.tmps)=false->dP a d=undef)/\
 (Region.wanted o (yielded ops a.tmps)=true->match tab i with
  |none=> ∀w,U w0 w->(execOp a.eval o).run P w= .ok (.value (dP a d)) w
  |some (Sh,_)=>Sh (dP a d))
def qM (ops:Array Oper) (m:Nat) (nw:Nat->Bool) (D:Nat->Prop) (a:Act):Prop:=
 ∀(i j:Nat) (oi oj:Oper) (di dj:Nat),D i->D j->i<m->j<m->ops[i]? =some oi->ops[j]? =some oj->oi.dst=some di->oj.dst=some dj->nw i=true->nw j=true->i≠j->
  Region.wanted oi (yielded ops a.tmps)=true->Region.wanted oj (yielded ops a.tmps)=true-> ∀g,pB (dP a di)=some g->pB (dP a dj)≠some g
structure JR (P:Program) (ops:Array Oper) (m:Nat) (tab:CO) (late:Option Nat) (nw:Nat->Bool) (T U:World->World->Prop) (w0:World) (a0:Act) (D:Nat->Prop) (a:Act) (w:World):Prop where
 step:U w0 w
 early:(∀x,late=some x-> ¬D x)->T w0 w
 size:a.tmps.size=a0.tmps.size
 defers:a.defers=a0.defers
 base: ∀t,(∀(i:Nat) (o:Oper),i<m->ops[i]? =some o->o.dst≠some t)->dP a t=dP a0 t
 ok: ∀(i:Nat) (o:Oper) (d:Nat),D i->i<m->ops[i]? =some o->o.dst=some d->Cv P ops tab U w0 i o d a
 fact: ∀(i:Nat) (o:Oper) (d:Nat),D i->i<m->ops[i]? =some o->o.dst=some d->Region.wanted o (yielded ops a.tmps)=true-> ∀Sh F,tab i=some (Sh,F)->F (dP a d) w
 pair:qM ops m nw D a
theorem po {Fin:Act->List (Nat×(World->Prop))->Prop} (af:vB pre ops m a0.tmps.size=true) (au:U w0 w0)
  (aR:fx P QQ ops f tab late nw T U w0 Fin (ops.toList.take m) 0 a0 []) {D:Nat->Prop} (aO:jE ops D) {a:Act} {ay:World} (X:JR P ops m tab late nw T U w0 a0 D a ay):
  ∀k,k<=m-> ∃c Φ,fx P QQ ops f tab late nw T U w0 Fin ((ops.toList.take m).drop k) k c Φ/\c.tmps.size=a0.tmps.size/\c.defers=a0.defers/\
   (∀t,(∀(i:Nat) (o:Oper),i<m->ops[i]? =some o->o.dst≠some t)->dP c t=dP a0 t)/\
   (∀(i:Nat) (o:Oper) (d:Nat),i<k->D i->ops[i]? =some o->o.dst=some d->dP c d=dP a d)/\
   (∀p∈Φ,p.1<k/\ ∃o d G u,ops[p.1]? =some o/\o.dst=some d/\tab p.1=some (G,u)/\p.2=u (dP c d)/\(D p.1->Region.wanted o (yielded ops a.tmps)=true)):=by
 intro k
 induction k with
 |zero=>intro _;exact⟨a0,[],aR,rfl,rfl,λ_ _=>rfl,λi o d ao=>absurd ao Qa,λp h=>by cases h⟩
 |succ k ih=>
  intro aV;obtain⟨c,Φ,al,ah,aQ,ax,aw,aP⟩:=ih Qa;obtain⟨o,d,H,I,aN,aD,aW,ak,aI⟩:=je af (i:=k) Qa;have aJ:k<(ops.toList.take m).length:=by have:=rC af;simp;omega
  have aL:(ops.toList.take m)[k]=o:=by
   have:=(Array.getElem?_eq_some_iff.1 H).2;simp[this]
  rw[ap aJ,aL]at al
  -- what the next frame is like
  have next: ∀v,(D k->dP a d=v)->
    ∀(Z:List (Nat×(World->Prop))),(∀p∈Z,p∈Φ\/(p.1=k/\ ∃G u,tab k=some (G,u)/\p.2=u v/\(D k->Region.wanted o (yielded ops a.tmps)=true)))->
    fx P QQ ops f tab late nw T U w0 Fin ((ops.toList.take m).drop (k+1)) (k+1) (c.put o.dst v) Z->
    ∃c Φ,fx P QQ ops f tab late nw T U w0 Fin ((ops.toList.take m).drop (k+1)) (k+1) c Φ/\c.tmps.size=a0.tmps.size/\c.defers=a0.defers/\
     (∀t,(∀(i:Nat) (o:Oper),i<m->ops[i]? =some o->o.dst≠some t)->dP c t=dP a0 t)/\
     (∀(i:Nat) (o:Oper) (d:Nat),i<k+1->D i->ops[i]? =some o->o.dst=some d->dP c d=dP a d)/\
     (∀p∈Φ,p.1<k+1/\ ∃o d G u,ops[p.1]? =some o/\o.dst=some d/\tab p.1=some (G,u)/\p.2=u (dP c d)/\(D p.1->Region.wanted o (yielded ops a.tmps)=true)):=by
   intro v ae Z az aF;have h: ∀t,dP (c.put o.dst v) t=if t=d then v else dP c t:=λt=>by rw[I];exact ib _ _ _ _ (by rw[ah];exact aN)
   refine⟨_,Z,aF,by rw[ek];exact ah,by rw[jy];exact aQ,?_,?_,?_⟩
   ·intro t w;rw[h,if_neg (λe=>w k o Qa H (by rw[I,e]))];exact ax t w
   ·intro i F aT ao av y z;rw[h];rcases eS i k with ab|ab
    ·rw[if_neg (λe=>ak i Qa Qa F y (by rw[z,e]))];exact aw i F aT ab av y z
    ·obtain rfl:i=k:=Qa
     rw[H]at y;injection y with y;subst y;rw[I]at z;injection z with z;subst z;rw[if_pos rfl];exact(ae av).symm
   ·intro p aH;rcases az p aH with aK|⟨hpk,G,u,w,hF,hw⟩
    ·obtain⟨aU,op,aS,G,u,am,aq,aC,aG,aA⟩:=aP p aK;refine⟨by omega,op,aS,G,u,am,aq,aC,?_,aA⟩;rw[h,if_neg (λe=>ak p.1 Qa Qa op am (by rw[aq,e]))];exact aG
    ·refine⟨by omega,o,d,G,u,by rw[hpk];exact H,I,by rw[hpk];exact w,?_,by rw[hpk];exact hw⟩;rw[h,if_pos rfl];exact hF
  -- if k has been carried out, the two frames are the M for it
  have M:D k->gk ops o a c:=λA t w=>by
   by_cases hex: ∃(i:Nat) (F:Oper),i<m/\ops[i]? =some F/\F.dst=some t
   ·obtain⟨i,F,V,y,z⟩:=hex;have ac:=aI i V F t y z w;have ab:i<k:=by
     simp only[ll,H,Option.any_some]at ac;rw[eE]at ac;obtain⟨e,aM,ar⟩:=ac;simp only[an,beq_iff_eq]at ar;have:=rB af H e aM ar.1;omega
    exact(aw i F t ab (aO k i A ac) y z).symm
   ·rw[X.base t (λi F V y z=>hex ⟨i,F,V,y,z⟩),ax t (λi F V y z=>hex ⟨i,F,V,y,z⟩)]
  have ad:a.tmps.size=c.tmps.size:=by rw[X.size,ah]
  obtain⟨aE,J⟩:=al
  cases hw:Region.wanted o (yielded ops c.tmps)with
  |false=>
   exact next undef (λA=>(X.ok k o d A Qa H I).1 (by rw[(M A).wanted ad];exact hw)) Φ (λp h=> .inl h) (aE hw)
  |true=>
   have J:=J hw
   cases w:tab k with
   |none=>
    rw[w]at J;obtain⟨v,ae,aa⟩:=J;refine next v (λA=> ?_) Φ (λp h=> .inl h) aa;have R:=(X.ok k o d A Qa H I).2 (by rw[(M A).wanted ad];exact hw);rw[w]at R;have K:=R w0 au;rw[(M A).exec aD,ae w0 au]at K;injection K with K;injection K with K;exact K.symm
   |some sf=>
    obtain⟨G,u⟩:=sf;rw[w]at J;obtain⟨⟨ai,aB⟩,_,aa⟩:=J;by_cases A:D k
    ·have aj:Region.wanted o (yielded ops a.tmps)=true:=by rw[(M A).wanted ad];exact hw
     have R:=(X.ok k o d A Qa H I).2 aj;rw[w]at R;refine next (dP a d) (λ_=>rfl) ((k,u (dP a d))::Φ) ?_ (aa _ R);intro p h;rcases List.mem_cons.1 h with rfl|h
     ·exact .inr ⟨rfl,G,u,w,rfl,λ_=>aj⟩
     ·exact .inl h
    ·refine next ai (λag=>absurd ag A) ((k,u ai)::Φ) ?_ (aa _ aB);intro p h;rcases List.mem_cons.1 h with rfl|h
     ·exact .inr ⟨rfl,G,u,w,rfl,λag=>absurd ag A⟩
     ·exact .inl h
def tQ (m:Nat) (l:Array Bool):Nat:=(List.range m).countP λi=> !l.getD i true
theorem na (l:Array Bool) (m:Nat):tQ (m+1) l=tQ m l+(if l.getD m true=false then 1 else 0):=by
 unfold tQ;rw[kP,List.countP_append,la]
 cases l.getD m true<;>rfl
theorem qs (l:Array Bool) (i m:Nat) (d:i<l.size):(l.setIfInBounds i true).getD m true=if m=i then true else l.getD m true:=by
 simp only[az,bF];by_cases h:i=m
 ·subst h;simp[d]
 ·rw[if_neg h,if_neg (λe=>h e.symm)]
theorem xj (l:Array Bool) (i:Nat) (h:l.getD i true=false): ∀m,tQ m (l.setIfInBounds i true)+(if i<m then 1 else 0)=tQ m l:=by
 have u:i<l.size:=by
  rcases eS i l.size with d|d
  ·exact d
  ·simp[az,fD d]at h
 intro m
 induction m with
 |zero=>simp[tQ]
 |succ m ih=>
  rw[na,na,qs _ _ _ u];by_cases d:m=i
  ·subst d;rw[h];simp at ih⊢;omega
  ·rw[if_neg d];have w:(i<m+1)↔(i<m):=Qa
   simp only[w];omega
theorem tP {l:Array Bool}: ∀m,tQ m l=0-> ∀i,i<m->l.getD i true=true:=by
 intro m d i h;unfold tQ at d;rw[List.countP_eq_zero]at d;have:=d i (by simpa using h);simpa using this
theorem xk {l:Array Bool}: ∀m,tQ m l≠0-> ∃i,i<m/\l.getD i true=false/\ ∀j,j<i->l.getD j true=true:=by
 intro m
 induction m with
 |zero=>simp[tQ]
 |succ m ih=>
  intro d;by_cases h0:tQ m l=0
  ·refine⟨m,by omega,?_,tP m h0⟩;unfold tQ at d h0;rw[kP,List.countP_append,h0]at d;simp only[la]at d
   cases hm:l.getD m true<;>simp[hm]at d⊢
  ·obtain⟨i,u,h⟩:=ih h0;exact⟨i,by omega,h⟩
theorem fK {l:Array Bool} {i:Nat}:i∈Region.ready .any ops l↔l.getD i true=false/\ ∃o,ops[i]? =some o/\ ∀e∈o.after,Region.binds .any e=true->l.getD e.on false=true:=by
 unfold Region.ready;rw[List.mem_filter,eD];constructor
 ·rintro⟨z,y⟩;rw[an]at y;have d:ops[i]? =some ops[i]:=bV z;refine⟨by simpa using y.1,ops[i],d,λe u w=> ?_⟩;have h:=y.2;rw[d]at h;simp only[iQ,bX,eT]at h;have:=h e u;simpa[w]using this
 ·rintro⟨A,o,d,h⟩;refine⟨(Array.getElem?_eq_some_iff.1 d).1,?_⟩;rw[an,d];refine⟨by simp[A],?_⟩;simp only[iQ,bX,eT];intro e u
  cases w:Region.binds .any e
  ·simp
  ·simp[h e u w]
theorem jS {i j:Nat} {o:Oper} (d:ops[i]? =some o):ll ops i j=true↔ ∃e∈o.after,Region.binds .any e=true/\e.on=j:=by
 simp only[ll,d,Option.any_some];rw[eE];simp
def mX (WO:Nat->(Act->World->Prop)->Act->World->Prop) (N:Act->World->Prop) (ops:Array Oper):Nat->Array Bool->Act->World->Prop
 |0,l,a,w=>Region.ready .any ops l=[]/\N a w
 |fuel+1,l,a,w=>(Region.ready .any ops l=[]->N a w)/\ ∀i∈Region.ready .any ops l,WO i (mX WO N ops fuel (l.setIfInBounds i true)) a w
def oW (WO:Nat->(Act->World->Prop)->Act->World->Prop) (N:Act->World->Prop):List Nat->Act->World->Prop
 | []=>N
 |i::l=>WO i (oW WO N l)
structure mn (P:Program) (QQ:Exit->Act->World->Prop) (ops:Array Oper) (S:World->Prop) (WO:Nat->(Act->World->Prop)->Act->World->Prop):Prop where
 mono: ∀{i:Nat} {K K':Act->World->Prop} {a:Act} {w:World},(∀a w,K a w->K' a w)->WO i K a w->WO i K' a w
 skip: ∀{i:Nat} {o:Oper} {K:Act->World->Prop} {a:Act} {w:World},ops[i]? =some o->Region.wanted o (yielded ops a.tmps)=false->S w->K (a.put o.dst undef) w->WO i K a w
 run: ∀{i:Nat} {o:Oper} {K:Act->World->Prop} {a:Act} {w:World},ops[i]? =some o->Region.wanted o (yielded ops a.tmps)=true->(∀c,o.op≠ .defer c)->o.wp P a w (λa' w'=>S w'/\K a' w') (Ct QQ)->WO i K a w
structure qK (P:Program) (QQ:Exit->Act->World->Prop) (ops:Array Oper) (WO:Nat->(Act->World->Prop)->Act->World->Prop):Prop where
 mono: ∀{i:Nat} {K K':Act->World->Prop} {a:Act} {w:World},(∀a w,K a w->K' a w)->WO i K a w->WO i K' a w
 skip: ∀{i:Nat} {o:Oper} {K:Act->World->Prop} {a:Act} {w:World},ops[i]? =some o->Region.wanted o (yielded ops a.tmps)=false->K (a.put o.dst undef) w->WO i K a w
 run: ∀{i:Nat} {o:Oper} {K:Act->World->Prop} {a:Act} {w:World},ops[i]? =some o->Region.wanted o (yielded ops a.tmps)=true->(∀c,o.op≠ .defer c)->o.wp P a w K (Ct QQ)->WO i K a w
theorem qK.toS {S:World->Prop} {WO:Nat->(Act->World->Prop)->Act->World->Prop} (h:qK P QQ ops WO):mn P QQ ops S WO where
 mono:=h.mono
 skip:=λw u _ d=>h.skip w u d
 run:=λw u y d=>h.mono (λ_ _ d=>d.2) (h.run w u y d)
def kJ (ops:Array Oper) (tk:List Nat) (l:Array Bool):Option Nat:=tk.find? λj=>(Region.ready .any ops l).contains j
theorem pd {tk:List Nat} {l:Array Bool} {i:Nat} (d:kJ ops tk l=some i):i∈tk/\i∈Region.ready .any ops l:=
 ⟨eO d,by have:=List.find?_some d;simpa using this⟩
theorem uH {tk:List Nat} {l:Array Bool} (u:kJ ops tk l=none): ∀j∈tk,¬j∈Region.ready .any ops l:=λj h d=>by
 have:=List.find?_eq_none.1 u j h;exact this (by simpa using d)
def C4 (ops:Array Oper) (tk:List Nat) (m:Nat):Bool:=
 tk.all λi=>decide (i<m)&&(List.range ops.size).all λj=>j==i||ll ops j i||oR ops 4 i j||(match ops[i]?,ops[j]? with|some oi,some oj=>oi.apart ops oj| _,_=>false)
theorem zY {tk:List Nat} (d:C4 ops tk m=true) {i:Nat} (h:i∈tk):i<m:=by
 simp only[C4,cC,an,decide_eq_true_eq]at d;exact(d i h).1
theorem yg {tk:List Nat} (y:C4 ops tk m=true) {i j:Nat} (F:i∈tk) {u h:Oper} (z:ops[i]? =some u) (w:ops[j]? =some h) (A:j≠i) (I:ll ops j i=false) (H:oR ops 4 i j=false):u.apart ops h=true:=by
 simp only[C4,cC,an,decide_eq_true_eq]at y;have d:=(y i F).2 j (by rw[eD];exact(Array.getElem?_eq_some_iff.1 w).1);rw[z,w,I,H]at d;have G:(j==i)=false:=by simpa using A
 rw[G]at d;simpa using d
def mq (P:Program) (ops:Array Oper) (tk:List Nat) (S:World->Prop) (WO:Nat->(Act->World->Prop)->Act->World->Prop) (N:Act->World->Prop):Nat->Array Bool->Act->World->Prop
 |0,l,a,w=>Region.ready .any ops l=[]/\N a w
 |fuel+1,l,a,w=>match kJ ops tk l with
  |some i=> ∃v o,ops[i]? =some o/\YieldsIf P ops S o v a/\mq P ops tk S WO N fuel (l.setIfInBounds i true) (a.put o.dst v) w
  |none=>(Region.ready .any ops l=[]->N a w)/\ ∀i∈Region.ready .any ops l,WO i (mq P ops tk S WO N fuel (l.setIfInBounds i true)) a w
section
variable {tk:List Nat} {S:World->Prop} {WO:Nat->(Act->World->Prop)->Act->World->Prop} {N:Act->World->Prop}
theorem zx {h:Nat} {l:Array Bool} {a:Act} {d:World} {i:Nat} (w:kJ ops tk l=some i)
  (u: ∃v o,ops[i]? =some o/\YieldsIf P ops S o v a/\mq P ops tk S WO N h (l.setIfInBounds i true) (a.put o.dst v) d):mq P ops tk S WO N (h+1) l a d:=by
 simp only[mq,w];exact u
theorem rW {h:Nat} {l:Array Bool} {a:Act} {d:World} (w:kJ ops tk l=none)
  (u:(Region.ready .any ops l=[]->N a d)/\ ∀i∈Region.ready .any ops l,WO i (mq P ops tk S WO N h (l.setIfInBounds i true)) a d):mq P ops tk S WO N (h+1) l a d:=by
 simp only[mq,w];exact u
theorem uI {l:Array Bool} (u: ∀j∈tk,l.getD j true=true):kJ ops tk l=none:=by
 unfold kJ;rw[List.find?_eq_none];intro j h d;have d:j∈Region.ready .any ops l:=by simpa using d
 have:=(fK.1 d).1;rw[u j h]at this
 cases this
theorem nX {S':World->Prop} (w:mn P QQ ops S' WO): ∀(u:Nat) (l:Array Bool) (a:Act) (d:World),(∀j∈tk,l.getD j true=true)->mX WO N ops u l a d->mq P ops tk S WO N u l a d
 |0,_,_,_,_,h=>h
 |u+1,l,a,d,hd,h=>rW (uI hd) ⟨h.1,λi z=>w.mono (λa d A=>nX w u _ a d (λj y=>by
   have:=hd j y;simp only[az,bF]at this⊢;split
   ·split<;>rfl
   ·exact this) A) (h.2 i z)⟩
end
variable {WO:Nat->(Act->World->Prop)->Act->World->Prop} {N:Act->World->Prop} {S:World->Prop}
theorem tU (ah:mn P QQ ops S WO) (ab:vB pre ops m size=true) (ai:IK ops m=true): ∀(r k:Nat) (l:Array Bool) (a:Act) (d:World),r=ops.size-k->m<=k->k<=ops.size->l.size=ops.size->(∀i,i<ops.size->l.getD i true=decide (i<k))->
  oW WO N (List.range' k (ops.size-k)) a d->mX WO N ops r l a d:=by
 intro r
 induction r with
 |zero=>
  intro k l a d aa _ ad F h y;obtain rfl:k=ops.size:=Qa
  refine⟨?_,by rw[m_]at y;exact y⟩;rw[List.eq_nil_iff_forall_not_mem];intro i G;obtain⟨u,o,z,_⟩:=fK.1 G;have K:=(Array.getElem?_eq_some_iff.1 z).1;rw[h i K]at u;simp at u;omega
 |succ r ih=>
  intro k l a d aa al ad F h y;have M:k<ops.size:=Qa
  have J:ops[k]? =some ops[k]:=bV M;refine⟨λac=> ?_,λi G=> ?_⟩
  ·have:k∈Region.ready .any ops l:=fK.2 ⟨by rw[h k M];simp,_,J,λe H af=>by
    have u:=rB ab J e H af;have w:=h e.on Qa;simp only[az]at w⊢;have A:e.on<l.size:=Qa
    simp only[bV A,bX]at w⊢
    rw[w];simp;omega⟩
   rw[ac]at this
   cases this
  ·obtain⟨u,o,z,w⟩:=fK.1 G;have V:=(Array.getElem?_eq_some_iff.1 z).1;have am:k<=i:=by rw[h i V]at u;simpa using u
   obtain rfl:i=k:=by
    rcases eS k i with K|hge
    ·rcases AY ai (i:=i) Qa V with A|A
     ·omega
     ·obtain⟨e,H,ag,ak⟩:=(jS z).1 A;have X:=w e H ag;have I:=h e.on Qa;have aj:e.on<l.size:=Qa
      simp only[az,bV aj,bX]at X I;rw[X]at I;simp at I;omega
    ·omega
   have Z: ∀a d,oW WO N (List.range' (i+1) (ops.size-(i+1))) a d->mX WO N ops r (l.setIfInBounds i true) a d:=λa d ae=>
    ih (i+1) _ a d Qa Qa Qa (by simpa using F) (λj R=>by
     simp only[az,bF];by_cases hji:i=j
     ·subst hji;simp[F,R]
     ·rw[if_neg hji];have:=h j R;simp only[az]at this;rw[this];simp only[decide_eq_decide]
      omega) ae
   rw[show ops.size-i=(ops.size-(i+1))+1 from by omega,List.range'_succ]at y;exact ah.mono Z y
theorem rG {TL:Act->World->Prop} (b7:C4 ops pre m=true) (cp: ∀j∈pre,tab j=none) (cy: ∀(l:Array Bool) (a:Act) (h:World),l.size=ops.size->(∀i,i<ops.size->l.getD i true=decide (i<m))->TL a h->mX WO N ops (ops.size-m+0) l a h) (bS:mn P QQ ops (U w0) WO) (ac:vB pre ops m a0.tmps.size=true) (bU:U w0 w0) (bT: ∀a b c,U a b->U b c->U a c) (a8: ∀a b,T a b->U a b) (cf: ∀a b c,T a b->T b c->T a c) (ce: ∀i R A,tab i=some (R,A)-> ∀v h w',A v h->T h w'->A v w')
  (cd: ∀i R A,late≠some i->tab i=some (R,A)-> ∀v h w',A v h->U h w'->A v w') (aX: ∀h,T h h)
  (bu: ∀i,nw i=true-> ∃R A,tab i=some (R,A)/\ ∀v h,A v h-> ∀g,pB v=some g->g<h.heap.size)
  (H:fx P QQ ops f tab late nw T U w0 (λa Φ=> ∀h,U w0 h->(∀p∈Φ,p.2 h)->qM ops m nw (λ_=>True) a->TL a h) (ops.toList.take m) 0 a0 []):
  ∀(n:Nat) (l:Array Bool) (a:Act) (h:World),n=tQ m l->l.size=ops.size->(∀i,i<ops.size->m<=i->l.getD i true=false)->jE ops (λi=>l.getD i false=true)->
   JR P ops m tab late nw T U w0 a0 (λi=>l.getD i false=true) a h->mq P ops pre (U w0) WO N (ops.size-m+n) l a h:=by
 have cD:=rC ac;intro n
 induction n with
 |zero=>
  intro l a h a9 aa bt aL u;have bR:=tP m a9.symm;have bq: ∀i,i<m->l.getD i false=true:=λi aE=>by
   have ad:=bR i aE;have aO:i<l.size:=Qa
   simp only[az,bV aO,bX]at ad⊢;exact ad
  obtain⟨c,Φ,aV,ad,aP,aO,br,cA⟩:=po ac bU H aL u m (ah _);rw[aK (l:=ops.toList.take m) (i:=m) (List.length_take_le _ _)]at aV
  obtain rfl:c=a:=ES (by rw[ad,u.size]) (λt=>by
   by_cases hex: ∃(i:Nat) (K:Oper),i<m/\ops[i]? =some K/\K.dst=some t
   ·obtain⟨i,K,G,aj,ak⟩:=hex;exact br i K t G (bq i G) aj ak
   ·rw[u.base t (λi K G aj ak=>hex ⟨i,K,G,aj,ak⟩),aO t (λi K G aj ak=>hex ⟨i,K,G,aj,ak⟩)]) (by rw[aP,u.defers])
  refine nX bS (ops.size-m+0) l c h (λj z=>bR j (zY b7 z)) ?_;refine cy l c h aa (λi aE=> ?_) (aV h u.step (λp Z=> ?_) ?_)
  ·by_cases G:i<m
   ·rw[bR i G];simp[G]
   ·rw[bt i aE Qa];simp[G]
  ·obtain⟨bk,o,al,R,A,F,V,y,aI,au⟩:=cA p Z;rw[aI];exact u.fact p.1 o al (bq _ bk) bk F V (au (bq _ bk)) R A y
  ·intro i j K I cC M _ _ aE z;exact u.pair i j K I cC M (bq i aE) (bq j z) aE z
 |succ n ih=>
  intro l a h a9 aa bt aL u;have aJ: ∀i,i<ops.size->l.getD i false=l.getD i true:=λi aE=>by
   have aO:i<l.size:=Qa
   simp only[az,bV aO,bX]
  have cq:ops.size-m+(n+1)=(ops.size-m+n)+1:=Qa
  rw[cq]
  cases hft:kJ ops pre l with
  |some i=>
   refine zx hft ?_;obtain⟨ca,aE⟩:=pd hft;obtain⟨ad,cl,ax,aP⟩:=fK.1 aE;have ar:=(Array.getElem?_eq_some_iff.1 ax).1;have aH: ∀k,ll ops i k=true->l.getD k false=true:=λk aA=>by
    obtain⟨e,aG,a7,bi⟩:=(jS ax).1 aA;rw[<-bi];exact aP e aG a7
   have G:i<m:=zY b7 ca;obtain⟨o,al,F,V,aW,aU,cc,bG,a5⟩:=je ac G;rw[F]at ax;injection ax with ax;subst ax;obtain⟨c,Φ,aV,bw,ch,b5,bv,cg⟩:=po ac bU H aL u i Qa;have bN:i<(ops.toList.take m).length:=Qg
   have bP:(ops.toList.take m)[i]=o:=by
    have:=(Array.getElem?_eq_some_iff.1 F).2;simp[this]
   rw[ap bN,bP]at aV;have aS:gk ops o a c:=λt y=>by
    by_cases hex: ∃(k:Nat) (K:Oper),k<m/\ops[k]? =some K/\K.dst=some t
    ·obtain⟨k,K,ao,aj,ak⟩:=hex;have bn:=a5 k ao K t aj ak y;have bO:k<i:=by
      obtain⟨e,aG,a7,bi⟩:=(jS F).1 bn;have:=rB ac F e aG a7;omega
     exact(bv k K t bO (aH k bn) aj ak).symm
    ·rw[u.base t (λi K G aj ak=>hex ⟨i,K,G,aj,ak⟩),b5 t (λi K G aj ak=>hex ⟨i,K,G,aj,ak⟩)]
   have bE:a.tmps.size=c.tmps.size:=by rw[u.size,bw]
   have b4:jE ops (λj=>(l.setIfInBounds i true).getD j false=true):=λj k z bm=>by
    have bx: ∀j,(l.setIfInBounds i true).getD j false=if j=i then true else l.getD j false:=λj=>by
     simp only[az,bF];by_cases H:i=j
     ·subst H;simp[aa,ar]
     ·rw[if_neg H,if_neg (λe=>H e.symm)]
    simp only[bx]at z⊢;by_cases J:j=i
    ·subst J;by_cases af:k=j
     ·rw[if_pos af]
     ·rw[if_neg af];exact aH k bm
    ·rw[if_neg J]at z;by_cases af:k=i
     ·rw[if_pos af]
     ·rw[if_neg af];exact aL j k z bm
   -- the step: a value v in dP al
   have ba: ∀v w',(if late=some i then U h w' else T h w')->Cv P ops tab U w0 i o al (a.put o.dst v)->(Region.wanted o (yielded ops a.tmps)=true-> ∀R A,tab i=some (R,A)->A v w')->(nw i=true-> ∀g,pB v=some g->h.heap.size<=g)->
     mq P ops pre (U w0) WO N (ops.size-m+n) (l.setIfInBounds i true) (a.put o.dst v) w':=by
    intro v w' am bW bY bo;have bg:U h w':=by
     by_cases aa:late=some i
     ·rw[if_pos aa]at am;exact am
     ·rw[if_neg aa]at am;exact a8 _ _ am
    have Z: ∀t,dP (a.put o.dst v) t=if t=al then v else dP a t:=λt=>by rw[V];exact ib _ _ _ _ (by rw[u.size];exact aW)
    have a1: ∀(j:Nat) (I:Oper) (M:Nat),(l.setIfInBounds i true).getD j false=true->j≠i->j<m->ops[j]? =some I->I.dst=some M->l.getD j false=true/\M≠al/\gk ops I (a.put o.dst v) a:=by
     intro j I M z J ab d w;have aB:l.getD j false=true:=by
      simp only[az,bF]at z⊢;rw[if_neg (λe=>J e.symm)]at z;exact z
     refine⟨aB,λe=>bG j ab J I d (by rw[w,e]),λt y=> ?_⟩;rw[Z];by_cases htd:t=al
     ·subst htd;obtain⟨bz,cB,ai,_,_,_,_,_,bM⟩:=je ac ab;rw[d]at ai;injection ai with ai;subst ai;have:=aL j i aB (bM i G o t F V y);simp only[]at this;rw[aJ i ar,ad]at this
      cases this
     ·rw[if_neg htd]
    refine ih _ _ _ ?_ (by simpa using aa) ?_ b4 ⟨bT _ _ _ u.step bg,?_,by rw[ek,u.size],by rw[jy,u.defers],?_,?_,?_,?_⟩
    ·have:=xj l i ad m;rw[if_pos G]at this;omega
    ·intro j z bL;rw[qs _ _ _ Qa,if_neg Qa];exact bt j z bL
    ·intro bp;have bK:late≠some i:=λe=>bp i e (by simp[az,aa,ar]);rw[if_neg bK]at am;refine cf _ _ _ (u.early λx aT aY=>bp x aT ?_) am;simp only[az,bF]at aY⊢;by_cases hxi:i=x
     ·subst hxi;simp[aa,ar]
     ·rw[if_neg hxi];exact aY
    ·intro t y;rw[Z,if_neg (λe=>y i o G F (by rw[V,e]))];exact u.base t y
    ·intro j I M z ab d w;by_cases J:j=i
     ·subst J;rw[F]at d;injection d with d;subst d;rw[V]at w;injection w with w;subst w;exact bW
     ·obtain⟨aB,an,aw⟩:=a1 j I M z J ab d w;obtain⟨bz,_,ai,_,_,bI,_,_⟩:=je ac ab;rw[d]at ai;injection ai with ai;subst ai;have bj:=u.ok j I M aB ab d w;unfold Cv at bj⊢;rw[aw.wanted (ek _ _ _),aw.exec bI,Z,if_neg an];exact bj
    ·intro j I M z ab d w aN R A y;rw[Z];by_cases J:j=i
     ·subst J;rw[F]at d;injection d with d;subst d;rw[V]at w;injection w with w;subst w;rw[if_pos rfl];have bH:gk ops o (a.put o.dst v) a:=λt a3=>by
       rw[Z,if_neg];intro e;subst e;have:=aH j (a5 j G o t F V a3);rw[aJ j ar,ad]at this
       cases this
      exact bY (by rw[<-bH.wanted (ek _ _ _)];exact aN) R A y
     ·obtain⟨aB,an,aw⟩:=a1 j I M z J ab d w;rw[if_neg an];have aI:=u.fact j I M aB ab d w (by rw[<-aw.wanted (ek _ _ _)];exact aN) R A y;by_cases aa:late=some i
      ·exact cd j R A (λe=>J (by rw[aa]at e;injection e with e;exact e.symm)) y _ _ _ aI bg
      ·rw[if_neg aa]at am;exact ce j R A y _ _ _ aI am
    ·intro j k I X M ae z aA ab ao d aq w ag a4 ay an aN aM g aF aC;have a2: ∀(k:Nat) (X:Oper) (ae:Nat),(l.setIfInBounds i true).getD k false=true->k≠i->k<m->ops[k]? =some X->X.dst=some ae->nw k=true->Region.wanted X (yielded ops (a.put o.dst v).tmps)=true->
       l.getD k false=true/\Region.wanted X (yielded ops a.tmps)=true/\dP (a.put o.dst v) ae=dP a ae/\ ∀g,pB (dP a ae)=some g->g<h.heap.size:=λk X ae aA af ao ac ag ay aM=>by
      obtain⟨bl,an,aw⟩:=a1 k X ae aA af ao ac ag;have bc:Region.wanted X (yielded ops a.tmps)=true:=by rw[<-aw.wanted (ek _ _ _)];exact aM
      refine⟨bl,bc,by rw[Z,if_neg an],λg a6=> ?_⟩;obtain⟨R,A,y,bJ⟩:=bu k ay;exact bJ _ _ (u.fact k X ae bl ao ac ag bc R A y) g a6
     by_cases J:j=i
     ·subst J;rw[F]at d;injection d with d;subst d;rw[V]at w;injection w with w;subst w;rw[Z,if_pos rfl]at aF;obtain⟨_,_,aZ,aQ⟩:=a2 k X ae aA (λe=>an e.symm) ao aq ag ay aM;rw[aZ]at aC;have ad:=bo a4 g aF;have aP:=aQ g aC;omega
     ·obtain⟨bD,bC,aZ,aQ⟩:=a2 j I M z J ab d w a4 aN;rw[aZ]at aF;by_cases af:k=i
      ·subst af;rw[F]at aq;injection aq with aq;subst aq;rw[V]at ag;injection ag with ag;subst ag;rw[Z,if_pos rfl]at aC;have ad:=bo ay g aC;have aP:=aQ g aF;omega
      ·obtain⟨bB,bA,b6,_⟩:=a2 k X ae aA af ao aq ag ay aM;rw[b6]at aC;exact u.pair j k I X M ae bD bB ab ao d aq w ag a4 ay an bC bA g aF aC
   have aR: ∀v,gk ops o (a.put o.dst v) a:=λv t a3=>by
    have Z: ∀t,dP (a.put o.dst v) t=if t=al then v else dP a t:=λt=>by rw[V];exact ib _ _ _ _ (by rw[u.size];exact aW)
    rw[Z,if_neg];intro e;subst e;have:=aH i (a5 i G o t F V a3);rw[aJ i ar,ad]at this
    cases this
   have own: ∀v,dP (a.put o.dst v) al=v:=λv=>by rw[V,ib _ _ _ _ (by rw[u.size];exact aW),if_pos rfl]
   obtain⟨_,aD⟩:=aV
   cases au:Region.wanted o (yielded ops a.tmps)with
   |true=>
    have aD:=aD (by rw[<-aS.wanted bE];exact au);have y:=cp i ca;rw[y]at aD;obtain⟨v,bf,_⟩:=aD;refine⟨v,o,F, .inl ⟨au,λbb be=>by rw[aS.exec aU];exact bf bb be⟩,ba v h (by split;exact a8 _ _ (aX h);exact aX h) ⟨λav=> ?_,λ_=> ?_⟩ (λ_ R A H=>by rw[y]at H;cases H) (λa9=>by obtain⟨_,_,H,_⟩:=bu i a9;rw[y]at H;cases H)⟩
    ·rw[(aR v).wanted (ek _ _ _),au]at av;cases av
    ·rw[y];intro bb be;rw[(aR v).exec aU,aS.exec aU,own];exact bf bb be
   |false=>
    have bd:=au;refine⟨undef,o,F, .inr ⟨au,rfl⟩,ba undef h (by split;exact a8 _ _ (aX h);exact aX h) ⟨λ_=>own undef,λav=> ?_⟩ (λH=>by rw[bd]at H;cases H) (λ_ g a6=>by cases a6)⟩;rw[(aR undef).wanted (ek _ _ _),bd]at av
    cases av
  |none=>
   refine rW hft ⟨λcr=> ?_,λi aE=> ?_⟩
   ·obtain⟨i,G,cx,cw⟩:=xk m (l:=l) Qa;obtain⟨o,al,F,_⟩:=je ac G
    have:i∈Region.ready .any ops l:=fK.2 ⟨cx,o,F,λe aG bQ=>by
     have ad:=rB ac F e aG bQ;rw[aJ _ Qa]
     exact cw _ ad⟩
    rw[cr]at this
    cases this
   ·skip
    obtain⟨ad,cl,ax,aP⟩:=fK.1 aE;have ar:=(Array.getElem?_eq_some_iff.1 ax).1;have aH: ∀k,ll ops i k=true->l.getD k false=true:=λk aA=>by
     obtain⟨e,aG,a7,bi⟩:=(jS ax).1 aA;rw[<-bi];exact aP e aG a7
    have G:i<m:=by
     rcases eS i m with aO|aO
     ·exact aO
     ·exfalso
      obtain⟨j,z,b9,cv⟩:=xk m (l:=l) Qa;by_cases hjt:j∈pre
      ·obtain⟨I,M,d,_⟩:=je ac z
       have cu:j∈Region.ready .any ops l:=fK.2 ⟨b9,I,d,λe aG bQ=>by
        have ad:=rB ac d e aG bQ;rw[aJ _ Qa]
        exact cv _ ad⟩
       exact uH hft j hjt cu
      ·have br:=lT (D:=λi=>l.getD i false=true) aL 4 i j aH (Dr ac aO ar j z hjt);rw[aJ j Qa]at br;rw[b9]at br
       cases br
    obtain⟨o,al,F,V,aW,aU,cc,bG,a5⟩:=je ac G;rw[F]at ax;injection ax with ax;subst ax;obtain⟨c,Φ,aV,bw,ch,b5,bv,cg⟩:=po ac bU H aL u i Qa;have bN:i<(ops.toList.take m).length:=Qg
    have bP:(ops.toList.take m)[i]=o:=by
     have:=(Array.getElem?_eq_some_iff.1 F).2;simp[this]
    rw[ap bN,bP]at aV;have aS:gk ops o a c:=λt y=>by
     by_cases hex: ∃(k:Nat) (K:Oper),k<m/\ops[k]? =some K/\K.dst=some t
     ·obtain⟨k,K,ao,aj,ak⟩:=hex;have bn:=a5 k ao K t aj ak y;have bO:k<i:=by
       obtain⟨e,aG,a7,bi⟩:=(jS F).1 bn;have:=rB ac F e aG a7;omega
      exact(bv k K t bO (aH k bn) aj ak).symm
     ·rw[u.base t (λi K G aj ak=>hex ⟨i,K,G,aj,ak⟩),b5 t (λi K G aj ak=>hex ⟨i,K,G,aj,ak⟩)]
    have bE:a.tmps.size=c.tmps.size:=by rw[u.size,bw]
    have b4:jE ops (λj=>(l.setIfInBounds i true).getD j false=true):=λj k z bm=>by
     have bx: ∀j,(l.setIfInBounds i true).getD j false=if j=i then true else l.getD j false:=λj=>by
      simp only[az,bF];by_cases H:i=j
      ·subst H;simp[aa,ar]
      ·rw[if_neg H,if_neg (λe=>H e.symm)]
     simp only[bx]at z⊢;by_cases J:j=i
     ·subst J;by_cases af:k=j
      ·rw[if_pos af]
      ·rw[if_neg af];exact aH k bm
     ·rw[if_neg J]at z;by_cases af:k=i
      ·rw[if_pos af]
      ·rw[if_neg af];exact aL j k z bm
    -- the step: a value v in dP al
    have ba: ∀v w',(if late=some i then U h w' else T h w')->Cv P ops tab U w0 i o al (a.put o.dst v)->(Region.wanted o (yielded ops a.tmps)=true-> ∀R A,tab i=some (R,A)->A v w')->(nw i=true-> ∀g,pB v=some g->h.heap.size<=g)->
      mq P ops pre (U w0) WO N (ops.size-m+n) (l.setIfInBounds i true) (a.put o.dst v) w':=by
     intro v w' am bW bY bo;have bg:U h w':=by
      by_cases aa:late=some i
      ·rw[if_pos aa]at am;exact am
      ·rw[if_neg aa]at am;exact a8 _ _ am
     have Z: ∀t,dP (a.put o.dst v) t=if t=al then v else dP a t:=λt=>by rw[V];exact ib _ _ _ _ (by rw[u.size];exact aW)
     have a1: ∀(j:Nat) (I:Oper) (M:Nat),(l.setIfInBounds i true).getD j false=true->j≠i->j<m->ops[j]? =some I->I.dst=some M->l.getD j false=true/\M≠al/\gk ops I (a.put o.dst v) a:=by
      intro j I M z J ab d w;have aB:l.getD j false=true:=by
       simp only[az,bF]at z⊢;rw[if_neg (λe=>J e.symm)]at z;exact z
      refine⟨aB,λe=>bG j ab J I d (by rw[w,e]),λt y=> ?_⟩;rw[Z];by_cases htd:t=al
      ·subst htd;obtain⟨bz,cB,ai,_,_,_,_,_,bM⟩:=je ac ab;rw[d]at ai;injection ai with ai;subst ai;have:=aL j i aB (bM i G o t F V y);simp only[]at this;rw[aJ i ar,ad]at this
       cases this
      ·rw[if_neg htd]
     refine ih _ _ _ ?_ (by simpa using aa) ?_ b4 ⟨bT _ _ _ u.step bg,?_,by rw[ek,u.size],by rw[jy,u.defers],?_,?_,?_,?_⟩
     ·have:=xj l i ad m;rw[if_pos G]at this;omega
     ·intro j z bL;rw[qs _ _ _ Qa,if_neg Qa];exact bt j z bL
     ·intro bp;have bK:late≠some i:=λe=>bp i e (by simp[az,aa,ar]);rw[if_neg bK]at am;refine cf _ _ _ (u.early λx aT aY=>bp x aT ?_) am;simp only[az,bF]at aY⊢;by_cases hxi:i=x
      ·subst hxi;simp[aa,ar]
      ·rw[if_neg hxi];exact aY
     ·intro t y;rw[Z,if_neg (λe=>y i o G F (by rw[V,e]))];exact u.base t y
     ·intro j I M z ab d w;by_cases J:j=i
      ·subst J;rw[F]at d;injection d with d;subst d;rw[V]at w;injection w with w;subst w;exact bW
      ·obtain⟨aB,an,aw⟩:=a1 j I M z J ab d w;obtain⟨bz,_,ai,_,_,bI,_,_⟩:=je ac ab;rw[d]at ai;injection ai with ai;subst ai;have bj:=u.ok j I M aB ab d w;unfold Cv at bj⊢;rw[aw.wanted (ek _ _ _),aw.exec bI,Z,if_neg an];exact bj
     ·intro j I M z ab d w aN R A y;rw[Z];by_cases J:j=i
      ·subst J;rw[F]at d;injection d with d;subst d;rw[V]at w;injection w with w;subst w;rw[if_pos rfl];have bH:gk ops o (a.put o.dst v) a:=λt a3=>by
        rw[Z,if_neg];intro e;subst e;have:=aH j (a5 j G o t F V a3);rw[aJ j ar,ad]at this
        cases this
       exact bY (by rw[<-bH.wanted (ek _ _ _)];exact aN) R A y
      ·obtain⟨aB,an,aw⟩:=a1 j I M z J ab d w;rw[if_neg an];have aI:=u.fact j I M aB ab d w (by rw[<-aw.wanted (ek _ _ _)];exact aN) R A y;by_cases aa:late=some i
       ·exact cd j R A (λe=>J (by rw[aa]at e;injection e with e;exact e.symm)) y _ _ _ aI bg
       ·rw[if_neg aa]at am;exact ce j R A y _ _ _ aI am
     ·intro j k I X M ae z aA ab ao d aq w ag a4 ay an aN aM g aF aC;have a2: ∀(k:Nat) (X:Oper) (ae:Nat),(l.setIfInBounds i true).getD k false=true->k≠i->k<m->ops[k]? =some X->X.dst=some ae->nw k=true->Region.wanted X (yielded ops (a.put o.dst v).tmps)=true->
        l.getD k false=true/\Region.wanted X (yielded ops a.tmps)=true/\dP (a.put o.dst v) ae=dP a ae/\ ∀g,pB (dP a ae)=some g->g<h.heap.size:=λk X ae aA af ao ac ag ay aM=>by
       obtain⟨bl,an,aw⟩:=a1 k X ae aA af ao ac ag;have bc:Region.wanted X (yielded ops a.tmps)=true:=by rw[<-aw.wanted (ek _ _ _)];exact aM
       refine⟨bl,bc,by rw[Z,if_neg an],λg a6=> ?_⟩;obtain⟨R,A,y,bJ⟩:=bu k ay;exact bJ _ _ (u.fact k X ae bl ao ac ag bc R A y) g a6
      by_cases J:j=i
      ·subst J;rw[F]at d;injection d with d;subst d;rw[V]at w;injection w with w;subst w;rw[Z,if_pos rfl]at aF;obtain⟨_,_,aZ,aQ⟩:=a2 k X ae aA (λe=>an e.symm) ao aq ag ay aM;rw[aZ]at aC;have ad:=bo a4 g aF;have aP:=aQ g aC;omega
      ·obtain⟨bD,bC,aZ,aQ⟩:=a2 j I M z J ab d w a4 aN;rw[aZ]at aF;by_cases af:k=i
       ·subst af;rw[F]at aq;injection aq with aq;subst aq;rw[V]at ag;injection ag with ag;subst ag;rw[Z,if_pos rfl]at aC;have ad:=bo ay g aC;have aP:=aQ g aF;omega
       ·obtain⟨bB,bA,b6,_⟩:=a2 k X ae aA af ao aq ag ay aM;rw[b6]at aC;exact u.pair j k I X M ae bD bB ab ao d aq w ag a4 ay an bC bA g aF aC
    have aR: ∀v,gk ops o (a.put o.dst v) a:=λv t a3=>by
     have Z: ∀t,dP (a.put o.dst v) t=if t=al then v else dP a t:=λt=>by rw[V];exact ib _ _ _ _ (by rw[u.size];exact aW)
     rw[Z,if_neg];intro e;subst e;have:=aH i (a5 i G o t F V a3);rw[aJ i ar,ad]at this
     cases this
    have own: ∀v,dP (a.put o.dst v) al=v:=λv=>by rw[V,ib _ _ _ _ (by rw[u.size];exact aW),if_pos rfl]
    obtain⟨_,aD⟩:=aV
    cases au:Region.wanted o (yielded ops a.tmps)with
    |true=>
     have aD:=aD (by rw[<-aS.wanted bE];exact au);refine bS.run F au cc ?_
     cases y:tab i with
     |none=>
      rw[y]at aD;obtain⟨v,bf,_⟩:=aD;unfold Oper.wp;rw[aS.exec aU,bf h u.step];simp only[Oper.upon];refine⟨u.step,ba v h (by split;exact a8 _ _ (aX h);exact aX h) ⟨λav=> ?_,λ_=> ?_⟩ (λ_ R A H=>by rw[y]at H;cases H) (λa9=>by obtain⟨_,_,H,_⟩:=bu i a9;rw[y]at H;cases H)⟩
      ·rw[(aR v).wanted (ek _ _ _),au]at av;cases av
      ·rw[y];intro bb be;rw[(aR v).exec aU,aS.exec aU,own];exact bf bb be
     |some sf=>
      obtain⟨R,A⟩:=sf;rw[y]at aD;obtain⟨_,cm,_⟩:=aD;refine Yl.to (c:=c) (by rw[u.defers,ch]) V (by rw[bw];exact aW) (aS.exec aU) (cm h (by split;exact u.early (λx aT aY=>by rename_i ct;rw[ct]at aT;injection aT with aT;subst aT;rw[aJ i ar,ad]at aY;cases aY);exact u.step) λp Z ha=> ?_) ?_
      ·obtain⟨bk,op,ci,cj,ck,b8,cb,co,aI,cn⟩:=cg p Z;have bZ:l.getD p.1 false=true:=lT (D:=λi=>l.getD i false=true) aL f i p.1 aH ha;rw[aI,bv p.1 op ci bk bZ b8 cb];exact u.fact p.1 op ci bZ Qa b8 cb (cn bZ) cj ck co
      ·rintro v w' ⟨bh,cz,aI,cs⟩;refine⟨(bT _ _ _ u.step (by by_cases aa:late=some i;rw[if_pos aa]at bh;exact bh;rw[if_neg aa]at bh;exact a8 _ _ bh)),ba v w' bh ⟨λav=> ?_,λ_=> ?_⟩ (λ_ cj ck H=> ?_) cs⟩
       ·rw[(aR v).wanted (ek _ _ _),au]at av;cases av
       ·rw[y,own];exact cz
       ·rw[y]at H;injection H with H;injection H with aZ aQ;subst aQ;exact aI
    |false=>
     have bd:=au;refine bS.skip F au (u.step) ?_;refine ba undef h (by split;exact a8 _ _ (aX h);exact aX h) ⟨λ_=>own undef,λav=> ?_⟩ (λH=>by rw[bd]at H;cases H) (λ_ g a6=>by cases a6);rw[(aR undef).wanted (ek _ _ _),bd]at av
     cases av
theorem vj {S':World->Prop} (w:mn P QQ ops S' WO): ∀(u:Nat) (l:Array Bool) (a:Act) (d:World),mq P ops [] S WO N u l a d->mX WO N ops u l a d
 |0,_,_,_,h=>h
 |u+1,l,a,d,h=>⟨h.1,λi y=>w.mono (λa d z=>vj w u _ a d z) (h.2 i y)⟩
theorem pq {TL:Act->World->Prop} (F:qK P QQ ops WO) {a:Act} {d:World} (m f:Nat) (tab:CO) (late:Option Nat) (nw:Nat->Bool) (T U:World->World->Prop) (z:vB [] ops m a.tmps.size=true)
  (R: ∀(l:Array Bool) (a:Act) (d:World),l.size=ops.size->(∀i,i<ops.size->l.getD i true=decide (i<m))->TL a d->mX WO N ops (ops.size-m+0) l a d)
  (y: ∀d,T d d) (J: ∀a b c,U a b->U b c->U a c) (A: ∀a b,T a b->U a b) (M: ∀a b c,T a b->T b c->T a c) (K: ∀i w u,tab i=some (w,u)-> ∀v d w',u v d->T d w'->u v w')
  (I: ∀i w u,late≠some i->tab i=some (w,u)-> ∀v d w',u v d->U d w'->u v w')
  (V: ∀i,nw i=true-> ∃w u,tab i=some (w,u)/\ ∀v d,u v d-> ∀g,pB v=some g->g<d.heap.size)
  (X:fx P QQ ops f tab late nw T U d.drew (λa Φ=> ∀w',U d.drew w'->(∀p∈Φ,p.2 w')->qM ops m nw (λ_=>True) a->TL a w') (ops.toList.take m) 0 a []):mX WO N ops ops.size (Array.replicate ops.size false) a d.drew:=by
 have G:tQ m (Array.replicate ops.size false)=m:=by
  have: ∀k,k<=ops.size->tQ k (Array.replicate ops.size false)=k:=by
   intro k
   induction k with
   |zero=>intro _;rfl
   |succ k ih=>
    intro ac;rw[na,ih Qa,if_pos];simp[az,show k<ops.size from by omega]
  exact this m (rC z)
 have:=rG (pre:=[]) (TL:=TL) rfl (λj H=>by cases H) R (F.toS (S:=U d.drew)) z (A _ _ (y d.drew)) J A M K I y V X m (Array.replicate ops.size false) a d.drew G.symm Qe (λi h _=>by simp[az,h])
  (λi j h=>by
   simp only[az,dU]at h
   split at h<;>simp at h)
  ⟨A _ _ (y _),λ_=>y _,rfl,rfl,λ_ _=>rfl,λi o Z h=>by
   simp only[az,dU]at h;split at h<;>simp at h,λi o Z h=>by
   simp only[az,dU]at h;split at h<;>simp at h,λi j ab aa ae ad h=>by
   simp only[az,dU]at h
   split at h<;>simp at h⟩
 rw[show ops.size-m+m=ops.size from by have:=rC z;omega]at this;exact vj (F.toS (S:=U d.drew)) _ _ _ _ this
theorem fx.fin {P:Program} {ops:Array Oper} {f:Nat} {tab:CO} {late:Option Nat} {nw:Nat->Bool} {T U:World->World->Prop} {w0:World} {Fin A:Act->List (Nat×(World->Prop))->Prop} (d: ∀a Φ,Fin a Φ->A a Φ):
  ∀(l:List Oper) (i:Nat) (a:Act) (Φ:List (Nat×(World->Prop))),fx P QQ ops f tab late nw T U w0 Fin l i a Φ->fx P QQ ops f tab late nw T U w0 A l i a Φ
 | [],_,a,Φ,h=>d a Φ h
 |o::rest,i,a,Φ,h=>by
  refine⟨λw=>fx.fin d rest _ _ _ (h.1 w),λw=> ?_⟩;have u:=h.2 w
  cases ht:tab i with
  |none=>
   rw[ht]at u;obtain⟨v,z,y⟩:=u;exact⟨v,z,fx.fin d rest _ _ _ y⟩
  |some sf=>
   obtain⟨H,I⟩:=sf;rw[ht]at u;obtain⟨z,y,G⟩:=u;exact⟨z,y,λv F=>fx.fin d rest _ _ _ (G v F)⟩
theorem vO (y:qK P QQ ops WO) (h:Hx ops m size=true) (l:Array Bool) (a:Act) (d:World) (w:l.size=ops.size) (z: ∀i,i<ops.size->l.getD i true=decide (i<m)) (u:oW WO N (List.range' m (ops.size-m)) a d):mX WO N ops (ops.size-m+0) l a d:=
 tU (y.toS (S:=λ_=>True)) (o7 h).1 (o7 h).2 (ops.size-m+0) m l a d Qa (ah _) (rC (o7 h).1) w z u
theorem jc {Q:Exit->Act->World->Prop}:qK P Q ops (wpOp P ops Q) where
 mono:=wpOp_mono
 skip:=λu h d=>by unfold wpOp;simp only[u,h];exact d
 run:=λu h _ d=>by
  unfold wpOp;simp only[u,h,if_true];refine .inl ?_;unfold Oper.wp at*;generalize (execOp _ _).run P _=r at*
  cases r with
  |ok x w'=>
   cases x<;>simp only[Oper.upon]at d⊢ <;>first
    |exact d
    |exact Calls.mono d (λe A w=>by cases e<;>first|exact w|exact w _ rfl|exact(by obtain⟨x,y,z⟩:=w;exact⟨x,y,z x rfl⟩))
  |halt x w'=>cases x<;>simp only[Oper.upon]at d⊢;exact d _ rfl
theorem mW {Q:Exit->Act->World->Prop}: ∀(f:Nat) (l:Array Bool) (a:Act) (d:World),mX (wpOp P ops Q) (Q .normal) ops f l a d->wpAny P .any ops Q f l a d
 |0,_,_,_,h=>h
 |f+1,_,_,_,h=>⟨h.1,λi u=>wpOp_mono (λa d=>mW f _ a d) (h.2 i u)⟩
theorem rx {Q:Exit->Act->World->Prop}: ∀(l:List Nat),oW (wpOp P ops Q) (Q .normal) l=wpOps P ops Q l
 | []=>by funext a w;rfl
 |i::l=>by funext a w;rw[wpOps_cons,<-rx l];rfl
theorem tV {Q:Exit->Act->World->Prop} (m:Nat):oW (wpOp P ops Q) (Q .normal) (List.range' m (ops.size-m))=wpList P ops Q (ops.toList.drop m):=by
 rw[rx,<-wpOps_eq_wpList (P:=P) (ops:=ops) (Q:=Q) (ops.toList.drop m) m (λj=>by simp),bH,Array.length_toList]
theorem jo {id:Nat} {Q:Exit->Act->World->Prop} {a:Act} {d:World} (m f:Nat) (tab:CO) (late:Option Nat) (T U:World->World->Prop) (z:P.follows .mixedOrders=true) (y:Hx ops m a.tmps.size=true)
  (H: ∀d,T d d) (F: ∀a b c,U a b->U b c->U a c) (I: ∀a b,T a b->U a b) (J: ∀a b c,T a b->T b c->T a c) (G: ∀i w h,tab i=some (w,h)-> ∀v d w',h v d->T d w'->h v w')
  (A: ∀i w h,late≠some i->tab i=some (w,h)-> ∀v d w',h v d->U d w'->h v w')
  (u:fx P Q ops f tab late (λ_=>false) T U d.drew (λa Φ=> ∀w',U d.drew w'->(∀p∈Φ,p.2 w')->wpList P ops Q (ops.toList.drop m) a w') (ops.toList.take m) 0 a []):(Code.region id ops true).wp P Q a d:=by
 refine wp_region_any z (mW _ _ _ _ (pq jc m f tab late (λ_=>false) T U (o7 y).1 (vO jc y) H F I J G A (λi u=>by cases u) ?_));rw[tV];exact fx.fin (λa Φ u w' M K _=>u w' M K) _ _ _ _ u
def ui (n m:Nat):Array Bool:=Array.ofFn (n:=n) λi=>decide (i.val<m)
theorem AH {n m:Nat} {l:Array Bool} (h:l.size=n) (w: ∀i,i<n->l.getD i true=decide (i<m)):l=ui n m:=by
 apply Array.ext
 ·simp[ui,h]
 ·intro i u y;have d:=w i Qa;simp only[az,bV u,bX]at d;simp only[ui,Array.getElem_ofFn];exact d
theorem oa {id:Nat} {Q:Exit->Act->World->Prop} {a:Act} {d:World} (m f:Nat) (tab:CO) (late:Option Nat) (T U:World->World->Prop) (A:P.follows .mixedOrders=true) (z:vB [] ops m a.tmps.size=true)
  (J: ∀d,T d d) (H: ∀a b c,U a b->U b c->U a c) (K: ∀a b,T a b->U a b) (M: ∀a b c,T a b->T b c->T a c) (I: ∀i w u,tab i=some (w,u)-> ∀v d w',u v d->T d w'->u v w')
  (G: ∀i w u,late≠some i->tab i=some (w,u)-> ∀v d w',u v d->U d w'->u v w')
  (h:fx P Q ops f tab late (λ_=>false) T U d.drew (λa Φ=> ∀w',U d.drew w'->(∀p∈Φ,p.2 w')->mX (wpOp P ops Q) (Q .normal) ops (ops.size-m) (ui ops.size m) a w') (ops.toList.take m) 0 a []):(Code.region id ops true).wp P Q a d:=by
 refine wp_region_any A (mW _ _ _ _ (pq jc m f tab late (λ_=>false) T U z (λl a d F h y=>by rw[AH F h];exact y) J H K M I G (λi h=>by cases h) ?_));exact fx.fin (λa Φ h w' V R _=>h w' V R) _ _ _ _ h
theorem fU {Q:Exit->Act->World->Prop} {f:Nat} {l:Array Bool} {a:Act} {h:World} (d:List Nat) (u:Region.ready .any ops l=d) (w:d≠ []) (y: ∀i,i∈d->wpOp P ops Q i (mX (wpOp P ops Q) (Q .normal) ops f (l.setIfInBounds i true)) a h):mX (wpOp P ops Q) (Q .normal) ops (f+1) l a h:=by
 subst u;exact⟨λe=>absurd e w,y⟩
theorem eo {Q:Exit->Act->World->Prop} {i:Nat} {h:Act->World->Prop} {a:Act} {d:World} {o:Oper} (w:ops[i]? =some o) (u:Region.wanted o (yielded ops a.tmps)=true) (y:o.wp P a d h Q):wpOp P ops Q i h a d:=by
 unfold wpOp;simp only[w,u,if_true];exact .inl y
theorem kn {Q:Exit->Act->World->Prop} {l:Array Bool} {a:Act} {d:World} (h:Region.ready .any ops l=[]) (u:Q .normal a d):mX (wpOp P ops Q) (Q .normal) ops 0 l a d:=⟨h,u⟩
end
abbrev zH:=Nat×(Value->Prop)×(Value->World->Prop)
def fS:List zH->CO
 | []=>λ_=>none
 |p::l=>λi=>if i=p.1 then some p.2 else fS l i
def lE (T:World->World->Prop):List zH->Prop
 | []=>True
 |p::l=>(∀v w w',p.2.2 v w->T w w'->p.2.2 v w')/\lE T l
theorem lE.out {T:World->World->Prop}: ∀{l:List zH},lE T l-> ∀i w h,fS l i=some (w,h)-> ∀v u w',h v u->T u w'->h v w'
 | [],_,i,w,h,d=>by simp[fS]at d
 |p::l,hs,i,w,h,d=>by
  simp only[fS]at d;split at d
  ·injection d with d;intro v u w' z y;have:=hs.1 v u w';rw[d]at this;exact this z y
  ·exact lE.out hs.2 i w h d
section
variable {QQ:Exit->Act->World->Prop}
variable {f:Nat} {tab:CO} {late:Option Nat} {nw:Nat->Bool} {T U:World->World->Prop} {w0:World} {Fin:Act->List (Nat×(World->Prop))->Prop} {o:Oper} {rest:List Oper} {i:Nat} {a:Act} {Φ:List (Nat×(World->Prop))}
theorem bS (h:Region.wanted o (yielded ops a.tmps)=false) (u:fx P QQ ops f tab late nw T U w0 Fin rest (i+1) (a.put o.dst undef) Φ):fx P QQ ops f tab late nw T U w0 Fin (o::rest) i a Φ:=
 ⟨λ_=>u,λd=>by rw[h]at d;cases d⟩
theorem yq (v:Value) (u:Region.wanted o (yielded ops a.tmps)=true) (w:tab i=none) (y: ∀d,U w0 d->(execOp a.eval o).run P d= .ok (.value v) d)
  (z:fx P QQ ops f tab late nw T U w0 Fin rest (i+1) (a.put o.dst v) Φ):fx P QQ ops f tab late nw T U w0 Fin (o::rest) i a Φ:=
 ⟨λh=>(by rw[u]at h;cases h),λ_=>by rw[w];exact⟨v,y,z⟩⟩
theorem cS (u:Value->Prop) (y:Value->World->Prop) (G:Region.wanted o (yielded ops a.tmps)=true) (H:tab i=some (u,y)) (K: ∃v,u v) (z:late≠some i)
  (F: ∀d,U w0 d->(∀p∈Φ,oR ops f i p.1=true->p.2 d)-> ∀(w:Act->World->Prop),(∀v w',T d w'->u v->y v w'->w (a.put o.dst v) w')->o.wp P a d w (Ct QQ))
  (Z: ∀v,u v->fx P QQ ops f tab late nw T U w0 Fin rest (i+1) (a.put o.dst v) ((i,y v)::Φ)) (J:nw i=false:=by rfl):fx P QQ ops f tab late nw T U w0 Fin (o::rest) i a Φ:=
 ⟨λh=>(by rw[G]at h;cases h),λ_=>by
  rw[H]
  exact⟨K,λd A I w M=>F d (by rw[if_neg z]at A;exact A) I w λv w' X V R=>M v w' ⟨by rw[if_neg z];exact X,V,R,λh=>by rw[J]at h;cases h⟩,Z⟩⟩
theorem sx (v:Value) (w: ∀d,U w0 d->(execOp a.eval o).run P d= .ok (.value v) d) (y:fx P QQ ops f tab late nw T U w0 Fin rest (i+1) (a.put o.dst v) Φ)
  (h:Region.wanted o (yielded ops a.tmps)=true:=by rfl) (u:tab i=none:=by rfl):fx P QQ ops f tab late nw T U w0 Fin (o::rest) i a Φ:=yq v h u w y
theorem so {d:Value->Prop} {u:Value->World->Prop} (y: ∀h,U w0 h->(∀p∈Φ,oR ops f i p.1=true->p.2 h)-> ∀(w:Act->World->Prop),(∀v w',T h w'->d v->u v w'->w (a.put o.dst v) w')->o.wp P a h w (Ct QQ))
  (I: ∀v,d v->fx P QQ ops f tab late nw T U w0 Fin rest (i+1) (a.put o.dst v) ((i,u v)::Φ)) (z:Region.wanted o (yielded ops a.tmps)=true:=by rfl) (A:tab i=some (d,u):=by rfl) (H: ∃v,d v:=by exact⟨_,rfl⟩) (G:late≠some i:=by simp) (F:nw i=false:=by rfl):fx P QQ ops f tab late nw T U w0 Fin (o::rest) i a Φ:=cS d u z A H G y I F
theorem dD (u:Value->Prop) (y:Value->World->Prop) (G:Region.wanted o (yielded ops a.tmps)=true) (H:tab i=some (u,y)) (K: ∃v,u v) (z:late=some i)
  (F: ∀d,T w0 d->(∀p∈Φ,oR ops f i p.1=true->p.2 d)-> ∀(w:Act->World->Prop),(∀v w',U d w'->u v->y v w'->w (a.put o.dst v) w')->o.wp P a d w (Ct QQ))
  (Z: ∀v,u v->fx P QQ ops f tab late nw T U w0 Fin rest (i+1) (a.put o.dst v) ((i,y v)::Φ)) (J:nw i=false:=by rfl):fx P QQ ops f tab late nw T U w0 Fin (o::rest) i a Φ:=
 ⟨λh=>(by rw[G]at h;cases h),λ_=>by
  rw[H]
  exact⟨K,λd A I w M=>F d (by rw[if_pos z]at A;exact A) I w λv w' X V R=>M v w' ⟨by rw[if_pos z];exact X,V,R,λh=>by rw[J]at h;cases h⟩,Z⟩⟩
end
end
def au (w w':World):Prop:=RowKit.Below w.heap.size w w'
theorem au.refl (d:World):au d d:=RowKit.Below.refl _ _
theorem au.size {d w':World} (h:au d w'):d.heap.size<=w'.heap.size:=RowKit.Below.size h
theorem au.obj {d w':World} (u:au d w') {b:Nat} (h:b<d.heap.size):w'.heap[b]? =d.heap[b]? :=RowKit.Below.block u b h
theorem au.trans {a b c:World} (d:au a b) (k:au b c):au a c:=RowKit.Below.trans d (RowKit.Below.mono k d.size)
theorem au.un {h w':World} (d:au h.drew w'):au h w':=⟨d.os,d.tape,d.output,d.size,d.block⟩
theorem aB {P:Program} {ops:Array Oper} {id:Nat} {Q:Exit->Act->World->Prop} {a:Act} {d:World} (m f:Nat) (l:List zH) (y:P.follows .mixedOrders=true) (w:Hx ops m a.tmps.size=true) (u:lE au l)
  (h:fx P Q ops f (fS l) none (λ_=>false) au au d.drew (λa Φ=> ∀w',au d.drew w'->(∀p∈Φ,p.2 w')->wpList P ops Q (ops.toList.drop m) a w') (ops.toList.take m) 0 a []):(Code.region id ops true).wp P Q a d:=
 jo m f (fS l) none au au y w au.refl (λ_ _ _=>au.trans) (λ_ _ h=>h) (λ_ _ _=>au.trans) u.out (λi z A _=>u.out i z A) h
def p6 (x:Nat) (T:World->World->Prop):List zH->Prop
 | []=>True
 |p::l=>(p.1=x\/ ∀v w w',p.2.2 v w->T w w'->p.2.2 v w')/\p6 x T l
theorem p6.out {x:Nat} {T:World->World->Prop}: ∀{l:List zH},p6 x T l-> ∀i w h,some x≠some i->fS l i=some (w,h)-> ∀v u w',h v u->T u w'->h v w'
 | [],_,i,w,h,_,d=>by simp[fS]at d
 |p::l,hs,i,w,h,hx,d=>by
  simp only[fS]at d;split at d
  ·rename_i y;injection d with d;intro v u w' A z;have:=(hs.1.resolve_left (λe=>hx (by rw[y,e]))) v u w';rw[d]at this;exact this A z
  ·exact p6.out hs.2 i w h hx d
theorem au.grownBy {h w':World} (d:au h w') (row:Option Nat):h.grownBy w' row:=⟨d.os,d.tape,d.output,d.size,λk u _=>d.obj u⟩
theorem am {a b c:World} {row:Option Nat} (d:a.grownBy b row) (k:b.grownBy c row):a.grownBy c row:=
 ⟨k.os.trans d.os,k.tape.trans d.tape,k.output.trans d.output,ax d.size k.size,λi u h=>(k.block i (aA u d.size) h).trans (d.block i u h)⟩
theorem aJ {h w':World} {row:Option Nat} (d:h.drew.grownBy w' row):h.grownBy w' row:=⟨d.os,d.tape,d.output,d.size,d.block⟩
theorem cM {P:Program} {ops:Array Oper} {id:Nat} {Q:Exit->Act->World->Prop} {a:Act} {d:World} (m f:Nat) (l:List zH) (x:Nat) (row:Option Nat) (z:P.follows .mixedOrders=true) (y:Hx ops m a.tmps.size=true)
  (w:lE au l) (u:p6 x (λd w'=>d.grownBy w' row) l)
  (h:fx P Q ops f (fS l) (some x) (λ_=>false) au (λd w'=>d.grownBy w' row) d.drew (λa Φ=> ∀w',d.drew.grownBy w' row->(∀p∈Φ,p.2 w')->wpList P ops Q (ops.toList.drop m) a w') (ops.toList.take m) 0 a []):(Code.region id ops true).wp P Q a d:=
 jo m f (fS l) (some x) au (λd w'=>d.grownBy w' row) z y au.refl (λ_ _ _=>am) (λ_ _ h=>h.grownBy _) (λ_ _ _=>au.trans) w.out u.out h
theorem kR {P:Program} {ops:Array Oper} {id:Nat} {Q:Exit->Act->World->Prop} {a:Act} {d:World} (m f:Nat) (l:List zH) (x:Nat) (row:Option Nat) (z:P.follows .mixedOrders=true) (y:vB [] ops m a.tmps.size=true)
  (w:lE au l) (u:p6 x (λd w'=>d.grownBy w' row) l)
  (h:fx P Q ops f (fS l) (some x) (λ_=>false) au (λd w'=>d.grownBy w' row) d.drew (λa Φ=> ∀w',d.drew.grownBy w' row->(∀p∈Φ,p.2 w')->mX (wpOp P ops Q) (Q .normal) ops (ops.size-m) (ui ops.size m) a w') (ops.toList.take m) 0 a []):(Code.region id ops true).wp P Q a d:=
 oa m f (fS l) (some x) au (λd w'=>d.grownBy w' row) z y au.refl (λ_ _ _=>am) (λ_ _ h=>h.grownBy _) (λ_ _ _=>au.trans) w.out u.out h
def ei (Q:Exit->Act->World->Prop):Exit->Act->World->Prop:=λe a w=>match e with
 | .normal=>Q .normal a w
 | _=>False
theorem ei.imp {Q:Exit->Act->World->Prop}: ∀(e:Exit) (a:Act) (d:World),ei Q e a d->Q e a d:=λe a d h=>by
 cases e<;>first|exact h|exact(h:False).elim
section
variable {P:Program} {ops:Array Oper} {Q:Exit->Act->World->Prop} {S:World->Prop}
def G' (P:Program) (ops:Array Oper) (Q:Exit->Act->World->Prop) (S:World->Prop) (i:Nat) (K:Act->World->Prop) (a:Act) (w:World):Prop:=wpOp P ops Q i (λa' w'=>S w'/\K a' w') a w
theorem lD:mn P Q ops S (G' P ops Q S) where
 mono:=λd=>wpOp_mono λa y w=>⟨w.1,d a y w.2⟩
 skip:=λu h z d=>by unfold G' wpOp;simp only[u,h];exact⟨z,d⟩
 run:=λu h A d=>by
  have:=jc (P:=P) (ops:=ops) (Q:=Q).run u h A d;exact this
def oV (P:Program) (QQ:Exit->Act->World->Prop) (ops:Array Oper) (N:Act->World->Prop) (S:World->Prop):List Oper->Act->World->Prop
 | [],a,w=>N a w
 |o::l,a,w=>Region.wanted o (yielded ops a.tmps)=true/\(∀c,o.op≠ .defer c)/\o.wp P a w (λa' w'=>S w'/\oV P QQ ops N S l a' w') (Ct QQ)
theorem aO {QQ:Exit->Act->World->Prop} {N:Act->World->Prop} {o:Oper} {l:List Oper} {a:Act} {d:World} (w:Region.wanted o (yielded ops a.tmps)=true) (y: ∀c,o.op≠ .defer c)
  (F: ∀u:Act->World->Prop,(∀h w',S w'->oV P QQ ops N S l h w'->u h w')->o.wp P a d u (Ct QQ)):oV P QQ ops N S (o::l) a d:=⟨w,y,F _ λ_ _ A z=>⟨A,z⟩⟩
theorem cL {QQ Q:Exit->Act->World->Prop} {a:Act} {d:World} (h:wpList P ops Q [] a d):oV P QQ ops (Q .normal) S [] a d:=h
theorem pW {N:Act->World->Prop}: ∀(n k:Nat) (a:Act) (d:World),k+n=ops.size->oV P Q ops N S (ops.toList.drop k) a d->oW (G' P ops Q S) N (List.range' k n) a d
 |0,k,a,d,u,h=>by
  rw[aK Qg]at h;exact h
 |n+1,k,a,d,u,h=>by
  have F:k<ops.toList.length:=Qg
  rw[ap F]at h;obtain⟨I,H,G⟩:=h;have A:ops[k]? =some ops.toList[k]:=Qe
  show G' P ops Q S k (oW (G' P ops Q S) N (List.range' (k+1) n)) a d;refine lD.run A I H ?_;refine stepOk_mono G λJ w' w=>⟨w.1,pW n (k+1) J w' Qa w.2⟩
where
 stepOk_mono {o:Oper} {a:Act} {d:World} {z y:Act->World->Prop} (h:o.wp P a d z (Ct Q)) (u: ∀a d,z a d->y a d):o.wp P a d y (Ct Q):=Oper.wp_mono u h
variable {m size:Nat} {pre:List Nat}
theorem oQ {tk:List Nat} (R:Region.noSelect ops=true) (K:C4 ops tk m=true) (X: ∀c a h,¬Q (.panic c) a h): ∀(w:Nat) (l:Array Bool) (a:Act) (h:World),S h->jE ops (λi=>l.getD i false=true)->l.size=ops.size->
  mq P ops tk S (G' P ops Q S) (Q .normal) w l a h->wpAnyH P .any ops Q S w l a h
 |0,_,_,_,_,_,_,d=>d
 |w+1,l,a,h,hS,hC,hl,d=>by
  have aa: ∀i,i∈Region.ready .any ops l->jE ops (λj=>(l.setIfInBounds i true).getD j false=true):=λi u j k V ab=>by
   obtain⟨_,o,z,Z⟩:=fK.1 u;have aj:=(Array.getElem?_eq_some_iff.1 z).1;have ac: ∀j,(l.setIfInBounds i true).getD j false=if j=i then true else l.getD j false:=λj=>by
    simp only[az,bF];by_cases d:i=j
    ·subst d;simp[hl,aj]
    ·rw[if_neg d,if_neg (λe=>d e.symm)]
   simp only[ac]at V⊢;by_cases hki:k=i
   ·rw[if_pos hki]
   ·rw[if_neg hki];by_cases H:j=i
    ·subst H;obtain⟨e,F,G,y⟩:=(jS z).1 ab;rw[<-y];exact Z e F G
    ·rw[if_neg H]at V;exact hC j k V ab
  cases hft:kJ ops tk l with
  |some i=>
   simp only[mq,hft]at d;obtain⟨v,o,z,ad,ae⟩:=d;obtain⟨ai,u⟩:=pd hft;refine wpAnyH_first z (Region.noSelect_spec R) (λc a h d=>absurd d (X c _ _)) w l a h ?_ u ad hS (oQ R K X w _ _ _ hS (aa i u) (by simpa using hl) ae);intro j al M H J ag;refine yg K ai z M H ?_ ?_
   ·rw[Bool.eq_false_iff];intro I;obtain⟨e,F,G,y⟩:=(jS M).1 I;exact ag e F G y
   ·rw[Bool.eq_false_iff];intro ha;obtain⟨_,am,af,Z⟩:=fK.1 u
    have I:=lT (D:=λi=>l.getD i false=true) hC 4 i j (λk A=>by
     obtain⟨e,F,G,y⟩:=(jS af).1 A
     rw[<-y];exact Z e F G) ha
    have ah:j<l.size:=by rw[hl];exact(Array.getElem?_eq_some_iff.1 M).1
    simp only[az,bV ah,bX]at I J;rw[I]at J
    cases J
  |none=>
   simp only[mq,hft]at d;refine⟨d.1,λi u=>wpOp_mono (λak w' A=>⟨A.1,oQ R K X w _ ak w' A.1 (aa i u) (by simpa using hl) A.2⟩) (d.2 i u)⟩
theorem kQ (U:World->World->Prop) (w: ∀d,U d d) (K: ∀a b c,U a b->U b c->U a c) {id:Nat} {a:Act} {d:World} (m f:Nat) (l:List zH) (y tk:List Nat) (aa:P.follows .mixedOrders=true) (z:G7 tk ops m a.tmps.size=true) (H:C4 ops tk m=true) (X:Region.noSelect ops=true) (V:(tk.all λj=>(fS l j).isNone)=true) (I:lE U l)
  (Z: ∀i,y.contains i=true-> ∃G F,fS l i=some (G,F)/\ ∀v d,F v d-> ∀g,pB v=some g->g<d.heap.size)
  (h:fx P (ei Q) ops f (fS l) none (λi=>y.contains i) U U d.drew (λa Φ=> ∀w',U d.drew w'->(∀p∈Φ,p.2 w')->qM ops m (λi=>y.contains i) (λ_=>True) a->oV P (ei Q) ops (Q .normal) (U d.drew) (ops.toList.drop m) a w') (ops.toList.take m) 0 a []):(Code.region id ops true).wp P Q a d:=by
 refine Code.wp_mono ei.imp (wp_region_held (S:=U d.drew) aa ?_);have J:=rC (o7 z).1;have af: ∀i,(Array.replicate ops.size false).getD i false=false:=λi=>by
  simp only[az,dU];split<;>rfl
 have A: ∀i,¬(Array.replicate ops.size false).getD i false=true:=λi h=>by rw[af]at h;cases h
 have M:jE ops (λi=>(Array.replicate ops.size false).getD i false=true):=λi j u=>absurd u (A i);have R:tQ m (Array.replicate ops.size false)=m:=by
  have: ∀k,k<=ops.size->tQ k (Array.replicate ops.size false)=k:=by
   intro k
   induction k with
   |zero=>intro _;rfl
   |succ k ih=>
    intro ak;rw[na,ih Qa,if_pos];simp[az,show k<ops.size from by omega]
  exact this m J
 refine oQ (Q:=ei Q) X H (λc a d h=>h) _ _ _ _ (w _) M Qe ?_
 have:=rG (a0:=a) (pre:=tk) (f:=f) H (λj ab=>by
   have:=List.all_eq_true.1 V j ab
   simpa using this) (tU (S:=U d.drew) lD (o7 z).1 (o7 z).2 (ops.size-m+0) m · · · Qa (ah _) J · · ·) (lD (P:=P) (ops:=ops) (Q:=ei Q) (S:=U d.drew)) (o7 z).1 (T:=U) (U:=U) (w0:=d.drew) (tab:=fS l) (late:=none) (nw:=λi=>y.contains i) (N:=ei Q .normal) (w _) K (λ_ _ h=>h) K
   I.out (λi G F _=>I.out i G F) w Z
   (fx.fin (λa Φ h w' ae ad ac=>pW _ _ _ _ Qa (h w' ae ad ac)) _ _ _ _ h) m (Array.replicate ops.size false) a d.drew R.symm Qe (λi u _=>by simp[az,u]) M
   ⟨w _,λ_=>w _,rfl,rfl,λ_ _=>rfl,λi o ag u=>absurd u (A i),λi o ag u=>absurd u (A i),λi j aj ai am al u=>absurd u (A i)⟩
 rw[show ops.size-m+m=ops.size from by omega]at this;exact this
theorem dA {id:Nat} {a:Act} {d:World} (m f:Nat) (l:List zH) (h tk:List Nat) (H:P.follows .mixedOrders=true) (A:G7 tk ops m a.tmps.size=true) (y:C4 ops tk m=true) (F:Region.noSelect ops=true) (w:(tk.all λj=>(fS l j).isNone)=true) (z:lE au l)
  (G: ∀i,h.contains i=true-> ∃J u,fS l i=some (J,u)/\ ∀v d,u v d-> ∀g,pB v=some g->g<d.heap.size)
  (I:fx P (ei Q) ops f (fS l) none (λi=>h.contains i) au au d.drew (λa Φ=> ∀w',au d.drew w'->(∀p∈Φ,p.2 w')->qM ops m (λi=>h.contains i) (λ_=>True) a->oV P (ei Q) ops (Q .normal) (au d.drew) (ops.toList.drop m) a w') (ops.toList.take m) 0 a []):(Code.region id ops true).wp P Q a d:=
 kQ au au.refl (λ_ _ _=>au.trans) m f l h tk H A y F w z G I
theorem cu {id:Nat} {a:Act} {d:World} (U:World->World->Prop) (I: ∀d,U d d) (H: ∀a b c,U a b->U b c->U a c) (m f:Nat) (l:List zH) (tk:List Nat) (F:P.follows .mixedOrders=true) (z:G7 tk ops m a.tmps.size=true) (w:C4 ops tk m=true) (A:Region.noSelect ops=true) (u:(tk.all λj=>(fS l j).isNone)=true) (y:lE U l)
  (h:fx P (ei Q) ops f (fS l) none (λ_=>false) U U d.drew (λa Φ=> ∀w',U d.drew w'->(∀p∈Φ,p.2 w')->oV P (ei Q) ops (Q .normal) (U d.drew) (ops.toList.drop m) a w') (ops.toList.take m) 0 a []):(Code.region id ops true).wp P Q a d:=
 kQ U I H m f l [] tk F z w A u y (λi G=>by cases G) (fx.fin (λa Φ h w' K J _=>h w' K J) _ _ _ _ h)
end
def aG:=@au.refl
def dm:=@au.size
def r7:=@au.trans
end Go.Proofs.YtoedmpgicdekmaaGreatDoor

