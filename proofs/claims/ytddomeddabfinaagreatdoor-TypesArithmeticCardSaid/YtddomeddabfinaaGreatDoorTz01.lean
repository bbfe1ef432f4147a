/-
  Parts of the proof: Seq SeqK.
-/
import Derived.Test.YtddomeddabfinaaGreatDoorTz00
import Derived.Orders
import Derived.Tactics
import Derived.Below
import Derived.OrdersHeld
set_option maxRecDepth 100000
set_option maxHeartbeats 8000000
set_option linter.unusedVariables false
set_option linter.unusedSimpArgs false
set_option linter.defProp false
set_option linter.unusedSectionVars false
namespace Go.Proofs.YtddomeddabfinaaGreatDoor
open Go
theorem aY (a : Act) (d : Nat) (v : Value) : Act.put a (some d) v = { a with tmps := a.tmps.setIfInBounds d v } := rfl
theorem aU (a : Act) (v : Value) : Act.put a none v = a := rfl
theorem aX {α : Type _} (l : List α) (i : Nat) (a : α) : l.toArray.setIfInBounds i a = (l.set i a).toArray := be ..
theorem aW {α : Type _} (a b : α) (l : List α) : (a :: l).set 0 b = b :: l := rfl
theorem aV {α : Type _} (a b : α) (l : List α) (n : Nat) : (a :: l).set (n + 1) b = a :: l.set n b := rfl
def de (a:Act) (t:Nat):Value:=a.tmps.getD t undef
def jX (ops:Array Oper) (i j:Nat):Bool:=(ops[i]?).any fun o=>o.after.any fun e=>Region.binds .any e&&e.on==j
def mL (ops:Array Oper):Nat->Nat->Nat->Bool
 |0,i,j=>jX ops i j
 |f+1,i,j=>(ops[i]?).any fun o=>o.after.any fun e=>Region.binds .any e&&(e.on==j||mL ops f e.on j)
def xU:Op->Bool
 | .select .. =>true
 | .defer _=>true
 | _=>false
def rY (pre:List Nat) (ops:Array Oper) (m size:Nat):Bool:=
 decide (m<=ops.size)&&
 (List.range ops.size).all (fun i=>match ops[i]? with
  |some o=>o.after.all fun e=> !Region.binds .any e||decide (e.on<i)
  |none=>false)&&
 (List.range m).all (fun i=>match ops[i]? with
  |some o=> !xU o.op&&(match o.dst with
    |some d=>decide (d<size)&&(List.range m).all fun j=>j==i||(match ops[j]? with|some oj=>oj.dst !=some d|none=>false)
    |none=>false)&&
   (List.range m).all fun j=>match (ops[j]?).bind (·.dst)with|some dj=> !(o.looksAt ops).contains dj||jX ops i j|none=>false
  |none=>false)&&
 (List.range (ops.size-m)).all (fun k=>(List.range m).all (fun j=>pre.contains j||mL ops 4 (m+k) j))
abbrev y9:=Nat->Option ((Value->Prop)×(Value->World->Prop))
def pB (v:Value):Option Nat:=match v with
 | .pointer (some a)=>some a.block
 | _=>none
def yT (Q:Exit->Act->World->Prop):Exit->Act->World->Prop:=fun e a w=> ∀a',a'.defers=a.defers->Q e a' w
def Yl (P:Program) (QQ:Exit->Act->World->Prop) (o:Oper) (a:Act) (w:World) (R:Value->World->Prop):Prop:=
 ∀(K:Act->World->Prop),(∀v w',R v w'->K (a.put o.dst v) w')->o.wp P a w K (yT QQ)
def dY (P:Program) (QQ:Exit->Act->World->Prop) (ops:Array Oper) (f:Nat) (tab:y9) (late:Option Nat) (nw:Nat->Bool) (T U:World->World->Prop) (w0:World) (Fin:Act->List (Nat×(World->Prop))->Prop):List Oper->Nat->Act->List (Nat×(World->Prop))->Prop
 | [],_,a,Φ=>Fin a Φ
 |o::rest,i,a,Φ=>
  (Region.wanted o (yielded ops a.tmps)=false->dY P QQ ops f tab late nw T U w0 Fin rest (i+1) (a.put o.dst undef) Φ)/\
  (Region.wanted o (yielded ops a.tmps)=true->
   match tab i with
   |none=> ∃v,(∀w,U w0 w->(execOp a.eval o).run P w= .ok (.value v) w)/\dY P QQ ops f tab late nw T U w0 Fin rest (i+1) (a.put o.dst v) Φ
   |some (Sh,F)=>(∃v,Sh v)/\
    (∀w,(if late=some i then T w0 w else U w0 w)->(∀p∈Φ,mL ops f i p.1=true->p.2 w)->Yl P QQ o a w (fun v w'=>(if late=some i then U w w' else T w w')/\Sh v/\F v w'/\(nw i=true-> ∀g,pB v=some g->w.heap.size<=g)))/\
    ∀v,Sh v->dY P QQ ops f tab late nw T U w0 Fin rest (i+1) (a.put o.dst v) ((i,F v)::Φ))
section
variable {QQ:Exit->Act->World->Prop}
variable {P:Program} {ops:Array Oper} {m size:Nat} {pre:List Nat}
theorem pd (h:rY pre ops m size=true):m<=ops.size:=by
 simp only[rY,ak,decide_eq_true_eq]at h;exact h.1.1.1
theorem o_ (h:rY pre ops m size=true) {i:Nat} {o:Oper} (hi:ops[i]? =some o): ∀e∈o.after,Region.binds .any e=true->e.on<i:=by
 simp only[rY,ak]at h;have h2:=h.1.1.2;rw[b_]at h2;have:=h2 i (by rw[dQ];exact(Array.getElem?_eq_some_iff.1 hi).1);rw[hi]at this;simp only[d6,bF,Bool.not_eq_true',decide_eq_true_eq]at this;exact fun e he hb=>(this e he).resolve_left (by rw[hb];simp)
theorem gQ (h:rY pre ops m size=true) {i:Nat} (hi:i<m): ∃o d,ops[i]? =some o/\o.dst=some d/\d<size/\(∀cs b,o.op≠ .select cs b)/\(∀c,o.op≠ .defer c)/\
  (∀j,j<m->j≠i-> ∀oj,ops[j]? =some oj->oj.dst≠some d)/\
  (∀j,j<m-> ∀oj dj,ops[j]? =some oj->oj.dst=some dj->dj∈o.looksAt ops->jX ops i j=true):=by
 simp only[rY,ak]at h;have h2:=h.1.2;rw[b_]at h2;have:=h2 i (by rw[dQ];exact hi)
 cases ho:ops[i]? with
 |none=>rw[ho]at this;cases this
 |some o=>
  rw[ho]at this;simp only[ak]at this;obtain⟨⟨h3,h4⟩,h5⟩:=this
  cases hd:o.dst with
  |none=>rw[hd]at h4;cases h4
  |some d=>
   rw[hd]at h4;simp only[ak,decide_eq_true_eq,b_,dQ,bF,beq_iff_eq]at h4 h5;refine⟨o,d,rfl,hd,h4.1,?_,?_,?_,?_⟩;rotate_left
   ·intro c e;rw[e]at h3;simp[xU]at h3
   rotate_right
   ·intro cs b e;rw[e]at h3;simp[xU]at h3
   ·intro j hj hji oj hoj;have:=(h4.2 j hj).resolve_left hji;rw[hoj]at this;simpa using this
   ·intro j hj oj dj hoj hdj hin;have:=h5 j hj;rw[hoj]at this;simp only[em,hdj,bF,Bool.not_eq_true']at this;rcases this with h6|h6
    ·simp at h6;exact absurd hin h6
    ·exact h6
theorem zJ (h:rY pre ops m size=true) {i:Nat} (h1:m<=i) (h2:i<ops.size): ∀j,j<m->j∉pre->mL ops 4 i j=true:=by
 simp only[rY,ak]at h;have h3:=h.2;rw[b_]at h3;have:=h3 (i-m) (by rw[dQ];omega);simp only[b_,dQ,bF]at this;rw[show m+(i-m)=i from by omega]at this;exact fun j hj hp=>(this j hj).resolve_left (fun h=>hp (by simpa using h))
def Dz (ops:Array Oper) (m:Nat):Bool:=(List.range (ops.size-m)).all fun k=>k==0||jX ops (m+k) (m+k-1)
def CG (pre:List Nat) (ops:Array Oper) (m size:Nat):Bool:=rY pre ops m size&&Dz ops m
def BS (ops:Array Oper) (m size:Nat):Bool:=CG [] ops m size
theorem mT (h:CG pre ops m size=true):rY pre ops m size=true/\Dz ops m=true:=by
 unfold CG at h;exact(ak _ _).mp h
theorem xw (h:Dz ops m=true) {i:Nat} (h1:m<=i) (h2:i<ops.size):i=m\/jX ops i (i-1)=true:=by
 have:=List.all_eq_true.1 h (i-m) (by rw[dQ];omega);simp only[bF,beq_iff_eq]at this;rw[show m+(i-m)=i from by omega]at this;rcases this with h|h
 ·exact .inl (by omega)
 ·exact .inr h
def ik (ops:Array Oper) (D:Nat->Prop):Prop:= ∀i j,D i->jX ops i j=true->D j
theorem ik.anc {D:Nat->Prop} (h:ik ops D): ∀(f i j:Nat),D i->mL ops f i j=true->D j
 |0,i,j,hi,ha=>h i j hi ha
 |f+1,i,j,hi,ha=>by
  simp only[mL,fI]at ha;obtain⟨o,ho,ha⟩:=ha;rw[dS]at ha;obtain⟨e,he,hb⟩:=ha;simp only[ak,bF,beq_iff_eq]at hb;have hd:jX ops i e.on=true:=by
   simp only[jX,fI];refine⟨o,ho,?_⟩;rw[dS];exact⟨e,he,by simp[hb.1]⟩
  rcases hb.2 with hx|hx
  ·rw[<-hx];exact h i _ hi hd
  ·exact ik.anc h f _ _ (h i _ hi hd) hx
theorem ks {D:Nat->Prop} (h:ik ops D) (f i j:Nat) (hd: ∀k,jX ops i k=true->D k) (ha:mL ops f i j=true):D j:=by
 cases f with
 |zero=>exact hd j ha
 |succ f=>
  simp only[mL,fI]at ha;obtain⟨o,ho,ha⟩:=ha;rw[dS]at ha;obtain⟨e,he,hb⟩:=ha;simp only[ak,bF,beq_iff_eq]at hb;have hdd:jX ops i e.on=true:=by
   simp only[jX,fI];refine⟨o,ho,?_⟩;rw[dS];exact⟨e,he,by simp[hb.1]⟩
  rcases hb.2 with hx|hx
  ·rw[<-hx];exact hd _ hdd
  ·exact h.anc f _ _ (hd _ hdd) hx
theorem fX (a:Act) (d:Nat) (v:Value) (t:Nat) (hd:d<a.tmps.size):de (a.put (some d) v) t=if t=d then v else de a t:=by
 unfold de Act.put;simp only[aw,bh];by_cases h:t=d
 ·subst h;simp[hd]
 ·rw[if_neg (fun e=>h e.symm),if_neg h]
theorem dE (a:Act) (x:Option Tmp) (v:Value):(a.put x v).tmps.size=a.tmps.size:=by cases x<;>simp[Act.put]
theorem ie (a:Act) (x:Option Tmp) (v:Value):(a.put x v).defers=a.defers:=by cases x<;>rfl
theorem AP {a c:Act} (h1:a.tmps.size=c.tmps.size) (h2: ∀t,de a t=de c t) (h3:a.defers=c.defers):a=c:=by
 obtain⟨ta,da⟩:=a;obtain⟨tc,dc⟩:=c;simp only at h1 h3;subst h3
 congr 1
 apply Array.ext h1;intro i hi hi';have:=h2 i;simp only[de,aw]at this;simpa[hi,hi']using this
def fp (ops:Array Oper) (o:Oper) (a c:Act):Prop:= ∀t,t∈o.looksAt ops->de a t=de c t
theorem fp.exec {o:Oper} {a c:Act} (hs: ∀cs b,o.op≠ .select cs b) (h:fp ops o a c):execOp a.eval o=execOp c.eval o:=
 execOp_congr o hs fun x hx=>by
  cases x with
  |tmp t=>exact h t (List.mem_append_left _ (List.mem_filterMap.2 ⟨.tmp t,by simpa using hx,rfl⟩))
  | _=>rfl
theorem fp.wanted {o:Oper} {a c:Act} (hz:a.tmps.size=c.tmps.size) (h:fp ops o a c):Region.wanted o (yielded ops a.tmps)=Region.wanted o (yielded ops c.tmps):=by
 unfold Region.wanted
 cases hg:o.guard with
 |none=>rfl
 |some gw=>
  obtain⟨g,want⟩:=gw;have hy:yielded ops a.tmps g=yielded ops c.tmps g:=by
   unfold yielded
   cases ht:(ops[g]?).bind (·.dst)with
   |none=>rfl
   |some t=>
    have h1:=h t (by simp[Oper.looksAt,hg,ht]);simp only[de,aw]at h1;simp only[em];rcases fh t a.tmps.size with hl|hl
    ·have hl':t<c.tmps.size:=hz▸hl;simp only[bA hl,bA hl',bx]at h1⊢;rw[h1]
    ·rw[dF hl,dF (hz▸hl)]
  simp only[hy]
theorem Yl.to {o:Oper} {d:Nat} {a c:Act} {w:World} {R:Value->World->Prop} {QQ:Exit->Act->World->Prop} {K:Act->World->Prop} (hdf:a.defers=c.defers) (hd:o.dst=some d) (hz:d<c.tmps.size) (he:execOp a.eval o=execOp c.eval o)
  (h:Yl P QQ o c w R) (hK: ∀v w',R v w'->K (a.put o.dst v) w'):o.wp P a w K (yT QQ):=by
 have h:=h (fun a' w'=>a'.defers=c.defers/\R (de a' d) w') (fun v w' hr=>⟨ie _ _ _,by rw[hd,fX _ _ _ _ hz,if_pos rfl];exact hr⟩);have val: ∀(u:Value) (w':World),((c.put o.dst u).defers=c.defers/\R (de (c.put o.dst u) d) w')->K (a.put o.dst u) w':=fun u w' ⟨_,hr⟩=>by
  rw[hd,fX _ _ _ _ hz,if_pos rfl]at hr;exact hK _ _ hr
 unfold Oper.wp at*;rw[he];generalize (execOp c.eval o).run P w=r at*
 cases r with
 |ok n w'=>
  cases n<;>simp only[Oper.upon]at h⊢
  case value u=>exact val u _ h
  case skip=>exact val _ _ h
  case defer x=>
   have:=h.1;rw[ie]at this;exact absurd (congrArg List.length this) (by simp)
  case enter f args=>
   refine Calls.mono h fun e w'' he=> ?_
   cases e with
   |returned u=>exact val u _ he
   |panicked x=>exact fun a' h'=>he a' (h'.trans hdf)
   |outgrown=>exact he
  case row row args=>exact Rows.mono h fun u w'' he=>val u _ he
 |halt x w'=>
  cases x<;>simp only[Oper.upon]at h⊢;exact fun a' h'=>h a' (h'.trans hdf)
section
variable {QQ:Exit->Act->World->Prop}
variable {f:Nat} {tab:y9} {late:Option Nat} {nw:Nat->Bool} {T U:World->World->Prop} {w0:World} {a0:Act}
def yU (P:Program) (ops:Array Oper) (tab:y9) (U:World->World->Prop) (w0:World) (i:Nat) (o:Oper) (d:Nat) (a:Act):Prop:=
 (Region.wanted o (yielded ops a.tmps)=false->de a d=undef)/\
 (Region.wanted o (yielded ops a.tmps)=true->match tab i with
  |none=> ∀w,U w0 w->(execOp a.eval o).run P w= .ok (.value (de a d)) w
  |some (Sh,_)=>Sh (de a d))
def oG (ops:Array Oper) (m:Nat) (nw:Nat->Bool) (D:Nat->Prop) (a:Act):Prop:=
 ∀(i j:Nat) (oi oj:Oper) (di dj:Nat),D i->D j->i<m->j<m->ops[i]? =some oi->ops[j]? =some oj->oi.dst=some di->oj.dst=some dj->nw i=true->nw j=true->i≠j->
  Region.wanted oi (yielded ops a.tmps)=true->Region.wanted oj (yielded ops a.tmps)=true-> ∀g,pB (de a di)=some g->pB (de a dj)≠some g
structure EL (P:Program) (ops:Array Oper) (m:Nat) (tab:y9) (late:Option Nat) (nw:Nat->Bool) (T U:World->World->Prop) (w0:World) (a0:Act) (D:Nat->Prop) (a:Act) (w:World):Prop where
 step:U w0 w
 early:(∀x,late=some x-> ¬D x)->T w0 w
 size:a.tmps.size=a0.tmps.size
 defers:a.defers=a0.defers
 base: ∀t,(∀(i:Nat) (o:Oper),i<m->ops[i]? =some o->o.dst≠some t)->de a t=de a0 t
 ok: ∀(i:Nat) (o:Oper) (d:Nat),D i->i<m->ops[i]? =some o->o.dst=some d->yU P ops tab U w0 i o d a
 fact: ∀(i:Nat) (o:Oper) (d:Nat),D i->i<m->ops[i]? =some o->o.dst=some d->Region.wanted o (yielded ops a.tmps)=true-> ∀Sh F,tab i=some (Sh,F)->F (de a d) w
 pair:oG ops m nw D a
theorem mY {Fin:Act->List (Nat×(World->Prop))->Prop} (hok:rY pre ops m a0.tmps.size=true) (hT:U w0 w0)
  (h:dY P QQ ops f tab late nw T U w0 Fin (ops.toList.take m) 0 a0 []) {D:Nat->Prop} (hD:ik ops D) {a:Act} {w:World} (hI:EL P ops m tab late nw T U w0 a0 D a w):
  ∀k,k<=m-> ∃c Φ,dY P QQ ops f tab late nw T U w0 Fin ((ops.toList.take m).drop k) k c Φ/\c.tmps.size=a0.tmps.size/\c.defers=a0.defers/\
   (∀t,(∀(i:Nat) (o:Oper),i<m->ops[i]? =some o->o.dst≠some t)->de c t=de a0 t)/\
   (∀(i:Nat) (o:Oper) (d:Nat),i<k->D i->ops[i]? =some o->o.dst=some d->de c d=de a d)/\
   (∀p∈Φ,p.1<k/\ ∃o d Sh F,ops[p.1]? =some o/\o.dst=some d/\tab p.1=some (Sh,F)/\p.2=F (de c d)/\(D p.1->Region.wanted o (yielded ops a.tmps)=true)):=by
 intro k
 induction k with
 |zero=>intro _;exact⟨a0,[],h,rfl,rfl,fun _ _=>rfl,fun i o d hi=>absurd hi (by omega),fun p hp=>by cases hp⟩
 |succ k ih=>
  intro hk;obtain⟨c,Φ,hs,h1,h2,h3,h4,h5⟩:=ih (by omega);obtain⟨o,d,ho,hd,hdl,hsel,hdef,huniq,hlook⟩:=gQ hok (i:=k) (by omega);have hlen:k<(ops.toList.take m).length:=by have:=pd hok;simp;omega
  have hget:(ops.toList.take m)[k]=o:=by
   have:=(Array.getElem?_eq_some_iff.1 ho).2;simp[this]
  rw[ay hlen,hget]at hs
  -- what the next frame is like
  have next: ∀v,(D k->de a d=v)->
    ∀(Ψ:List (Nat×(World->Prop))),(∀p∈Ψ,p∈Φ\/(p.1=k/\ ∃Sh F,tab k=some (Sh,F)/\p.2=F v/\(D k->Region.wanted o (yielded ops a.tmps)=true)))->
    dY P QQ ops f tab late nw T U w0 Fin ((ops.toList.take m).drop (k+1)) (k+1) (c.put o.dst v) Ψ->
    ∃c Φ,dY P QQ ops f tab late nw T U w0 Fin ((ops.toList.take m).drop (k+1)) (k+1) c Φ/\c.tmps.size=a0.tmps.size/\c.defers=a0.defers/\
     (∀t,(∀(i:Nat) (o:Oper),i<m->ops[i]? =some o->o.dst≠some t)->de c t=de a0 t)/\
     (∀(i:Nat) (o:Oper) (d:Nat),i<k+1->D i->ops[i]? =some o->o.dst=some d->de c d=de a d)/\
     (∀p∈Φ,p.1<k+1/\ ∃o d Sh F,ops[p.1]? =some o/\o.dst=some d/\tab p.1=some (Sh,F)/\p.2=F (de c d)/\(D p.1->Region.wanted o (yielded ops a.tmps)=true)):=by
   intro v hv Ψ hΨ hs';have hp: ∀t,de (c.put o.dst v) t=if t=d then v else de c t:=fun t=>by rw[hd];exact fX _ _ _ _ (by rw[h1];exact hdl)
   refine⟨_,Ψ,hs',by rw[dE];exact h1,by rw[ie];exact h2,?_,?_,?_⟩
   ·intro t ht;rw[hp,if_neg (fun e=>ht k o (by omega) ho (by rw[hd,e]))];exact h3 t ht
   ·intro i oi di hi hDi hoi hdi;rw[hp];rcases fh i k with hik|hik
    ·rw[if_neg (fun e=>huniq i (by omega) (by omega) oi hoi (by rw[hdi,e]))];exact h4 i oi di hik hDi hoi hdi
    ·obtain rfl:i=k:=by omega
     rw[ho]at hoi;injection hoi with hoi;subst hoi;rw[hd]at hdi;injection hdi with hdi;subst hdi;rw[if_pos rfl];exact(hv hDi).symm
   ·intro p hp';rcases hΨ p hp' with hin|⟨hpk,Sh,F,ht,hF,hw⟩
    ·obtain⟨hl,op,dp,Sh,F,hop,hdp,htp,hpF,hwp⟩:=h5 p hin;refine⟨by omega,op,dp,Sh,F,hop,hdp,htp,?_,hwp⟩;rw[hp,if_neg (fun e=>huniq p.1 (by omega) (by omega) op hop (by rw[hdp,e]))];exact hpF
    ·refine⟨by omega,o,d,Sh,F,by rw[hpk];exact ho,hd,by rw[hpk];exact ht,?_,by rw[hpk];exact hw⟩;rw[hp,if_pos rfl];exact hF
  -- if k has been carried out, the two frames are the same for it
  have same:D k->fp ops o a c:=fun hDk t ht=>by
   by_cases hex: ∃(i:Nat) (oi:Oper),i<m/\ops[i]? =some oi/\oi.dst=some t
   ·obtain⟨i,oi,him,hoi,hdi⟩:=hex;have hdir:=hlook i him oi t hoi hdi ht;have hik:i<k:=by
     simp only[jX,ho,Option.any_some]at hdir;rw[dS]at hdir;obtain⟨e,he,hb⟩:=hdir;simp only[ak,beq_iff_eq]at hb;have:=o_ hok ho e he hb.1;omega
    exact(h4 i oi t hik (hD k i hDk hdir) hoi hdi).symm
   ·rw[hI.base t (fun i oi him hoi hdi=>hex ⟨i,oi,him,hoi,hdi⟩),h3 t (fun i oi him hoi hdi=>hex ⟨i,oi,him,hoi,hdi⟩)]
  have hz:a.tmps.size=c.tmps.size:=by rw[hI.size,h1]
  obtain⟨hs0,hs1⟩:=hs
  cases hw:Region.wanted o (yielded ops c.tmps)with
  |false=>
   exact next undef (fun hDk=>(hI.ok k o d hDk (by omega) ho hd).1 (by rw[(same hDk).wanted hz];exact hw)) Φ (fun p hp=> .inl hp) (hs0 hw)
  |true=>
   have hs1:=hs1 hw
   cases ht:tab k with
   |none=>
    rw[ht]at hs1;obtain⟨v,hv,hs2⟩:=hs1;refine next v (fun hDk=> ?_) Φ (fun p hp=> .inl hp) hs2;have hok':=(hI.ok k o d hDk (by omega) ho hd).2 (by rw[(same hDk).wanted hz];exact hw);rw[ht]at hok';have e1:=hok' w0 hT;rw[(same hDk).exec hsel,hv w0 hT]at e1;injection e1 with e1;injection e1 with e1;exact e1.symm
   |some sf=>
    obtain⟨Sh,F⟩:=sf;rw[ht]at hs1;obtain⟨⟨v0,hv0⟩,_,hs2⟩:=hs1;by_cases hDk:D k
    ·have hwa:Region.wanted o (yielded ops a.tmps)=true:=by rw[(same hDk).wanted hz];exact hw
     have hok':=(hI.ok k o d hDk (by omega) ho hd).2 hwa;rw[ht]at hok';refine next (de a d) (fun _=>rfl) ((k,F (de a d))::Φ) ?_ (hs2 _ hok');intro p hp;rcases List.mem_cons.1 hp with rfl|hp
     ·exact .inr ⟨rfl,Sh,F,ht,rfl,fun _=>hwa⟩
     ·exact .inl hp
    ·refine next v0 (fun hDk'=>absurd hDk' hDk) ((k,F v0)::Φ) ?_ (hs2 _ hv0);intro p hp;rcases List.mem_cons.1 hp with rfl|hp
     ·exact .inr ⟨rfl,Sh,F,ht,rfl,fun hDk'=>absurd hDk' hDk⟩
     ·exact .inl hp
def qD (m:Nat) (l:Array Bool):Nat:=(List.range m).countP fun i=> !l.getD i true
theorem lE (l:Array Bool) (m:Nat):qD (m+1) l=qD m l+(if l.getD m true=false then 1 else 0):=by
 unfold qD;rw[List.range_succ,List.countP_append,jS]
 cases l.getD m true<;>rfl
theorem oh (l:Array Bool) (i m:Nat) (hlt:i<l.size):(l.setIfInBounds i true).getD m true=if m=i then true else l.getD m true:=by
 simp only[aw,bh];by_cases h:i=m
 ·subst h;simp[hlt]
 ·rw[if_neg h,if_neg (fun e=>h e.symm)]
theorem tD (l:Array Bool) (i:Nat) (hi:l.getD i true=false): ∀m,qD m (l.setIfInBounds i true)+(if i<m then 1 else 0)=qD m l:=by
 have hlt:i<l.size:=by
  rcases fh i l.size with h|h
  ·exact h
  ·simp[aw,dF h]at hi
 intro m
 induction m with
 |zero=>simp[qD]
 |succ m ih=>
  rw[lE,lE,oh _ _ _ hlt];by_cases h:m=i
  ·subst h;rw[hi];simp at ih⊢;omega
  ·rw[if_neg h];have h2:(i<m+1)↔(i<m):=by omega
   simp only[h2];omega
theorem qC {l:Array Bool}: ∀m,qD m l=0-> ∀i,i<m->l.getD i true=true:=by
 intro m h i hi;unfold qD at h;rw[List.countP_eq_zero]at h;have:=h i (by simpa using hi);simpa using this
theorem tE {l:Array Bool}: ∀m,qD m l≠0-> ∃i,i<m/\l.getD i true=false/\ ∀j,j<i->l.getD j true=true:=by
 intro m
 induction m with
 |zero=>simp[qD]
 |succ m ih=>
  intro h;by_cases h0:qD m l=0
  ·refine⟨m,by omega,?_,qC m h0⟩;unfold qD at h h0;rw[List.range_succ,List.countP_append,h0]at h;simp only[jS]at h
   cases hm:l.getD m true<;>simp[hm]at h⊢
  ·obtain⟨i,h1,h2⟩:=ih h0;exact⟨i,by omega,h2⟩
theorem eN {l:Array Bool} {i:Nat}:i∈Region.ready .any ops l↔l.getD i true=false/\ ∃o,ops[i]? =some o/\ ∀e∈o.after,Region.binds .any e=true->l.getD e.on false=true:=by
 unfold Region.ready;rw[List.mem_filter,dQ];constructor
 ·rintro⟨hlt,h⟩;rw[ak]at h;have ho:ops[i]? =some ops[i]:=bA hlt;refine⟨by simpa using h.1,ops[i],ho,fun e he hb=> ?_⟩;have h2:=h.2;rw[ho]at h2;simp only[fG,bx,d6]at h2;have:=h2 e he;simpa[hb]using this
 ·rintro⟨h1,o,ho,h2⟩;refine⟨(Array.getElem?_eq_some_iff.1 ho).1,?_⟩;rw[ak,ho];refine⟨by simp[h1],?_⟩;simp only[fG,bx,d6];intro e he
  cases hb:Region.binds .any e
  ·simp
  ·simp[h2 e he hb]
theorem iG {i j:Nat} {o:Oper} (ho:ops[i]? =some o):jX ops i j=true↔ ∃e∈o.after,Region.binds .any e=true/\e.on=j:=by
 simp only[jX,ho,Option.any_some];rw[dS];simp
def kQ (WO:Nat->(Act->World->Prop)->Act->World->Prop) (N:Act->World->Prop) (ops:Array Oper):Nat->Array Bool->Act->World->Prop
 |0,l,a,w=>Region.ready .any ops l=[]/\N a w
 |fuel+1,l,a,w=>(Region.ready .any ops l=[]->N a w)/\ ∀i∈Region.ready .any ops l,WO i (kQ WO N ops fuel (l.setIfInBounds i true)) a w
def mP (WO:Nat->(Act->World->Prop)->Act->World->Prop) (N:Act->World->Prop):List Nat->Act->World->Prop
 | []=>N
 |i::l=>WO i (mP WO N l)
structure kH (P:Program) (QQ:Exit->Act->World->Prop) (ops:Array Oper) (S:World->Prop) (WO:Nat->(Act->World->Prop)->Act->World->Prop):Prop where
 mono: ∀{i:Nat} {K K':Act->World->Prop} {a:Act} {w:World},(∀a w,K a w->K' a w)->WO i K a w->WO i K' a w
 skip: ∀{i:Nat} {o:Oper} {K:Act->World->Prop} {a:Act} {w:World},ops[i]? =some o->Region.wanted o (yielded ops a.tmps)=false->S w->K (a.put o.dst undef) w->WO i K a w
 run: ∀{i:Nat} {o:Oper} {K:Act->World->Prop} {a:Act} {w:World},ops[i]? =some o->Region.wanted o (yielded ops a.tmps)=true->(∀c,o.op≠ .defer c)->o.wp P a w (fun a' w'=>S w'/\K a' w') (yT QQ)->WO i K a w
structure oE (P:Program) (QQ:Exit->Act->World->Prop) (ops:Array Oper) (WO:Nat->(Act->World->Prop)->Act->World->Prop):Prop where
 mono: ∀{i:Nat} {K K':Act->World->Prop} {a:Act} {w:World},(∀a w,K a w->K' a w)->WO i K a w->WO i K' a w
 skip: ∀{i:Nat} {o:Oper} {K:Act->World->Prop} {a:Act} {w:World},ops[i]? =some o->Region.wanted o (yielded ops a.tmps)=false->K (a.put o.dst undef) w->WO i K a w
 run: ∀{i:Nat} {o:Oper} {K:Act->World->Prop} {a:Act} {w:World},ops[i]? =some o->Region.wanted o (yielded ops a.tmps)=true->(∀c,o.op≠ .defer c)->o.wp P a w K (yT QQ)->WO i K a w
theorem oE.toS {S:World->Prop} {WO:Nat->(Act->World->Prop)->Act->World->Prop} (h:oE P QQ ops WO):kH P QQ ops S WO where
 mono:=h.mono
 skip:=fun ho hw _ hk=>h.skip ho hw hk
 run:=fun ho hw hd hk=>h.mono (fun _ _ hk=>hk.2) (h.run ho hw hd hk)
def jx (ops:Array Oper) (tk:List Nat) (l:Array Bool):Option Nat:=tk.find? fun j=>(Region.ready .any ops l).contains j
theorem mV {tk:List Nat} {l:Array Bool} {i:Nat} (h:jx ops tk l=some i):i∈tk/\i∈Region.ready .any ops l:=
 ⟨bT h,by have:=List.find?_some h;simpa using this⟩
theorem ry {tk:List Nat} {l:Array Bool} (h:jx ops tk l=none): ∀j∈tk,¬j∈Region.ready .any ops l:=fun j hj hr=>by
 have:=List.find?_eq_none.1 h j hj;exact this (by simpa using hr)
def ze (ops:Array Oper) (tk:List Nat) (m:Nat):Bool:=
 tk.all fun i=>decide (i<m)&&(List.range ops.size).all fun j=>j==i||jX ops j i||mL ops 4 i j||(match ops[i]?,ops[j]? with|some oi,some oj=>oi.apart ops oj| _,_=>false)
theorem wI {tk:List Nat} (h:ze ops tk m=true) {i:Nat} (hi:i∈tk):i<m:=by
 simp only[ze,b_,ak,decide_eq_true_eq]at h;exact(h i hi).1
theorem uN {tk:List Nat} (h:ze ops tk m=true) {i j:Nat} (hi:i∈tk) {oi oj:Oper} (hoi:ops[i]? =some oi) (hoj:ops[j]? =some oj) (hji:j≠i) (h1:jX ops j i=false) (h2:mL ops 4 i j=false):oi.apart ops oj=true:=by
 simp only[ze,b_,ak,decide_eq_true_eq]at h;have h3:=(h i hi).2 j (by rw[dQ];exact(Array.getElem?_eq_some_iff.1 hoj).1);rw[hoi,hoj,h1,h2]at h3;have h4:(j==i)=false:=by simpa using hji
 rw[h4]at h3;simpa using h3
def kP (P:Program) (ops:Array Oper) (tk:List Nat) (S:World->Prop) (WO:Nat->(Act->World->Prop)->Act->World->Prop) (N:Act->World->Prop):Nat->Array Bool->Act->World->Prop
 |0,l,a,w=>Region.ready .any ops l=[]/\N a w
 |fuel+1,l,a,w=>match jx ops tk l with
  |some i=> ∃v o,ops[i]? =some o/\YieldsIf P ops S o v a/\kP P ops tk S WO N fuel (l.setIfInBounds i true) (a.put o.dst v) w
  |none=>(Region.ready .any ops l=[]->N a w)/\ ∀i∈Region.ready .any ops l,WO i (kP P ops tk S WO N fuel (l.setIfInBounds i true)) a w
section
variable {tk:List Nat} {S:World->Prop} {WO:Nat->(Act->World->Prop)->Act->World->Prop} {N:Act->World->Prop}
theorem wd {fuel:Nat} {l:Array Bool} {a:Act} {w:World} {i:Nat} (h:jx ops tk l=some i)
  (hk: ∃v o,ops[i]? =some o/\YieldsIf P ops S o v a/\kP P ops tk S WO N fuel (l.setIfInBounds i true) (a.put o.dst v) w):kP P ops tk S WO N (fuel+1) l a w:=by
 simp only[kP,h];exact hk
theorem pI {fuel:Nat} {l:Array Bool} {a:Act} {w:World} (h:jx ops tk l=none)
  (hk:(Region.ready .any ops l=[]->N a w)/\ ∀i∈Region.ready .any ops l,WO i (kP P ops tk S WO N fuel (l.setIfInBounds i true)) a w):kP P ops tk S WO N (fuel+1) l a w:=by
 simp only[kP,h];exact hk
theorem rz {l:Array Bool} (h: ∀j∈tk,l.getD j true=true):jx ops tk l=none:=by
 unfold jx;rw[List.find?_eq_none];intro j hj hr;have hr:j∈Region.ready .any ops l:=by simpa using hr
 have:=(eN.1 hr).1;rw[h j hj]at this
 cases this
theorem mb {S':World->Prop} (hW:kH P QQ ops S' WO): ∀(fuel:Nat) (l:Array Bool) (a:Act) (w:World),(∀j∈tk,l.getD j true=true)->kQ WO N ops fuel l a w->kP P ops tk S WO N fuel l a w
 |0,_,_,_,_,h=>h
 |fuel+1,l,a,w,hd,h=>pI (rz hd) ⟨h.1,fun i hi=>hW.mono (fun a w h'=>mb hW fuel _ a w (fun j hj=>by
   have:=hd j hj;simp only[aw,bh]at this⊢;split
   ·split<;>rfl
   ·exact this) h') (h.2 i hi)⟩
end
variable {WO:Nat->(Act->World->Prop)->Act->World->Prop} {N:Act->World->Prop} {S:World->Prop}
theorem qH (hW:kH P QQ ops S WO) (hok:rY pre ops m size=true) (hT:Dz ops m=true): ∀(r k:Nat) (l:Array Bool) (a:Act) (w:World),r=ops.size-k->m<=k->k<=ops.size->l.size=ops.size->(∀i,i<ops.size->l.getD i true=decide (i<k))->
  mP WO N (List.range' k (ops.size-k)) a w->kQ WO N ops r l a w:=by
 intro r
 induction r with
 |zero=>
  intro k l a w hr _ hk hl hlk h;obtain rfl:k=ops.size:=by omega
  refine⟨?_,by rw[Nat.sub_self]at h;exact h⟩;rw[List.eq_nil_iff_forall_not_mem];intro i hi;obtain⟨h1,o,ho,_⟩:=eN.1 hi;have hlt:=(Array.getElem?_eq_some_iff.1 ho).1;rw[hlk i hlt]at h1;simp at h1;omega
 |succ r ih=>
  intro k l a w hr hm hk hl hlk h;have hk':k<ops.size:=by omega
  have hok':ops[k]? =some ops[k]:=bA hk';refine⟨fun hnil=> ?_,fun i hi=> ?_⟩
  ·have:k∈Region.ready .any ops l:=eN.2 ⟨by rw[hlk k hk'];simp,_,hok',fun e he hbe=>by
    have h1:=o_ hok hok' e he hbe;have h2:=hlk e.on (by omega);simp only[aw]at h2⊢;have h3:e.on<l.size:=by omega
    simp only[bA h3,bx]at h2⊢
    rw[h2];simp;omega⟩
   rw[hnil]at this
   cases this
  ·obtain⟨h1,o,ho,h2⟩:=eN.1 hi;have hilt:=(Array.getElem?_eq_some_iff.1 ho).1;have hki:k<=i:=by rw[hlk i hilt]at h1;simpa using h1
   obtain rfl:i=k:=by
    rcases fh k i with hlt|hge
    ·rcases xw hT (i:=i) (by omega) hilt with h3|h3
     ·omega
     ·obtain⟨e,he,hb,hon⟩:=(iG ho).1 h3;have h4:=h2 e he hb;have h5:=hlk e.on (by omega);have h6:e.on<l.size:=by omega
      simp only[aw,bA h6,bx]at h4 h5;rw[h4]at h5;simp at h5;omega
    ·omega
   have hrec: ∀a w,mP WO N (List.range' (i+1) (ops.size-(i+1))) a w->kQ WO N ops r (l.setIfInBounds i true) a w:=fun a w hh=>
    ih (i+1) _ a w (by omega) (by omega) (by omega) (by simpa using hl) (fun j hj=>by
     simp only[aw,bh];by_cases hji:i=j
     ·subst hji;simp[hl,hj]
     ·rw[if_neg hji];have:=hlk j hj;simp only[aw]at this;rw[this];simp only[decide_eq_decide]
      omega) hh
   rw[show ops.size-i=(ops.size-(i+1))+1 from by omega,List.range'_succ]at h;exact hW.mono hrec h
theorem pl {TL:Act->World->Prop} (htk:ze ops pre m=true) (htn: ∀j∈pre,tab j=none) (hTL: ∀(l:Array Bool) (a:Act) (w:World),l.size=ops.size->(∀i,i<ops.size->l.getD i true=decide (i<m))->TL a w->kQ WO N ops (ops.size-m+0) l a w) (hW:kH P QQ ops (U w0) WO) (hok:rY pre ops m a0.tmps.size=true) (hTr:U w0 w0) (hTt: ∀a b c,U a b->U b c->U a c) (hTU: ∀a b,T a b->U a b) (hTT: ∀a b c,T a b->T b c->T a c) (hTs: ∀i Sh F,tab i=some (Sh,F)-> ∀v w w',F v w->T w w'->F v w')
  (hUs: ∀i Sh F,late≠some i->tab i=some (Sh,F)-> ∀v w w',F v w->U w w'->F v w') (hT1: ∀w,T w w)
  (hNw: ∀i,nw i=true-> ∃Sh F,tab i=some (Sh,F)/\ ∀v w,F v w-> ∀g,pB v=some g->g<w.heap.size)
  (h:dY P QQ ops f tab late nw T U w0 (fun a Φ=> ∀w,U w0 w->(∀p∈Φ,p.2 w)->oG ops m nw (fun _=>True) a->TL a w) (ops.toList.take m) 0 a0 []):
  ∀(n:Nat) (l:Array Bool) (a:Act) (w:World),n=qD m l->l.size=ops.size->(∀i,i<ops.size->m<=i->l.getD i true=false)->ik ops (fun i=>l.getD i false=true)->
   EL P ops m tab late nw T U w0 a0 (fun i=>l.getD i false=true) a w->kP P ops pre (U w0) WO N (ops.size-m+n) l a w:=by
 have hmle:=pd hok;intro n
 induction n with
 |zero=>
  intro l a w hn hl hm hC hI;have hall:=qC m hn.symm;have hD: ∀i,i<m->l.getD i false=true:=fun i hi=>by
   have h1:=hall i hi;have h3:i<l.size:=by omega
   simp only[aw,bA h3,bx]at h1⊢;exact h1
  obtain⟨c,Φ,hs,h1,h2,h3,h4,h5⟩:=mY hok hTr h hC hI m (ah _);rw[aF (l:=ops.toList.take m) (i:=m) (List.length_take_le _ _)]at hs
  obtain rfl:c=a:=AP (by rw[h1,hI.size]) (fun t=>by
   by_cases hex: ∃(i:Nat) (oi:Oper),i<m/\ops[i]? =some oi/\oi.dst=some t
   ·obtain⟨i,oi,him,hoi,hdi⟩:=hex;exact h4 i oi t him (hD i him) hoi hdi
   ·rw[hI.base t (fun i oi him hoi hdi=>hex ⟨i,oi,him,hoi,hdi⟩),h3 t (fun i oi him hoi hdi=>hex ⟨i,oi,him,hoi,hdi⟩)]) (by rw[h2,hI.defers])
  refine mb hW (ops.size-m+0) l c w (fun j hj=>hall j (wI htk hj)) ?_;refine hTL l c w hl (fun i hi=> ?_) (hs w hI.step (fun p hp=> ?_) ?_)
  ·by_cases him:i<m
   ·rw[hall i him];simp[him]
   ·rw[hm i hi (by omega)];simp[him]
  ·obtain⟨hlt,o,d,Sh,F,ho,hd,ht,hF,hw⟩:=h5 p hp;rw[hF];exact hI.fact p.1 o d (hD _ hlt) hlt ho hd (hw (hD _ hlt)) Sh F ht
  ·intro i j oi oj di dj _ _ hi hj;exact hI.pair i j oi oj di dj (hD i hi) (hD j hj) hi hj
 |succ n ih=>
  intro l a w hn hl hm hC hI;have hlf: ∀i,i<ops.size->l.getD i false=l.getD i true:=fun i hi=>by
   have h3:i<l.size:=by omega
   simp only[aw,bA h3,bx]
  have hsz:ops.size-m+(n+1)=(ops.size-m+n)+1:=by omega
  rw[hsz]
  cases hft:jx ops pre l with
  |some i=>
   refine wd hft ?_;obtain⟨hit,hi⟩:=mV hft;obtain⟨h1,o',ho',h2⟩:=eN.1 hi;have hilt:=(Array.getElem?_eq_some_iff.1 ho').1;have hdeps: ∀k,jX ops i k=true->l.getD k false=true:=fun k hk=>by
    obtain⟨e,he,hb,hon⟩:=(iG ho').1 hk;rw[<-hon];exact h2 e he hb
   have him:i<m:=wI htk hit;obtain⟨o,d,ho,hd,hdl,hsel,hdef,huniq,hlook⟩:=gQ hok him;rw[ho]at ho';injection ho' with ho';subst ho';obtain⟨c,Φ,hs,g1,g2,g3,g4,g5⟩:=mY hok hTr h hC hI i (by omega);have hlen:i<(ops.toList.take m).length:=by simp;omega
   have hget:(ops.toList.take m)[i]=o:=by
    have:=(Array.getElem?_eq_some_iff.1 ho).2;simp[this]
   rw[ay hlen,hget]at hs;have same:fp ops o a c:=fun t ht=>by
    by_cases hex: ∃(k:Nat) (oi:Oper),k<m/\ops[k]? =some oi/\oi.dst=some t
    ·obtain⟨k,oi,hkm,hoi,hdi⟩:=hex;have hdir:=hlook k hkm oi t hoi hdi ht;have hik:k<i:=by
      obtain⟨e,he,hb,hon⟩:=(iG ho).1 hdir;have:=o_ hok ho e he hb;omega
     exact(g4 k oi t hik (hdeps k hdir) hoi hdi).symm
    ·rw[hI.base t (fun i oi him hoi hdi=>hex ⟨i,oi,him,hoi,hdi⟩),g3 t (fun i oi him hoi hdi=>hex ⟨i,oi,him,hoi,hdi⟩)]
   have hz:a.tmps.size=c.tmps.size:=by rw[hI.size,g1]
   have hC':ik ops (fun j=>(l.setIfInBounds i true).getD j false=true):=fun j k hj hjk=>by
    have set: ∀j,(l.setIfInBounds i true).getD j false=if j=i then true else l.getD j false:=fun j=>by
     simp only[aw,bh];by_cases h:i=j
     ·subst h;simp[hl,hilt]
     ·rw[if_neg h,if_neg (fun e=>h e.symm)]
    simp only[set]at hj⊢;by_cases hji:j=i
    ·subst hji;by_cases hki:k=j
     ·rw[if_pos hki]
     ·rw[if_neg hki];exact hdeps k hjk
    ·rw[if_neg hji]at hj;by_cases hki:k=i
     ·rw[if_pos hki]
     ·rw[if_neg hki];exact hC j k hj hjk
   -- the step: a value v in de d
   have go: ∀v w',(if late=some i then U w w' else T w w')->yU P ops tab U w0 i o d (a.put o.dst v)->(Region.wanted o (yielded ops a.tmps)=true-> ∀Sh F,tab i=some (Sh,F)->F v w')->(nw i=true-> ∀g,pB v=some g->w.heap.size<=g)->
     kP P ops pre (U w0) WO N (ops.size-m+n) (l.setIfInBounds i true) (a.put o.dst v) w':=by
    intro v w' hstep0 hOk hFact hNew;have hstep:U w w':=by
     by_cases hl:late=some i
     ·rw[if_pos hl]at hstep0;exact hstep0
     ·rw[if_neg hl]at hstep0;exact hTU _ _ hstep0
    have hp: ∀t,de (a.put o.dst v) t=if t=d then v else de a t:=fun t=>by rw[hd];exact fX _ _ _ _ (by rw[hI.size];exact hdl)
    have other: ∀(j:Nat) (oj:Oper) (dj:Nat),(l.setIfInBounds i true).getD j false=true->j≠i->j<m->ops[j]? =some oj->oj.dst=some dj->l.getD j false=true/\dj≠d/\fp ops oj (a.put o.dst v) a:=by
     intro j oj dj hj hji hjm hoj hdj;have hj':l.getD j false=true:=by
      simp only[aw,bh]at hj⊢;rw[if_neg (fun e=>hji e.symm)]at hj;exact hj
     refine⟨hj',fun e=>huniq j hjm hji oj hoj (by rw[hdj,e]),fun t ht=> ?_⟩;rw[hp];by_cases htd:t=d
     ·subst htd;obtain⟨oj2,dj2,hoj2,_,_,_,_,_,hlook2⟩:=gQ hok hjm;rw[hoj]at hoj2;injection hoj2 with hoj2;subst hoj2;have:=hC j i hj' (hlook2 i him o t ho hd ht);simp only[]at this;rw[hlf i hilt,h1]at this
      cases this
     ·rw[if_neg htd]
    refine ih _ _ _ ?_ (by simpa using hl) ?_ hC' ⟨hTt _ _ _ hI.step hstep,?_,by rw[dE,hI.size],by rw[ie,hI.defers],?_,?_,?_,?_⟩
    ·have:=tD l i h1 m;rw[if_pos him]at this;omega
    ·intro j hj hmj;rw[oh _ _ _ (by omega),if_neg (by omega)];exact hm j hj hmj
    ·intro hE;have hni:late≠some i:=fun e=>hE i e (by simp[aw,hl,hilt]);rw[if_neg hni]at hstep0;refine hTT _ _ _ (hI.early fun x hx hDx=>hE x hx ?_) hstep0;simp only[aw,bh]at hDx⊢;by_cases hxi:i=x
     ·subst hxi;simp[hl,hilt]
     ·rw[if_neg hxi];exact hDx
    ·intro t ht;rw[hp,if_neg (fun e=>ht i o him ho (by rw[hd,e]))];exact hI.base t ht
    ·intro j oj dj hj hjm hoj hdj;by_cases hji:j=i
     ·subst hji;rw[ho]at hoj;injection hoj with hoj;subst hoj;rw[hd]at hdj;injection hdj with hdj;subst hdj;exact hOk
     ·obtain⟨hj',hne,hsame⟩:=other j oj dj hj hji hjm hoj hdj;obtain⟨oj2,_,hoj2,_,_,hsel2,_,_⟩:=gQ hok hjm;rw[hoj]at hoj2;injection hoj2 with hoj2;subst hoj2;have hok0:=hI.ok j oj dj hj' hjm hoj hdj;unfold yU at hok0⊢;rw[hsame.wanted (dE _ _ _),hsame.exec hsel2,hp,if_neg hne];exact hok0
    ·intro j oj dj hj hjm hoj hdj hwj Sh F ht;rw[hp];by_cases hji:j=i
     ·subst hji;rw[ho]at hoj;injection hoj with hoj;subst hoj;rw[hd]at hdj;injection hdj with hdj;subst hdj;rw[if_pos rfl];have hself:fp ops o (a.put o.dst v) a:=fun t ht'=>by
       rw[hp,if_neg];intro e;subst e;have:=hdeps j (hlook j him o t ho hd ht');rw[hlf j hilt,h1]at this
       cases this
      exact hFact (by rw[<-hself.wanted (dE _ _ _)];exact hwj) Sh F ht
     ·obtain⟨hj',hne,hsame⟩:=other j oj dj hj hji hjm hoj hdj;rw[if_neg hne];have hF:=hI.fact j oj dj hj' hjm hoj hdj (by rw[<-hsame.wanted (dE _ _ _)];exact hwj) Sh F ht;by_cases hl:late=some i
      ·exact hUs j Sh F (fun e=>hji (by rw[hl]at e;injection e with e;exact e.symm)) ht _ _ _ hF hstep
      ·rw[if_neg hl]at hstep0;exact hTs j Sh F ht _ _ _ hF hstep0
    ·intro j k oj ok dj dk hj hk hjm hkm hoj hok' hdj hdk hnj hnk hne hwj hwk g hgj hgk;have old: ∀(k:Nat) (ok:Oper) (dk:Nat),(l.setIfInBounds i true).getD k false=true->k≠i->k<m->ops[k]? =some ok->ok.dst=some dk->nw k=true->Region.wanted ok (yielded ops (a.put o.dst v).tmps)=true->
       l.getD k false=true/\Region.wanted ok (yielded ops a.tmps)=true/\de (a.put o.dst v) dk=de a dk/\ ∀g,pB (de a dk)=some g->g<w.heap.size:=fun k ok dk hk hki hkm hok hdk hnk hwk=>by
      obtain⟨hk',hne,hsame⟩:=other k ok dk hk hki hkm hok hdk;have hwk':Region.wanted ok (yielded ops a.tmps)=true:=by rw[<-hsame.wanted (dE _ _ _)];exact hwk
      refine⟨hk',hwk',by rw[hp,if_neg hne],fun g hg=> ?_⟩;obtain⟨Sh,F,ht,hold⟩:=hNw k hnk;exact hold _ _ (hI.fact k ok dk hk' hkm hok hdk hwk' Sh F ht) g hg
     by_cases hji:j=i
     ·subst hji;rw[ho]at hoj;injection hoj with hoj;subst hoj;rw[hd]at hdj;injection hdj with hdj;subst hdj;rw[hp,if_pos rfl]at hgj;obtain⟨_,_,e1,e2⟩:=old k ok dk hk (fun e=>hne e.symm) hkm hok' hdk hnk hwk;rw[e1]at hgk;have h1:=hNew hnj g hgj;have h2:=e2 g hgk;omega
     ·obtain⟨j1,j2,e1,e2⟩:=old j oj dj hj hji hjm hoj hdj hnj hwj;rw[e1]at hgj;by_cases hki:k=i
      ·subst hki;rw[ho]at hok';injection hok' with hok';subst hok';rw[hd]at hdk;injection hdk with hdk;subst hdk;rw[hp,if_pos rfl]at hgk;have h1:=hNew hnk g hgk;have h2:=e2 g hgj;omega
      ·obtain⟨k1,k2,e3,_⟩:=old k ok dk hk hki hkm hok' hdk hnk hwk;rw[e3]at hgk;exact hI.pair j k oj ok dj dk j1 k1 hjm hkm hoj hok' hdj hdk hnj hnk hne j2 k2 g hgj hgk
   have self: ∀v,fp ops o (a.put o.dst v) a:=fun v t ht'=>by
    have hp: ∀t,de (a.put o.dst v) t=if t=d then v else de a t:=fun t=>by rw[hd];exact fX _ _ _ _ (by rw[hI.size];exact hdl)
    rw[hp,if_neg];intro e;subst e;have:=hdeps i (hlook i him o t ho hd ht');rw[hlf i hilt,h1]at this
    cases this
   have own: ∀v,de (a.put o.dst v) d=v:=fun v=>by rw[hd,fX _ _ _ _ (by rw[hI.size];exact hdl),if_pos rfl]
   obtain⟨_,hs1⟩:=hs
   cases hw:Region.wanted o (yielded ops a.tmps)with
   |true=>
    have hs1:=hs1 (by rw[<-same.wanted hz];exact hw);have ht:=htn i hit;rw[ht]at hs1;obtain⟨v,hv,_⟩:=hs1;refine⟨v,o,ho, .inl ⟨hw,fun w1 hw1=>by rw[same.exec hsel];exact hv w1 hw1⟩,go v w (by split;exact hTU _ _ (hT1 w);exact hT1 w) ⟨fun hf=> ?_,fun _=> ?_⟩ (fun _ Sh F h=>by rw[ht]at h;cases h) (fun hn=>by obtain⟨_,_,h,_⟩:=hNw i hn;rw[ht]at h;cases h)⟩
    ·rw[(self v).wanted (dE _ _ _),hw]at hf;cases hf
    ·rw[ht];intro w1 hw1;rw[(self v).exec hsel,same.exec hsel,own];exact hv w1 hw1
   |false=>
    have hwf:=hw;refine⟨undef,o,ho, .inr ⟨hw,rfl⟩,go undef w (by split;exact hTU _ _ (hT1 w);exact hT1 w) ⟨fun _=>own undef,fun hf=> ?_⟩ (fun h=>by rw[hwf]at h;cases h) (fun _ g hg=>by cases hg)⟩;rw[(self undef).wanted (dE _ _ _),hwf]at hf
    cases hf
  |none=>
   refine pI hft ⟨fun hnil=> ?_,fun i hi=> ?_⟩
   ·obtain⟨i,him,hi0,hib⟩:=tE m (l:=l) (by omega);obtain⟨o,d,ho,_⟩:=gQ hok him
    have:i∈Region.ready .any ops l:=eN.2 ⟨hi0,o,ho,fun e he hbe=>by
     have h1:=o_ hok ho e he hbe;rw[hlf _ (by omega)]
     exact hib _ h1⟩
    rw[hnil]at this
    cases this
   ·skip
    obtain⟨h1,o',ho',h2⟩:=eN.1 hi;have hilt:=(Array.getElem?_eq_some_iff.1 ho').1;have hdeps: ∀k,jX ops i k=true->l.getD k false=true:=fun k hk=>by
     obtain⟨e,he,hb,hon⟩:=(iG ho').1 hk;rw[<-hon];exact h2 e he hb
    have him:i<m:=by
     rcases fh i m with h3|h3
     ·exact h3
     ·exfalso
      obtain⟨j,hj,hj0,hjb⟩:=tE m (l:=l) (by omega);by_cases hjt:j∈pre
      ·obtain⟨oj,dj,hoj,_⟩:=gQ hok hj
       have hjr:j∈Region.ready .any ops l:=eN.2 ⟨hj0,oj,hoj,fun e he hbe=>by
        have h1:=o_ hok hoj e he hbe;rw[hlf _ (by omega)]
        exact hjb _ h1⟩
       exact ry hft j hjt hjr
      ·have h4:=ks (D:=fun i=>l.getD i false=true) hC 4 i j hdeps (zJ hok h3 hilt j hj hjt);rw[hlf j (by omega)]at h4;rw[hj0]at h4
       cases h4
    obtain⟨o,d,ho,hd,hdl,hsel,hdef,huniq,hlook⟩:=gQ hok him;rw[ho]at ho';injection ho' with ho';subst ho';obtain⟨c,Φ,hs,g1,g2,g3,g4,g5⟩:=mY hok hTr h hC hI i (by omega);have hlen:i<(ops.toList.take m).length:=by simp;omega
    have hget:(ops.toList.take m)[i]=o:=by
     have:=(Array.getElem?_eq_some_iff.1 ho).2;simp[this]
    rw[ay hlen,hget]at hs;have same:fp ops o a c:=fun t ht=>by
     by_cases hex: ∃(k:Nat) (oi:Oper),k<m/\ops[k]? =some oi/\oi.dst=some t
     ·obtain⟨k,oi,hkm,hoi,hdi⟩:=hex;have hdir:=hlook k hkm oi t hoi hdi ht;have hik:k<i:=by
       obtain⟨e,he,hb,hon⟩:=(iG ho).1 hdir;have:=o_ hok ho e he hb;omega
      exact(g4 k oi t hik (hdeps k hdir) hoi hdi).symm
     ·rw[hI.base t (fun i oi him hoi hdi=>hex ⟨i,oi,him,hoi,hdi⟩),g3 t (fun i oi him hoi hdi=>hex ⟨i,oi,him,hoi,hdi⟩)]
    have hz:a.tmps.size=c.tmps.size:=by rw[hI.size,g1]
    have hC':ik ops (fun j=>(l.setIfInBounds i true).getD j false=true):=fun j k hj hjk=>by
     have set: ∀j,(l.setIfInBounds i true).getD j false=if j=i then true else l.getD j false:=fun j=>by
      simp only[aw,bh];by_cases h:i=j
      ·subst h;simp[hl,hilt]
      ·rw[if_neg h,if_neg (fun e=>h e.symm)]
     simp only[set]at hj⊢;by_cases hji:j=i
     ·subst hji;by_cases hki:k=j
      ·rw[if_pos hki]
      ·rw[if_neg hki];exact hdeps k hjk
     ·rw[if_neg hji]at hj;by_cases hki:k=i
      ·rw[if_pos hki]
      ·rw[if_neg hki];exact hC j k hj hjk
    -- the step: a value v in de d
    have go: ∀v w',(if late=some i then U w w' else T w w')->yU P ops tab U w0 i o d (a.put o.dst v)->(Region.wanted o (yielded ops a.tmps)=true-> ∀Sh F,tab i=some (Sh,F)->F v w')->(nw i=true-> ∀g,pB v=some g->w.heap.size<=g)->
      kP P ops pre (U w0) WO N (ops.size-m+n) (l.setIfInBounds i true) (a.put o.dst v) w':=by
     intro v w' hstep0 hOk hFact hNew;have hstep:U w w':=by
      by_cases hl:late=some i
      ·rw[if_pos hl]at hstep0;exact hstep0
      ·rw[if_neg hl]at hstep0;exact hTU _ _ hstep0
     have hp: ∀t,de (a.put o.dst v) t=if t=d then v else de a t:=fun t=>by rw[hd];exact fX _ _ _ _ (by rw[hI.size];exact hdl)
     have other: ∀(j:Nat) (oj:Oper) (dj:Nat),(l.setIfInBounds i true).getD j false=true->j≠i->j<m->ops[j]? =some oj->oj.dst=some dj->l.getD j false=true/\dj≠d/\fp ops oj (a.put o.dst v) a:=by
      intro j oj dj hj hji hjm hoj hdj;have hj':l.getD j false=true:=by
       simp only[aw,bh]at hj⊢;rw[if_neg (fun e=>hji e.symm)]at hj;exact hj
      refine⟨hj',fun e=>huniq j hjm hji oj hoj (by rw[hdj,e]),fun t ht=> ?_⟩;rw[hp];by_cases htd:t=d
      ·subst htd;obtain⟨oj2,dj2,hoj2,_,_,_,_,_,hlook2⟩:=gQ hok hjm;rw[hoj]at hoj2;injection hoj2 with hoj2;subst hoj2;have:=hC j i hj' (hlook2 i him o t ho hd ht);simp only[]at this;rw[hlf i hilt,h1]at this
       cases this
      ·rw[if_neg htd]
     refine ih _ _ _ ?_ (by simpa using hl) ?_ hC' ⟨hTt _ _ _ hI.step hstep,?_,by rw[dE,hI.size],by rw[ie,hI.defers],?_,?_,?_,?_⟩
     ·have:=tD l i h1 m;rw[if_pos him]at this;omega
     ·intro j hj hmj;rw[oh _ _ _ (by omega),if_neg (by omega)];exact hm j hj hmj
     ·intro hE;have hni:late≠some i:=fun e=>hE i e (by simp[aw,hl,hilt]);rw[if_neg hni]at hstep0;refine hTT _ _ _ (hI.early fun x hx hDx=>hE x hx ?_) hstep0;simp only[aw,bh]at hDx⊢;by_cases hxi:i=x
      ·subst hxi;simp[hl,hilt]
      ·rw[if_neg hxi];exact hDx
     ·intro t ht;rw[hp,if_neg (fun e=>ht i o him ho (by rw[hd,e]))];exact hI.base t ht
     ·intro j oj dj hj hjm hoj hdj;by_cases hji:j=i
      ·subst hji;rw[ho]at hoj;injection hoj with hoj;subst hoj;rw[hd]at hdj;injection hdj with hdj;subst hdj;exact hOk
      ·obtain⟨hj',hne,hsame⟩:=other j oj dj hj hji hjm hoj hdj;obtain⟨oj2,_,hoj2,_,_,hsel2,_,_⟩:=gQ hok hjm;rw[hoj]at hoj2;injection hoj2 with hoj2;subst hoj2;have hok0:=hI.ok j oj dj hj' hjm hoj hdj;unfold yU at hok0⊢;rw[hsame.wanted (dE _ _ _),hsame.exec hsel2,hp,if_neg hne];exact hok0
     ·intro j oj dj hj hjm hoj hdj hwj Sh F ht;rw[hp];by_cases hji:j=i
      ·subst hji;rw[ho]at hoj;injection hoj with hoj;subst hoj;rw[hd]at hdj;injection hdj with hdj;subst hdj;rw[if_pos rfl];have hself:fp ops o (a.put o.dst v) a:=fun t ht'=>by
        rw[hp,if_neg];intro e;subst e;have:=hdeps j (hlook j him o t ho hd ht');rw[hlf j hilt,h1]at this
        cases this
       exact hFact (by rw[<-hself.wanted (dE _ _ _)];exact hwj) Sh F ht
      ·obtain⟨hj',hne,hsame⟩:=other j oj dj hj hji hjm hoj hdj;rw[if_neg hne];have hF:=hI.fact j oj dj hj' hjm hoj hdj (by rw[<-hsame.wanted (dE _ _ _)];exact hwj) Sh F ht;by_cases hl:late=some i
       ·exact hUs j Sh F (fun e=>hji (by rw[hl]at e;injection e with e;exact e.symm)) ht _ _ _ hF hstep
       ·rw[if_neg hl]at hstep0;exact hTs j Sh F ht _ _ _ hF hstep0
     ·intro j k oj ok dj dk hj hk hjm hkm hoj hok' hdj hdk hnj hnk hne hwj hwk g hgj hgk;have old: ∀(k:Nat) (ok:Oper) (dk:Nat),(l.setIfInBounds i true).getD k false=true->k≠i->k<m->ops[k]? =some ok->ok.dst=some dk->nw k=true->Region.wanted ok (yielded ops (a.put o.dst v).tmps)=true->
        l.getD k false=true/\Region.wanted ok (yielded ops a.tmps)=true/\de (a.put o.dst v) dk=de a dk/\ ∀g,pB (de a dk)=some g->g<w.heap.size:=fun k ok dk hk hki hkm hok hdk hnk hwk=>by
       obtain⟨hk',hne,hsame⟩:=other k ok dk hk hki hkm hok hdk;have hwk':Region.wanted ok (yielded ops a.tmps)=true:=by rw[<-hsame.wanted (dE _ _ _)];exact hwk
       refine⟨hk',hwk',by rw[hp,if_neg hne],fun g hg=> ?_⟩;obtain⟨Sh,F,ht,hold⟩:=hNw k hnk;exact hold _ _ (hI.fact k ok dk hk' hkm hok hdk hwk' Sh F ht) g hg
      by_cases hji:j=i
      ·subst hji;rw[ho]at hoj;injection hoj with hoj;subst hoj;rw[hd]at hdj;injection hdj with hdj;subst hdj;rw[hp,if_pos rfl]at hgj;obtain⟨_,_,e1,e2⟩:=old k ok dk hk (fun e=>hne e.symm) hkm hok' hdk hnk hwk;rw[e1]at hgk;have h1:=hNew hnj g hgj;have h2:=e2 g hgk;omega
      ·obtain⟨j1,j2,e1,e2⟩:=old j oj dj hj hji hjm hoj hdj hnj hwj;rw[e1]at hgj;by_cases hki:k=i
       ·subst hki;rw[ho]at hok';injection hok' with hok';subst hok';rw[hd]at hdk;injection hdk with hdk;subst hdk;rw[hp,if_pos rfl]at hgk;have h1:=hNew hnk g hgk;have h2:=e2 g hgj;omega
       ·obtain⟨k1,k2,e3,_⟩:=old k ok dk hk hki hkm hok' hdk hnk hwk;rw[e3]at hgk;exact hI.pair j k oj ok dj dk j1 k1 hjm hkm hoj hok' hdj hdk hnj hnk hne j2 k2 g hgj hgk
    have self: ∀v,fp ops o (a.put o.dst v) a:=fun v t ht'=>by
     have hp: ∀t,de (a.put o.dst v) t=if t=d then v else de a t:=fun t=>by rw[hd];exact fX _ _ _ _ (by rw[hI.size];exact hdl)
     rw[hp,if_neg];intro e;subst e;have:=hdeps i (hlook i him o t ho hd ht');rw[hlf i hilt,h1]at this
     cases this
    have own: ∀v,de (a.put o.dst v) d=v:=fun v=>by rw[hd,fX _ _ _ _ (by rw[hI.size];exact hdl),if_pos rfl]
    obtain⟨_,hs1⟩:=hs
    cases hw:Region.wanted o (yielded ops a.tmps)with
    |true=>
     have hs1:=hs1 (by rw[<-same.wanted hz];exact hw);refine hW.run ho hw hdef ?_
     cases ht:tab i with
     |none=>
      rw[ht]at hs1;obtain⟨v,hv,_⟩:=hs1;unfold Oper.wp;rw[same.exec hsel,hv w hI.step];simp only[Oper.upon];refine⟨hI.step,go v w (by split;exact hTU _ _ (hT1 w);exact hT1 w) ⟨fun hf=> ?_,fun _=> ?_⟩ (fun _ Sh F h=>by rw[ht]at h;cases h) (fun hn=>by obtain⟨_,_,h,_⟩:=hNw i hn;rw[ht]at h;cases h)⟩
      ·rw[(self v).wanted (dE _ _ _),hw]at hf;cases hf
      ·rw[ht];intro w1 hw1;rw[(self v).exec hsel,same.exec hsel,own];exact hv w1 hw1
     |some sf=>
      obtain⟨Sh,F⟩:=sf;rw[ht]at hs1;obtain⟨_,hy,_⟩:=hs1;refine Yl.to (c:=c) (by rw[hI.defers,g2]) hd (by rw[g1];exact hdl) (same.exec hsel) (hy w (by split;exact hI.early (fun x hx hDx=>by rename_i hli;rw[hli]at hx;injection hx with hx;subst hx;rw[hlf i hilt,h1]at hDx;cases hDx);exact hI.step) fun p hp ha=> ?_) ?_
      ·obtain⟨hlt,op,dp,Sh',F',hop,hdp,htp,hF,hwp⟩:=g5 p hp;have hDp:l.getD p.1 false=true:=ks (D:=fun i=>l.getD i false=true) hC f i p.1 hdeps ha;rw[hF,g4 p.1 op dp hlt hDp hop hdp];exact hI.fact p.1 op dp hDp (by omega) hop hdp (hwp hDp) Sh' F' htp
      ·rintro v w' ⟨hst,hSh,hF,hnew⟩;refine⟨(hTt _ _ _ hI.step (by by_cases hl:late=some i;rw[if_pos hl]at hst;exact hst;rw[if_neg hl]at hst;exact hTU _ _ hst)),go v w' hst ⟨fun hf=> ?_,fun _=> ?_⟩ (fun _ Sh' F' h=> ?_) hnew⟩
       ·rw[(self v).wanted (dE _ _ _),hw]at hf;cases hf
       ·rw[ht,own];exact hSh
       ·rw[ht]at h;injection h with h;injection h with e1 e2;subst e2;exact hF
    |false=>
     have hwf:=hw;refine hW.skip ho hw (hI.step) ?_;refine go undef w (by split;exact hTU _ _ (hT1 w);exact hT1 w) ⟨fun _=>own undef,fun hf=> ?_⟩ (fun h=>by rw[hwf]at h;cases h) (fun _ g hg=>by cases hg);rw[(self undef).wanted (dE _ _ _),hwf]at hf
     cases hf
theorem rR {S':World->Prop} (hW:kH P QQ ops S' WO): ∀(fuel:Nat) (l:Array Bool) (a:Act) (w:World),kP P ops [] S WO N fuel l a w->kQ WO N ops fuel l a w
 |0,_,_,_,h=>h
 |fuel+1,l,a,w,h=>⟨h.1,fun i hi=>hW.mono (fun a w h'=>rR hW fuel _ a w h') (h.2 i hi)⟩
theorem mZ {TL:Act->World->Prop} (hW:oE P QQ ops WO) {a:Act} {w:World} (m f:Nat) (tab:y9) (late:Option Nat) (nw:Nat->Bool) (T U:World->World->Prop) (hok:rY [] ops m a.tmps.size=true)
  (hTL: ∀(l:Array Bool) (a:Act) (w:World),l.size=ops.size->(∀i,i<ops.size->l.getD i true=decide (i<m))->TL a w->kQ WO N ops (ops.size-m+0) l a w)
  (hTr: ∀w,T w w) (hTt: ∀a b c,U a b->U b c->U a c) (hTU: ∀a b,T a b->U a b) (hTT: ∀a b c,T a b->T b c->T a c) (hTs: ∀i Sh F,tab i=some (Sh,F)-> ∀v w w',F v w->T w w'->F v w')
  (hUs: ∀i Sh F,late≠some i->tab i=some (Sh,F)-> ∀v w w',F v w->U w w'->F v w')
  (hNw: ∀i,nw i=true-> ∃Sh F,tab i=some (Sh,F)/\ ∀v w,F v w-> ∀g,pB v=some g->g<w.heap.size)
  (h:dY P QQ ops f tab late nw T U w.drew (fun a Φ=> ∀w',U w.drew w'->(∀p∈Φ,p.2 w')->oG ops m nw (fun _=>True) a->TL a w') (ops.toList.take m) 0 a []):kQ WO N ops ops.size (Array.replicate ops.size false) a w.drew:=by
 have hu:qD m (Array.replicate ops.size false)=m:=by
  have: ∀k,k<=ops.size->qD k (Array.replicate ops.size false)=k:=by
   intro k
   induction k with
   |zero=>intro _;rfl
   |succ k ih=>
    intro hk;rw[lE,ih (by omega),if_pos];simp[aw,show k<ops.size from by omega]
  exact this m (pd hok)
 have:=pl (pre:=[]) (TL:=TL) rfl (fun j hj=>by cases hj) hTL (hW.toS (S:=U w.drew)) hok (hTU _ _ (hTr w.drew)) hTt hTU hTT hTs hUs hTr hNw h m (Array.replicate ops.size false) a w.drew hu.symm (by simp) (fun i hi _=>by simp[aw,hi])
  (fun i j hi=>by
   simp only[aw,dg]at hi
   split at hi<;>simp at hi)
  ⟨hTU _ _ (hTr _),fun _=>hTr _,rfl,rfl,fun _ _=>rfl,fun i o d hi=>by
   simp only[aw,dg]at hi;split at hi<;>simp at hi,fun i o d hi=>by
   simp only[aw,dg]at hi;split at hi<;>simp at hi,fun i j oi oj di dj hi=>by
   simp only[aw,dg]at hi
   split at hi<;>simp at hi⟩
 rw[show ops.size-m+m=ops.size from by have:=pd hok;omega]at this;exact rR (hW.toS (S:=U w.drew)) _ _ _ _ this
theorem dY.fin {P:Program} {ops:Array Oper} {f:Nat} {tab:y9} {late:Option Nat} {nw:Nat->Bool} {T U:World->World->Prop} {w0:World} {Fin Fin':Act->List (Nat×(World->Prop))->Prop} (hF: ∀a Φ,Fin a Φ->Fin' a Φ):
  ∀(l:List Oper) (i:Nat) (a:Act) (Φ:List (Nat×(World->Prop))),dY P QQ ops f tab late nw T U w0 Fin l i a Φ->dY P QQ ops f tab late nw T U w0 Fin' l i a Φ
 | [],_,a,Φ,h=>hF a Φ h
 |o::rest,i,a,Φ,h=>by
  refine⟨fun hw=>dY.fin hF rest _ _ _ (h.1 hw),fun hw=> ?_⟩;have h2:=h.2 hw
  cases ht:tab i with
  |none=>
   rw[ht]at h2;obtain⟨v,h3,h4⟩:=h2;exact⟨v,h3,dY.fin hF rest _ _ _ h4⟩
  |some sf=>
   obtain⟨Sh,F⟩:=sf;rw[ht]at h2;obtain⟨h3,h4,h5⟩:=h2;exact⟨h3,h4,fun v hv=>dY.fin hF rest _ _ _ (h5 v hv)⟩
theorem sm (hW:oE P QQ ops WO) (hok:BS ops m size=true) (l:Array Bool) (a:Act) (w:World) (hl:l.size=ops.size) (h: ∀i,i<ops.size->l.getD i true=decide (i<m)) (ht:mP WO N (List.range' m (ops.size-m)) a w):kQ WO N ops (ops.size-m+0) l a w:=
 qH (hW.toS (S:=fun _=>True)) (mT hok).1 (mT hok).2 (ops.size-m+0) m l a w (by omega) (ah _) (pd (mT hok).1) hl h ht
theorem gO {Q:Exit->Act->World->Prop}:oE P Q ops (wpOp P ops Q) where
 mono:=wpOp_mono
 skip:=fun ho hw h=>by unfold wpOp;simp only[ho,hw];exact h
 run:=fun ho hw _ h=>by
  unfold wpOp;simp only[ho,hw,if_true];refine .inl ?_;unfold Oper.wp at*;generalize (execOp _ _).run P _=r at*
  cases r with
  |ok x w'=>
   cases x<;>simp only[Oper.upon]at h⊢ <;>first
    |exact h
    |exact Calls.mono h (fun e w'' he=>by cases e<;>first|exact he|exact he _ rfl|exact(by obtain⟨x,y,hx⟩:=he;exact⟨x,y,hx x rfl⟩))
  |halt x w'=>cases x<;>simp only[Oper.upon]at h⊢;exact h _ rfl
theorem jA {Q:Exit->Act->World->Prop}: ∀(f:Nat) (l:Array Bool) (a:Act) (w:World),kQ (wpOp P ops Q) (Q .normal) ops f l a w->wpAny P .any ops Q f l a w
 |0,_,_,_,h=>h
 |f+1,_,_,_,h=>⟨h.1,fun i hi=>wpOp_mono (fun a w=>jA f _ a w) (h.2 i hi)⟩
theorem oZ {Q:Exit->Act->World->Prop}: ∀(l:List Nat),mP (wpOp P ops Q) (Q .normal) l=wpOps P ops Q l
 | []=>by funext a w;rfl
 |i::l=>by funext a w;rw[wpOps_cons,<-oZ l];rfl
theorem qI {Q:Exit->Act->World->Prop} (m:Nat):mP (wpOp P ops Q) (Q .normal) (List.range' m (ops.size-m))=wpList P ops Q (ops.toList.drop m):=by
 rw[oZ,<-wpOps_eq_wpList (P:=P) (ops:=ops) (Q:=Q) (ops.toList.drop m) m (fun j=>by simp),bm,Array.length_toList]
theorem eV {id:Nat} {Q:Exit->Act->World->Prop} {a:Act} {w:World} (m f:Nat) (tab:y9) (late:Option Nat) (T U:World->World->Prop) (hm:P.follows .mixedOrders=true) (hok:BS ops m a.tmps.size=true)
  (hTr: ∀w,T w w) (hTt: ∀a b c,U a b->U b c->U a c) (hTU: ∀a b,T a b->U a b) (hTT: ∀a b c,T a b->T b c->T a c) (hTs: ∀i Sh F,tab i=some (Sh,F)-> ∀v w w',F v w->T w w'->F v w')
  (hUs: ∀i Sh F,late≠some i->tab i=some (Sh,F)-> ∀v w w',F v w->U w w'->F v w')
  (h:dY P Q ops f tab late (fun _=>false) T U w.drew (fun a Φ=> ∀w',U w.drew w'->(∀p∈Φ,p.2 w')->wpList P ops Q (ops.toList.drop m) a w') (ops.toList.take m) 0 a []):(Code.region id ops true).wp P Q a w:=by
 refine wp_region_any hm (jA _ _ _ _ (mZ gO m f tab late (fun _=>false) T U (mT hok).1 (sm gO hok) hTr hTt hTU hTT hTs hUs (fun i h=>by cases h) ?_));rw[qI];exact dY.fin (fun a Φ h w' h1 h2 _=>h w' h1 h2) _ _ _ _ h
def qT (n m:Nat):Array Bool:=Array.ofFn (n:=n) fun i=>decide (i.val<m)
theorem xi {n m:Nat} {l:Array Bool} (hl:l.size=n) (h: ∀i,i<n->l.getD i true=decide (i<m)):l=qT n m:=by
 apply Array.ext
 ·simp[qT,hl]
 ·intro i hi hi';have h1:=h i (by omega);simp only[aw,bA hi,bx]at h1;simp only[qT,Array.getElem_ofFn];exact h1
theorem mn {id:Nat} {Q:Exit->Act->World->Prop} {a:Act} {w:World} (m f:Nat) (tab:y9) (late:Option Nat) (T U:World->World->Prop) (hm:P.follows .mixedOrders=true) (hok:rY [] ops m a.tmps.size=true)
  (hTr: ∀w,T w w) (hTt: ∀a b c,U a b->U b c->U a c) (hTU: ∀a b,T a b->U a b) (hTT: ∀a b c,T a b->T b c->T a c) (hTs: ∀i Sh F,tab i=some (Sh,F)-> ∀v w w',F v w->T w w'->F v w')
  (hUs: ∀i Sh F,late≠some i->tab i=some (Sh,F)-> ∀v w w',F v w->U w w'->F v w')
  (h:dY P Q ops f tab late (fun _=>false) T U w.drew (fun a Φ=> ∀w',U w.drew w'->(∀p∈Φ,p.2 w')->kQ (wpOp P ops Q) (Q .normal) ops (ops.size-m) (qT ops.size m) a w') (ops.toList.take m) 0 a []):(Code.region id ops true).wp P Q a w:=by
 refine wp_region_any hm (jA _ _ _ _ (mZ gO m f tab late (fun _=>false) T U hok (fun l a w hl h ht=>by rw[xi hl h];exact ht) hTr hTt hTU hTT hTs hUs (fun i h=>by cases h) ?_));exact dY.fin (fun a Φ h w' h1 h2 _=>h w' h1 h2) _ _ _ _ h
theorem bg {Q:Exit->Act->World->Prop} {f:Nat} {l:Array Bool} {a:Act} {w:World} (is:List Nat) (hr:Region.ready .any ops l=is) (hn:is≠ []) (h: ∀i,i∈is->wpOp P ops Q i (kQ (wpOp P ops Q) (Q .normal) ops f (l.setIfInBounds i true)) a w):kQ (wpOp P ops Q) (Q .normal) ops (f+1) l a w:=by
 subst hr;exact⟨fun e=>absurd e hn,h⟩
theorem aS {Q:Exit->Act->World->Prop} {i:Nat} {K:Act->World->Prop} {a:Act} {w:World} {o:Oper} (ho:ops[i]? =some o) (hw:Region.wanted o (yielded ops a.tmps)=true) (h:o.wp P a w K Q):wpOp P ops Q i K a w:=by
 unfold wpOp;simp only[ho,hw,if_true];exact .inl h
theorem je {Q:Exit->Act->World->Prop} {l:Array Bool} {a:Act} {w:World} (hr:Region.ready .any ops l=[]) (h:Q .normal a w):kQ (wpOp P ops Q) (Q .normal) ops 0 l a w:=⟨hr,h⟩
end
abbrev uw:=Nat×(Value->Prop)×(Value->World->Prop)
def ef:List uw->y9
 | []=>fun _=>none
 |p::l=>fun i=>if i=p.1 then some p.2 else ef l i
def iZ (T:World->World->Prop):List uw->Prop
 | []=>True
 |p::l=>(∀v w w',p.2.2 v w->T w w'->p.2.2 v w')/\iZ T l
theorem iZ.out {T:World->World->Prop}: ∀{l:List uw},iZ T l-> ∀i Sh F,ef l i=some (Sh,F)-> ∀v w w',F v w->T w w'->F v w'
 | [],_,i,Sh,F,h=>by simp[ef]at h
 |p::l,hs,i,Sh,F,h=>by
  simp only[ef]at h;split at h
  ·injection h with h;intro v w w' hF hT;have:=hs.1 v w w';rw[h]at this;exact this hF hT
  ·exact iZ.out hs.2 i Sh F h
section
variable {QQ:Exit->Act->World->Prop}
variable {f:Nat} {tab:y9} {late:Option Nat} {nw:Nat->Bool} {T U:World->World->Prop} {w0:World} {Fin:Act->List (Nat×(World->Prop))->Prop} {o:Oper} {rest:List Oper} {i:Nat} {a:Act} {Φ:List (Nat×(World->Prop))}
theorem bL (hw:Region.wanted o (yielded ops a.tmps)=false) (h:dY P QQ ops f tab late nw T U w0 Fin rest (i+1) (a.put o.dst undef) Φ):dY P QQ ops f tab late nw T U w0 Fin (o::rest) i a Φ:=
 ⟨fun _=>h,fun h'=>by rw[hw]at h';cases h'⟩
theorem uX (v:Value) (hw:Region.wanted o (yielded ops a.tmps)=true) (ht:tab i=none) (hr: ∀w,U w0 w->(execOp a.eval o).run P w= .ok (.value v) w)
  (h:dY P QQ ops f tab late nw T U w0 Fin rest (i+1) (a.put o.dst v) Φ):dY P QQ ops f tab late nw T U w0 Fin (o::rest) i a Φ:=
 ⟨fun h'=>(by rw[hw]at h';cases h'),fun _=>by rw[ht];exact⟨v,hr,h⟩⟩
theorem bJ (Sh:Value->Prop) (F:Value->World->Prop) (hw:Region.wanted o (yielded ops a.tmps)=true) (ht:tab i=some (Sh,F)) (he: ∃v,Sh v) (hl:late≠some i)
  (hy: ∀w,U w0 w->(∀p∈Φ,mL ops f i p.1=true->p.2 w)-> ∀(K:Act->World->Prop),(∀v w',T w w'->Sh v->F v w'->K (a.put o.dst v) w')->o.wp P a w K (yT QQ))
  (h: ∀v,Sh v->dY P QQ ops f tab late nw T U w0 Fin rest (i+1) (a.put o.dst v) ((i,F v)::Φ)) (hn:nw i=false:=by rfl):dY P QQ ops f tab late nw T U w0 Fin (o::rest) i a Φ:=
 ⟨fun h'=>(by rw[hw]at h';cases h'),fun _=>by
  rw[ht]
  exact⟨he,fun w hU hp K hK=>hy w (by rw[if_neg hl]at hU;exact hU) hp K fun v w' h1 h2 h3=>hK v w' ⟨by rw[if_neg hl];exact h1,h2,h3,fun h'=>by rw[hn]at h';cases h'⟩,h⟩⟩
theorem sx (v:Value) (hr: ∀w,U w0 w->(execOp a.eval o).run P w= .ok (.value v) w) (h:dY P QQ ops f tab late nw T U w0 Fin rest (i+1) (a.put o.dst v) Φ)
  (hw:Region.wanted o (yielded ops a.tmps)=true:=by rfl) (ht:tab i=none:=by rfl):dY P QQ ops f tab late nw T U w0 Fin (o::rest) i a Φ:=uX v hw ht hr h
theorem so {Sh:Value->Prop} {F:Value->World->Prop} (hy: ∀w,U w0 w->(∀p∈Φ,mL ops f i p.1=true->p.2 w)-> ∀(K:Act->World->Prop),(∀v w',T w w'->Sh v->F v w'->K (a.put o.dst v) w')->o.wp P a w K (yT QQ))
  (h: ∀v,Sh v->dY P QQ ops f tab late nw T U w0 Fin rest (i+1) (a.put o.dst v) ((i,F v)::Φ)) (hw:Region.wanted o (yielded ops a.tmps)=true:=by rfl) (ht:tab i=some (Sh,F):=by rfl) (he: ∃v,Sh v:=by exact⟨_,rfl⟩) (hl:late≠some i:=by simp) (hn:nw i=false:=by rfl):dY P QQ ops f tab late nw T U w0 Fin (o::rest) i a Φ:=bJ Sh F hw ht he hl hy h hn
theorem bH (Sh:Value->Prop) (F:Value->World->Prop) (hw:Region.wanted o (yielded ops a.tmps)=true) (ht:tab i=some (Sh,F)) (he: ∃v,Sh v) (hl:late=some i)
  (hy: ∀w,T w0 w->(∀p∈Φ,mL ops f i p.1=true->p.2 w)-> ∀(K:Act->World->Prop),(∀v w',U w w'->Sh v->F v w'->K (a.put o.dst v) w')->o.wp P a w K (yT QQ))
  (h: ∀v,Sh v->dY P QQ ops f tab late nw T U w0 Fin rest (i+1) (a.put o.dst v) ((i,F v)::Φ)) (hn:nw i=false:=by rfl):dY P QQ ops f tab late nw T U w0 Fin (o::rest) i a Φ:=
 ⟨fun h'=>(by rw[hw]at h';cases h'),fun _=>by
  rw[ht]
  exact⟨he,fun w hU hp K hK=>hy w (by rw[if_pos hl]at hU;exact hU) hp K fun v w' h1 h2 h3=>hK v w' ⟨by rw[if_pos hl];exact h1,h2,h3,fun h'=>by rw[hn]at h';cases h'⟩,h⟩⟩
end
end
def aq (w w':World):Prop:=RowKit.Below w.heap.size w w'
theorem aq.refl (w:World):aq w w:=RowKit.Below.refl _ _
theorem aq.size {w w':World} (h:aq w w'):w.heap.size<=w'.heap.size:=RowKit.Below.size h
theorem aq.obj {w w':World} (h:aq w w') {b:Nat} (hb:b<w.heap.size):w'.heap[b]? =w.heap[b]? :=RowKit.Below.block h b hb
theorem aq.trans {a b c:World} (h:aq a b) (k:aq b c):aq a c:=RowKit.Below.trans h (RowKit.Below.mono k h.size)
theorem aq.un {w w':World} (h:aq w.drew w'):aq w w':=⟨h.os,h.tape,h.output,h.size,h.block⟩
theorem az {P:Program} {ops:Array Oper} {id:Nat} {Q:Exit->Act->World->Prop} {a:Act} {w:World} (m f:Nat) (l:List uw) (hm:P.follows .mixedOrders=true) (hok:BS ops m a.tmps.size=true) (hs:iZ aq l)
  (h:dY P Q ops f (ef l) none (fun _=>false) aq aq w.drew (fun a Φ=> ∀w',aq w.drew w'->(∀p∈Φ,p.2 w')->wpList P ops Q (ops.toList.drop m) a w') (ops.toList.take m) 0 a []):(Code.region id ops true).wp P Q a w:=
 eV m f (ef l) none aq aq hm hok aq.refl (fun _ _ _=>aq.trans) (fun _ _ h=>h) (fun _ _ _=>aq.trans) hs.out (fun i Sh F _=>hs.out i Sh F) h
def lI (x:Nat) (T:World->World->Prop):List uw->Prop
 | []=>True
 |p::l=>(p.1=x\/ ∀v w w',p.2.2 v w->T w w'->p.2.2 v w')/\lI x T l
theorem lI.out {x:Nat} {T:World->World->Prop}: ∀{l:List uw},lI x T l-> ∀i Sh F,some x≠some i->ef l i=some (Sh,F)-> ∀v w w',F v w->T w w'->F v w'
 | [],_,i,Sh,F,_,h=>by simp[ef]at h
 |p::l,hs,i,Sh,F,hx,h=>by
  simp only[ef]at h;split at h
  ·rename_i hi;injection h with h;intro v w w' hF hT;have:=(hs.1.resolve_left (fun e=>hx (by rw[hi,e]))) v w w';rw[h]at this;exact this hF hT
  ·exact lI.out hs.2 i Sh F hx h
theorem aq.grownBy {w w':World} (he:aq w w') (row:Option Nat):w.grownBy w' row:=⟨he.os,he.tape,he.output,he.size,fun k hk _=>he.obj hk⟩
theorem am {a b c:World} {row:Option Nat} (h:a.grownBy b row) (k:b.grownBy c row):a.grownBy c row:=
 ⟨k.os.trans h.os,k.tape.trans h.tape,k.output.trans h.output,aZ h.size k.size,fun i hi hn=>(k.block i (aA hi h.size) hn).trans (h.block i hi hn)⟩
theorem aB {w w':World} {row:Option Nat} (h:w.drew.grownBy w' row):w.grownBy w' row:=⟨h.os,h.tape,h.output,h.size,h.block⟩
theorem bR {P:Program} {ops:Array Oper} {id:Nat} {Q:Exit->Act->World->Prop} {a:Act} {w:World} (m f:Nat) (l:List uw) (x:Nat) (row:Option Nat) (hm:P.follows .mixedOrders=true) (hok:BS ops m a.tmps.size=true)
  (hs:iZ aq l) (hx:lI x (fun w w'=>w.grownBy w' row) l)
  (h:dY P Q ops f (ef l) (some x) (fun _=>false) aq (fun w w'=>w.grownBy w' row) w.drew (fun a Φ=> ∀w',w.drew.grownBy w' row->(∀p∈Φ,p.2 w')->wpList P ops Q (ops.toList.drop m) a w') (ops.toList.take m) 0 a []):(Code.region id ops true).wp P Q a w:=
 eV m f (ef l) (some x) aq (fun w w'=>w.grownBy w' row) hm hok aq.refl (fun _ _ _=>am) (fun _ _ h=>h.grownBy _) (fun _ _ _=>aq.trans) hs.out hx.out h
theorem jH {P:Program} {ops:Array Oper} {id:Nat} {Q:Exit->Act->World->Prop} {a:Act} {w:World} (m f:Nat) (l:List uw) (x:Nat) (row:Option Nat) (hm:P.follows .mixedOrders=true) (hok:rY [] ops m a.tmps.size=true)
  (hs:iZ aq l) (hx:lI x (fun w w'=>w.grownBy w' row) l)
  (h:dY P Q ops f (ef l) (some x) (fun _=>false) aq (fun w w'=>w.grownBy w' row) w.drew (fun a Φ=> ∀w',w.drew.grownBy w' row->(∀p∈Φ,p.2 w')->kQ (wpOp P ops Q) (Q .normal) ops (ops.size-m) (qT ops.size m) a w') (ops.toList.take m) 0 a []):(Code.region id ops true).wp P Q a w:=
 mn m f (ef l) (some x) aq (fun w w'=>w.grownBy w' row) hm hok aq.refl (fun _ _ _=>am) (fun _ _ h=>h.grownBy _) (fun _ _ _=>aq.trans) hs.out hx.out h
def dD (Q:Exit->Act->World->Prop):Exit->Act->World->Prop:=fun e a w=>match e with
 | .normal=>Q .normal a w
 | _=>False
theorem dD.imp {Q:Exit->Act->World->Prop}: ∀(e:Exit) (a:Act) (w:World),dD Q e a w->Q e a w:=fun e a w h=>by
 cases e<;>first|exact h|exact(h:False).elim
section
variable {P:Program} {ops:Array Oper} {Q:Exit->Act->World->Prop} {S:World->Prop}
def CJ (P:Program) (ops:Array Oper) (Q:Exit->Act->World->Prop) (S:World->Prop) (i:Nat) (K:Act->World->Prop) (a:Act) (w:World):Prop:=wpOp P ops Q i (fun a' w'=>S w'/\K a' w') a w
theorem j8:kH P Q ops S (CJ P ops Q S) where
 mono:=fun h=>wpOp_mono fun a w hk=>⟨hk.1,h a w hk.2⟩
 skip:=fun ho hw hs h=>by unfold CJ wpOp;simp only[ho,hw];exact⟨hs,h⟩
 run:=fun ho hw hd h=>by
  have:=gO (P:=P) (ops:=ops) (Q:=Q).run ho hw hd h;exact this
def mO (P:Program) (QQ:Exit->Act->World->Prop) (ops:Array Oper) (N:Act->World->Prop) (S:World->Prop):List Oper->Act->World->Prop
 | [],a,w=>N a w
 |o::l,a,w=>Region.wanted o (yielded ops a.tmps)=true/\(∀c,o.op≠ .defer c)/\o.wp P a w (fun a' w'=>S w'/\mO P QQ ops N S l a' w') (yT QQ)
theorem aK {QQ:Exit->Act->World->Prop} {N:Act->World->Prop} {o:Oper} {l:List Oper} {a:Act} {w:World} (hw:Region.wanted o (yielded ops a.tmps)=true) (hd: ∀c,o.op≠ .defer c)
  (h: ∀K:Act->World->Prop,(∀a' w',S w'->mO P QQ ops N S l a' w'->K a' w')->o.wp P a w K (yT QQ)):mO P QQ ops N S (o::l) a w:=⟨hw,hd,h _ fun _ _ h1 h2=>⟨h1,h2⟩⟩
theorem cg {QQ Q:Exit->Act->World->Prop} {a:Act} {w:World} (h:wpList P ops Q [] a w):mO P QQ ops (Q .normal) S [] a w:=h
theorem nI {N:Act->World->Prop}: ∀(n k:Nat) (a:Act) (w:World),k+n=ops.size->mO P Q ops N S (ops.toList.drop k) a w->mP (CJ P ops Q S) N (List.range' k n) a w
 |0,k,a,w,hk,h=>by
  rw[aF (by simp;omega)]at h;exact h
 |n+1,k,a,w,hk,h=>by
  have hl:k<ops.toList.length:=by simp;omega
  rw[ay hl]at h;obtain⟨h1,h2,h3⟩:=h;have ho:ops[k]? =some ops.toList[k]:=by simp
  show CJ P ops Q S k (mP (CJ P ops Q S) N (List.range' (k+1) n)) a w;refine j8.run ho h1 h2 ?_;refine stepOk_mono h3 fun a' w' hk'=>⟨hk'.1,nI n (k+1) a' w' (by omega) hk'.2⟩
where
 stepOk_mono {o:Oper} {a:Act} {w:World} {K K':Act->World->Prop} (h:o.wp P a w K (yT Q)) (hk: ∀a w,K a w->K' a w):o.wp P a w K' (yT Q):=Oper.wp_mono hk h
variable {m size:Nat} {pre:List Nat}
theorem mK {tk:List Nat} (hns:Region.noSelect ops=true) (htk:ze ops tk m=true) (hQ: ∀c a w,¬Q (.panic c) a w): ∀(fuel:Nat) (l:Array Bool) (a:Act) (w:World),S w->ik ops (fun i=>l.getD i false=true)->l.size=ops.size->
  kP P ops tk S (CJ P ops Q S) (Q .normal) fuel l a w->wpAnyH P .any ops Q S fuel l a w
 |0,_,_,_,_,_,_,h=>h
 |fuel+1,l,a,w,hS,hC,hl,h=>by
  have hset: ∀i,i∈Region.ready .any ops l->ik ops (fun j=>(l.setIfInBounds i true).getD j false=true):=fun i hi j k hj hjk=>by
   obtain⟨_,o,ho,h2⟩:=eN.1 hi;have hilt:=(Array.getElem?_eq_some_iff.1 ho).1;have set: ∀j,(l.setIfInBounds i true).getD j false=if j=i then true else l.getD j false:=fun j=>by
    simp only[aw,bh];by_cases h:i=j
    ·subst h;simp[hl,hilt]
    ·rw[if_neg h,if_neg (fun e=>h e.symm)]
   simp only[set]at hj⊢;by_cases hki:k=i
   ·rw[if_pos hki]
   ·rw[if_neg hki];by_cases hji:j=i
    ·subst hji;obtain⟨e,he,hb,hon⟩:=(iG ho).1 hjk;rw[<-hon];exact h2 e he hb
    ·rw[if_neg hji]at hj;exact hC j k hj hjk
  cases hft:jx ops tk l with
  |some i=>
   simp only[kP,hft]at h;obtain⟨v,o,ho,hy,hr⟩:=h;obtain⟨hit,hi⟩:=mV hft;refine wpAnyH_first ho (Region.noSelect_spec hns) (fun c a w h=>absurd h (hQ c _ _)) fuel l a w ?_ hi hy hS (mK hns htk hQ fuel _ _ _ hS (hset i hi) (by simpa using hl) hr);intro j oj hoj hji hun hno;refine uN htk hit ho hoj hji ?_ ?_
   ·rw[Bool.eq_false_iff];intro hd;obtain⟨e,he,hb,hon⟩:=(iG hoj).1 hd;exact hno e he hb hon
   ·rw[Bool.eq_false_iff];intro ha;obtain⟨_,o',ho',h2⟩:=eN.1 hi
    have hd:=ks (D:=fun i=>l.getD i false=true) hC 4 i j (fun k hk=>by
     obtain⟨e,he,hb,hon⟩:=(iG ho').1 hk
     rw[<-hon];exact h2 e he hb) ha
    have hjl:j<l.size:=by rw[hl];exact(Array.getElem?_eq_some_iff.1 hoj).1
    simp only[aw,bA hjl,bx]at hd hun;rw[hd]at hun
    cases hun
  |none=>
   simp only[kP,hft]at h;refine⟨h.1,fun i hi=>wpOp_mono (fun a' w' hk=>⟨hk.1,mK hns htk hQ fuel _ a' w' hk.1 (hset i hi) (by simpa using hl) hk.2⟩) (h.2 i hi)⟩
theorem jG (U:World->World->Prop) (hUr: ∀w,U w w) (hUt: ∀a b c,U a b->U b c->U a c) {id:Nat} {a:Act} {w:World} (m f:Nat) (l:List uw) (ns tk:List Nat) (hm:P.follows .mixedOrders=true) (hok:CG tk ops m a.tmps.size=true) (htk:ze ops tk m=true) (hns:Region.noSelect ops=true) (htn:(tk.all fun j=>(ef l j).isNone)=true) (hs:iZ U l)
  (hn: ∀i,ns.contains i=true-> ∃Sh F,ef l i=some (Sh,F)/\ ∀v w,F v w-> ∀g,pB v=some g->g<w.heap.size)
  (h:dY P (dD Q) ops f (ef l) none (fun i=>ns.contains i) U U w.drew (fun a Φ=> ∀w',U w.drew w'->(∀p∈Φ,p.2 w')->oG ops m (fun i=>ns.contains i) (fun _=>True) a->mO P (dD Q) ops (Q .normal) (U w.drew) (ops.toList.drop m) a w') (ops.toList.take m) 0 a []):(Code.region id ops true).wp P Q a w:=by
 refine Code.wp_mono dD.imp (wp_region_held (S:=U w.drew) hm ?_);have hmle:=pd (mT hok).1;have h0: ∀i,(Array.replicate ops.size false).getD i false=false:=fun i=>by
  simp only[aw,dg];split<;>rfl
 have h0': ∀i,¬(Array.replicate ops.size false).getD i false=true:=fun i h=>by rw[h0]at h;cases h
 have hC0:ik ops (fun i=>(Array.replicate ops.size false).getD i false=true):=fun i j hi=>absurd hi (h0' i);have hu:qD m (Array.replicate ops.size false)=m:=by
  have: ∀k,k<=ops.size->qD k (Array.replicate ops.size false)=k:=by
   intro k
   induction k with
   |zero=>intro _;rfl
   |succ k ih=>
    intro hk;rw[lE,ih (by omega),if_pos];simp[aw,show k<ops.size from by omega]
  exact this m hmle
 refine mK (Q:=dD Q) hns htk (fun c a w h=>h) _ _ _ _ (hUr _) hC0 (by simp) ?_
 have:=pl (a0:=a) (pre:=tk) (f:=f) htk (fun j hj=>by
   have:=List.all_eq_true.1 htn j hj
   simpa using this) (qH (S:=U w.drew) j8 (mT hok).1 (mT hok).2 (ops.size-m+0) m · · · (by omega) (ah _) hmle · · ·) (j8 (P:=P) (ops:=ops) (Q:=dD Q) (S:=U w.drew)) (mT hok).1 (T:=U) (U:=U) (w0:=w.drew) (tab:=ef l) (late:=none) (nw:=fun i=>ns.contains i) (N:=dD Q .normal) (hUr _) hUt (fun _ _ h=>h) hUt
   hs.out (fun i Sh F _=>hs.out i Sh F) hUr hn
   (dY.fin (fun a Φ h w' h1 h2 h3=>nI _ _ _ _ (by omega) (h w' h1 h2 h3)) _ _ _ _ h) m (Array.replicate ops.size false) a w.drew hu.symm (by simp) (fun i hi _=>by simp[aw,hi]) hC0
   ⟨hUr _,fun _=>hUr _,rfl,rfl,fun _ _=>rfl,fun i o d hi=>absurd hi (h0' i),fun i o d hi=>absurd hi (h0' i),fun i j oi oj di dj hi=>absurd hi (h0' i)⟩
 rw[show ops.size-m+m=ops.size from by omega]at this;exact this
theorem cN {id:Nat} {a:Act} {w:World} (m f:Nat) (l:List uw) (ns tk:List Nat) (hm:P.follows .mixedOrders=true) (hok:CG tk ops m a.tmps.size=true) (htk:ze ops tk m=true) (hns:Region.noSelect ops=true) (htn:(tk.all fun j=>(ef l j).isNone)=true) (hs:iZ aq l)
  (hn: ∀i,ns.contains i=true-> ∃Sh F,ef l i=some (Sh,F)/\ ∀v w,F v w-> ∀g,pB v=some g->g<w.heap.size)
  (h:dY P (dD Q) ops f (ef l) none (fun i=>ns.contains i) aq aq w.drew (fun a Φ=> ∀w',aq w.drew w'->(∀p∈Φ,p.2 w')->oG ops m (fun i=>ns.contains i) (fun _=>True) a->mO P (dD Q) ops (Q .normal) (aq w.drew) (ops.toList.drop m) a w') (ops.toList.take m) 0 a []):(Code.region id ops true).wp P Q a w:=
 jG aq aq.refl (fun _ _ _=>aq.trans) m f l ns tk hm hok htk hns htn hs hn h
theorem b7 {id:Nat} {a:Act} {w:World} (U:World->World->Prop) (hUr: ∀w,U w w) (hUt: ∀a b c,U a b->U b c->U a c) (m f:Nat) (l:List uw) (tk:List Nat) (hm:P.follows .mixedOrders=true) (hok:CG tk ops m a.tmps.size=true) (htk:ze ops tk m=true) (hns:Region.noSelect ops=true) (htn:(tk.all fun j=>(ef l j).isNone)=true) (hs:iZ U l)
  (h:dY P (dD Q) ops f (ef l) none (fun _=>false) U U w.drew (fun a Φ=> ∀w',U w.drew w'->(∀p∈Φ,p.2 w')->mO P (dD Q) ops (Q .normal) (U w.drew) (ops.toList.drop m) a w') (ops.toList.take m) 0 a []):(Code.region id ops true).wp P Q a w:=
 jG U hUr hUt m f l [] tk hm hok htk hns htn hs (fun i hi=>by cases hi) (dY.fin (fun a Φ h w' h1 h2 _=>h w' h1 h2) _ _ _ _ h)
end
def aR:=@aq.refl
def cJ:=@aq.size
def mM:=@aq.trans
end Go.Proofs.YtddomeddabfinaaGreatDoor

