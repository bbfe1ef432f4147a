/-
  Parts of the proof: Seq SeqK.
-/
import Derived.Test.YtddomeddabfinaaGreatDoorTu00
import Derived.Orders
import Derived.Tactics
import Derived.Below
import Derived.OrdersHeld
set_option maxRecDepth 100000
set_option maxHeartbeats 8000000
set_option linter.unusedVariables false
set_option linter.unusedSimpArgs false
set_option linter.defProp false
set_option linter.unusedSectionVars false
namespace Go.Proofs.YtddomeddabfinaaGreatDoor
open Go
theorem aU (a : Act) (d : Nat) (v : Value) : Act.put a (some d) v = { a with tmps := a.tmps.setIfInBounds d v } := rfl
theorem aQ (a : Act) (v : Value) : Act.put a none v = a := rfl
theorem aT {α : Type _} (l : List α) (i : Nat) (a : α) : l.toArray.setIfInBounds i a = (l.set i a).toArray := bE ..
theorem aS {α : Type _} (a b : α) (l : List α) : (a :: l).set 0 b = b :: l := rfl
theorem aR {α : Type _} (a b : α) (l : List α) (n : Nat) : (a :: l).set (n + 1) b = a :: l.set n b := rfl
def c_ (a:Act) (t:Nat):Value:=a.tmps.getD t undef
def jj (ops:Array Oper) (i j:Nat):Bool:=(ops[i]?).any fun o=>o.after.any fun e=>Region.binds .any e&&e.on==j
def kP (ops:Array Oper):Nat->Nat->Nat->Bool
 |0,i,j=>jj ops i j
 |f+1,i,j=>(ops[i]?).any fun o=>o.after.any fun e=>Region.binds .any e&&(e.on==j||kP ops f e.on j)
def vH:Op->Bool
 | .select .. =>true
 | .defer _=>true
 | _=>false
def r9 (pre:List Nat) (ops:Array Oper) (m size:Nat):Bool:=
 decide (m<=ops.size)&&
 (List.range ops.size).all (fun i=>match ops[i]? with
  |some o=>o.after.all fun e=> !Region.binds .any e||decide (e.on<i)
  |none=>false)&&
 (List.range m).all (fun i=>match ops[i]? with
  |some o=> !vH o.op&&(match o.dst with
    |some d=>decide (d<size)&&(List.range m).all fun j=>j==i||(match ops[j]? with|some oj=>oj.dst !=some d|none=>false)
    |none=>false)&&
   (List.range m).all fun j=>match (ops[j]?).bind (·.dst)with|some dj=> !(o.looksAt ops).contains dj||jj ops i j|none=>false
  |none=>false)&&
 (List.range (ops.size-m)).all (fun k=>(List.range m).all (fun j=>pre.contains j||kP ops 4 (m+k) j))
abbrev xP:=Nat->Option ((Value->Prop)×(Value->World->Prop))
def pB (v:Value):Option Nat:=match v with
 | .pointer (some a)=>some a.block
 | _=>none
def tR (Q:Exit->Act->World->Prop):Exit->Act->World->Prop:=fun e a w=> ∀a',a'.defers=a.defers->Q e a' w
def Yl (P:Program) (QQ:Exit->Act->World->Prop) (o:Oper) (a:Act) (w:World) (R:Value->World->Prop):Prop:=
 ∀(K:Act->World->Prop),(∀v w',R v w'->K (a.put o.dst v) w')->o.wp P a w K (tR QQ)
def d_ (P:Program) (QQ:Exit->Act->World->Prop) (ops:Array Oper) (f:Nat) (tab:xP) (late:Option Nat) (nw:Nat->Bool) (T U:World->World->Prop) (w0:World) (Fin:Act->List (Nat×(World->Prop))->Prop):List Oper->Nat->Act->List (Nat×(World->Prop))->Prop
 | [],_,a,Φ=>Fin a Φ
 |o::rest,i,a,Φ=>
  (Region.wanted o (yielded ops a.tmps)=false->d_ P QQ ops f tab late nw T U w0 Fin rest (i+1) (a.put o.dst undef) Φ)/\
  (Region.wanted o (yielded ops a.tmps)=true->
   match tab i with
   |none=> ∃v,(∀w,U w0 w->(execOp a.eval o).run P w= .ok (.value v) w)/\d_ P QQ ops f tab late nw T U w0 Fin rest (i+1) (a.put o.dst v) Φ
   |some (Sh,F)=>(∃v,Sh v)/\
    (∀w,(if late=some i then T w0 w else U w0 w)->(∀p∈Φ,kP ops f i p.1=true->p.2 w)->Yl P QQ o a w (fun v w'=>(if late=some i then U w w' else T w w')/\Sh v/\F v w'/\(nw i=true-> ∀g,pB v=some g->w.heap.size<=g)))/\
    ∀v,Sh v->d_ P QQ ops f tab late nw T U w0 Fin rest (i+1) (a.put o.dst v) ((i,F v)::Φ))
section
variable {QQ:Exit->Act->World->Prop}
variable {P:Program} {ops:Array Oper} {m size:Nat} {pre:List Nat}
theorem nK (h:r9 pre ops m size=true):m<=ops.size:=by
 simp only[r9,ak,decide_eq_true_eq]at h;exact h.1.1.1
theorem nJ (h:r9 pre ops m size=true) {i:Nat} {o:Oper} (hi:ops[i]? =some o): ∀e∈o.after,Region.binds .any e=true->e.on<i:=by
 simp only[r9,ak]at h;have h2:=h.1.1.2;rw[bG]at h2;have:=h2 i (by rw[dF];exact(Array.getElem?_eq_some_iff.1 hi).1);rw[hi]at this;simp only[dS,bP,Bool.not_eq_true',decide_eq_true_eq]at this;exact fun e he hb=>(this e he).resolve_left (by rw[hb];simp)
theorem gm (h:r9 pre ops m size=true) {i:Nat} (hi:i<m): ∃o d,ops[i]? =some o/\o.dst=some d/\d<size/\(∀cs b,o.op≠ .select cs b)/\(∀c,o.op≠ .defer c)/\
  (∀j,j<m->j≠i-> ∀oj,ops[j]? =some oj->oj.dst≠some d)/\
  (∀j,j<m-> ∀oj dj,ops[j]? =some oj->oj.dst=some dj->dj∈o.looksAt ops->jj ops i j=true):=by
 simp only[r9,ak]at h;have h2:=h.1.2;rw[bG]at h2;have:=h2 i (by rw[dF];exact hi)
 cases ho:ops[i]? with
 |none=>rw[ho]at this;cases this
 |some o=>
  rw[ho]at this;simp only[ak]at this;obtain⟨⟨h3,h4⟩,h5⟩:=this
  cases hd:o.dst with
  |none=>rw[hd]at h4;cases h4
  |some d=>
   rw[hd]at h4;simp only[ak,decide_eq_true_eq,bG,dF,bP,beq_iff_eq]at h4 h5;refine⟨o,d,rfl,hd,h4.1,?_,?_,?_,?_⟩;rotate_left
   ·intro c e;rw[e]at h3;simp[vH]at h3
   rotate_right
   ·intro cs b e;rw[e]at h3;simp[vH]at h3
   ·intro j hj hji oj hoj;have:=(h4.2 j hj).resolve_left hji;rw[hoj]at this;simpa using this
   ·intro j hj oj dj hoj hdj hin;have:=h5 j hj;rw[hoj]at this;simp only[dY,hdj,bP,Bool.not_eq_true']at this;rcases this with h6|h6
    ·simp at h6;exact absurd hin h6
    ·exact h6
theorem xm (h:r9 pre ops m size=true) {i:Nat} (h1:m<=i) (h2:i<ops.size): ∀j,j<m->j∉pre->kP ops 4 i j=true:=by
 simp only[r9,ak]at h;have h3:=h.2;rw[bG]at h3;have:=h3 (i-m) (by rw[dF];omega);simp only[bG,dF,bP]at this;rw[show m+(i-m)=i from by omega]at this;exact fun j hj hp=>(this j hj).resolve_left (fun h=>hp (by simpa using h))
def A6 (ops:Array Oper) (m:Nat):Bool:=(List.range (ops.size-m)).all fun k=>k==0||jj ops (m+k) (m+k-1)
def zL (pre:List Nat) (ops:Array Oper) (m size:Nat):Bool:=r9 pre ops m size&&A6 ops m
def zM (ops:Array Oper) (m size:Nat):Bool:=zL [] ops m size
theorem kG (h:zL pre ops m size=true):r9 pre ops m size=true/\A6 ops m=true:=by
 unfold zL at h;exact(ak _ _).mp h
theorem uX (h:A6 ops m=true) {i:Nat} (h1:m<=i) (h2:i<ops.size):i=m\/jj ops i (i-1)=true:=by
 have:=List.all_eq_true.1 h (i-m) (by rw[dF];omega);simp only[bP,beq_iff_eq]at this;rw[show m+(i-m)=i from by omega]at this;rcases this with h|h
 ·exact .inl (by omega)
 ·exact .inr h
def gU (ops:Array Oper) (D:Nat->Prop):Prop:= ∀i j,D i->jj ops i j=true->D j
theorem gU.anc {D:Nat->Prop} (h:gU ops D): ∀(f i j:Nat),D i->kP ops f i j=true->D j
 |0,i,j,hi,ha=>h i j hi ha
 |f+1,i,j,hi,ha=>by
  simp only[kP,eT]at ha;obtain⟨o,ho,ha⟩:=ha;rw[dI]at ha;obtain⟨e,he,hb⟩:=ha;simp only[ak,bP,beq_iff_eq]at hb;have hd:jj ops i e.on=true:=by
   simp only[jj,eT];refine⟨o,ho,?_⟩;rw[dI];exact⟨e,he,by simp[hb.1]⟩
  rcases hb.2 with hx|hx
  ·rw[<-hx];exact h i _ hi hd
  ·exact gU.anc h f _ _ (h i _ hi hd) hx
theorem jJ {D:Nat->Prop} (h:gU ops D) (f i j:Nat) (hd: ∀k,jj ops i k=true->D k) (ha:kP ops f i j=true):D j:=by
 cases f with
 |zero=>exact hd j ha
 |succ f=>
  simp only[kP,eT]at ha;obtain⟨o,ho,ha⟩:=ha;rw[dI]at ha;obtain⟨e,he,hb⟩:=ha;simp only[ak,bP,beq_iff_eq]at hb;have hdd:jj ops i e.on=true:=by
   simp only[jj,eT];refine⟨o,ho,?_⟩;rw[dI];exact⟨e,he,by simp[hb.1]⟩
  rcases hb.2 with hx|hx
  ·rw[<-hx];exact hd _ hdd
  ·exact h.anc f _ _ (hd _ hdd) hx
theorem fp (a:Act) (d:Nat) (v:Value) (t:Nat) (hd:d<a.tmps.size):c_ (a.put (some d) v) t=if t=d then v else c_ a t:=by
 unfold c_ Act.put;simp only[aC,bm];by_cases h:t=d
 ·subst h;simp[hd]
 ·rw[if_neg (fun e=>h e.symm),if_neg h]
theorem dv (a:Act) (x:Option Tmp) (v:Value):(a.put x v).tmps.size=a.tmps.size:=by cases x<;>simp[Act.put]
theorem gM (a:Act) (x:Option Tmp) (v:Value):(a.put x v).defers=a.defers:=by cases x<;>rfl
theorem xO {a c:Act} (h1:a.tmps.size=c.tmps.size) (h2: ∀t,c_ a t=c_ c t) (h3:a.defers=c.defers):a=c:=by
 obtain⟨ta,da⟩:=a;obtain⟨tc,dc⟩:=c;simp only at h1 h3;subst h3
 congr 1
 apply Array.ext h1;intro i hi hi';have:=h2 i;simp only[c_,aC]at this;simpa[hi,hi']using this
def eM (ops:Array Oper) (o:Oper) (a c:Act):Prop:= ∀t,t∈o.looksAt ops->c_ a t=c_ c t
theorem eM.exec {o:Oper} {a c:Act} (hs: ∀cs b,o.op≠ .select cs b) (h:eM ops o a c):execOp a.eval o=execOp c.eval o:=
 execOp_congr o hs fun x hx=>by
  cases x with
  |tmp t=>exact h t (List.mem_append_left _ (List.mem_filterMap.2 ⟨.tmp t,by simpa using hx,rfl⟩))
  | _=>rfl
theorem eM.wanted {o:Oper} {a c:Act} (hz:a.tmps.size=c.tmps.size) (h:eM ops o a c):Region.wanted o (yielded ops a.tmps)=Region.wanted o (yielded ops c.tmps):=by
 unfold Region.wanted
 cases hg:o.guard with
 |none=>rfl
 |some gw=>
  obtain⟨g,want⟩:=gw;have hy:yielded ops a.tmps g=yielded ops c.tmps g:=by
   unfold yielded
   cases ht:(ops[g]?).bind (·.dst)with
   |none=>rfl
   |some t=>
    have h1:=h t (by simp[Oper.looksAt,hg,ht]);simp only[c_,aC]at h1;simp only[dY];rcases gd t a.tmps.size with hl|hl
    ·have hl':t<c.tmps.size:=hz▸hl;simp only[bH hl,bH hl',bO]at h1⊢;rw[h1]
    ·rw[ee hl,ee (hz▸hl)]
  simp only[hy]
theorem Yl.to {o:Oper} {d:Nat} {a c:Act} {w:World} {R:Value->World->Prop} {QQ:Exit->Act->World->Prop} {K:Act->World->Prop} (hdf:a.defers=c.defers) (hd:o.dst=some d) (hz:d<c.tmps.size) (he:execOp a.eval o=execOp c.eval o)
  (h:Yl P QQ o c w R) (hK: ∀v w',R v w'->K (a.put o.dst v) w'):o.wp P a w K (tR QQ):=by
 have h:=h (fun a' w'=>a'.defers=c.defers/\R (c_ a' d) w') (fun v w' hr=>⟨gM _ _ _,by rw[hd,fp _ _ _ _ hz,if_pos rfl];exact hr⟩);have val: ∀(u:Value) (w':World),((c.put o.dst u).defers=c.defers/\R (c_ (c.put o.dst u) d) w')->K (a.put o.dst u) w':=fun u w' ⟨_,hr⟩=>by
  rw[hd,fp _ _ _ _ hz,if_pos rfl]at hr;exact hK _ _ hr
 unfold Oper.wp at*;rw[he];generalize (execOp c.eval o).run P w=r at*
 cases r with
 |ok n w'=>
  cases n<;>simp only[Oper.upon]at h⊢
  case value u=>exact val u _ h
  case skip=>exact val _ _ h
  case defer x=>
   have:=h.1;rw[gM]at this;exact absurd (congrArg List.length this) (by simp)
  case enter f args=>
   refine Calls.mono h fun e w'' he=> ?_
   cases e with
   |returned u=>exact val u _ he
   |panicked x=>exact fun a' h'=>he a' (h'.trans hdf)
   |outgrown=>exact he
  case row row args=>exact Rows.mono h fun u w'' he=>val u _ he
 |halt x w'=>
  cases x<;>simp only[Oper.upon]at h⊢;exact fun a' h'=>h a' (h'.trans hdf)
section
variable {QQ:Exit->Act->World->Prop}
variable {f:Nat} {tab:xP} {late:Option Nat} {nw:Nat->Bool} {T U:World->World->Prop} {w0:World} {a0:Act}
def wn (P:Program) (ops:Array Oper) (tab:xP) (U:World->World->Prop) (w0:World) (i:Nat) (o:Oper) (d:Nat) (a:Act):Prop:=
 (Region.wanted o (yielded ops a.tmps)=false->c_ a d=undef)/\
 (Region.wanted o (yielded ops a.tmps)=true->match tab i with
  |none=> ∀w,U w0 w->(execOp a.eval o).run P w= .ok (.value (c_ a d)) w
  |some (Sh,_)=>Sh (c_ a d))
def lr (ops:Array Oper) (m:Nat) (nw:Nat->Bool) (D:Nat->Prop) (a:Act):Prop:=
 ∀(i j:Nat) (oi oj:Oper) (di dj:Nat),D i->D j->i<m->j<m->ops[i]? =some oi->ops[j]? =some oj->oi.dst=some di->oj.dst=some dj->nw i=true->nw j=true->i≠j->
  Region.wanted oi (yielded ops a.tmps)=true->Region.wanted oj (yielded ops a.tmps)=true-> ∀g,pB (c_ a di)=some g->pB (c_ a dj)≠some g
structure CH (P:Program) (ops:Array Oper) (m:Nat) (tab:xP) (late:Option Nat) (nw:Nat->Bool) (T U:World->World->Prop) (w0:World) (a0:Act) (D:Nat->Prop) (a:Act) (w:World):Prop where
 step:U w0 w
 early:(∀x,late=some x-> ¬D x)->T w0 w
 size:a.tmps.size=a0.tmps.size
 defers:a.defers=a0.defers
 base: ∀t,(∀(i:Nat) (o:Oper),i<m->ops[i]? =some o->o.dst≠some t)->c_ a t=c_ a0 t
 ok: ∀(i:Nat) (o:Oper) (d:Nat),D i->i<m->ops[i]? =some o->o.dst=some d->wn P ops tab U w0 i o d a
 fact: ∀(i:Nat) (o:Oper) (d:Nat),D i->i<m->ops[i]? =some o->o.dst=some d->Region.wanted o (yielded ops a.tmps)=true-> ∀Sh F,tab i=some (Sh,F)->F (c_ a d) w
 pair:lr ops m nw D a
theorem lH {Fin:Act->List (Nat×(World->Prop))->Prop} (hok:r9 pre ops m a0.tmps.size=true) (hT:U w0 w0)
  (h:d_ P QQ ops f tab late nw T U w0 Fin (ops.toList.take m) 0 a0 []) {D:Nat->Prop} (hD:gU ops D) {a:Act} {w:World} (hI:CH P ops m tab late nw T U w0 a0 D a w):
  ∀k,k<=m-> ∃c Φ,d_ P QQ ops f tab late nw T U w0 Fin ((ops.toList.take m).drop k) k c Φ/\c.tmps.size=a0.tmps.size/\c.defers=a0.defers/\
   (∀t,(∀(i:Nat) (o:Oper),i<m->ops[i]? =some o->o.dst≠some t)->c_ c t=c_ a0 t)/\
   (∀(i:Nat) (o:Oper) (d:Nat),i<k->D i->ops[i]? =some o->o.dst=some d->c_ c d=c_ a d)/\
   (∀p∈Φ,p.1<k/\ ∃o d Sh F,ops[p.1]? =some o/\o.dst=some d/\tab p.1=some (Sh,F)/\p.2=F (c_ c d)/\(D p.1->Region.wanted o (yielded ops a.tmps)=true)):=by
 intro k
 induction k with
 |zero=>intro _;exact⟨a0,[],h,rfl,rfl,fun _ _=>rfl,fun i o d hi=>absurd hi (by omega),fun p hp=>by cases hp⟩
 |succ k ih=>
  intro hk;obtain⟨c,Φ,hs,h1,h2,h3,h4,h5⟩:=ih (by omega);obtain⟨o,d,ho,hd,hdl,hsel,hdef,huniq,hlook⟩:=gm hok (i:=k) (by omega);have hlen:k<(ops.toList.take m).length:=by have:=nK hok;simp;omega
  have hget:(ops.toList.take m)[k]=o:=by
   have:=(Array.getElem?_eq_some_iff.1 ho).2;simp[this]
  rw[ay hlen,hget]at hs
  -- what the next frame is like
  have next: ∀v,(D k->c_ a d=v)->
    ∀(Ψ:List (Nat×(World->Prop))),(∀p∈Ψ,p∈Φ\/(p.1=k/\ ∃Sh F,tab k=some (Sh,F)/\p.2=F v/\(D k->Region.wanted o (yielded ops a.tmps)=true)))->
    d_ P QQ ops f tab late nw T U w0 Fin ((ops.toList.take m).drop (k+1)) (k+1) (c.put o.dst v) Ψ->
    ∃c Φ,d_ P QQ ops f tab late nw T U w0 Fin ((ops.toList.take m).drop (k+1)) (k+1) c Φ/\c.tmps.size=a0.tmps.size/\c.defers=a0.defers/\
     (∀t,(∀(i:Nat) (o:Oper),i<m->ops[i]? =some o->o.dst≠some t)->c_ c t=c_ a0 t)/\
     (∀(i:Nat) (o:Oper) (d:Nat),i<k+1->D i->ops[i]? =some o->o.dst=some d->c_ c d=c_ a d)/\
     (∀p∈Φ,p.1<k+1/\ ∃o d Sh F,ops[p.1]? =some o/\o.dst=some d/\tab p.1=some (Sh,F)/\p.2=F (c_ c d)/\(D p.1->Region.wanted o (yielded ops a.tmps)=true)):=by
   intro v hv Ψ hΨ hs';have hp: ∀t,c_ (c.put o.dst v) t=if t=d then v else c_ c t:=fun t=>by rw[hd];exact fp _ _ _ _ (by rw[h1];exact hdl)
   refine⟨_,Ψ,hs',by rw[dv];exact h1,by rw[gM];exact h2,?_,?_,?_⟩
   ·intro t ht;rw[hp,if_neg (fun e=>ht k o (by omega) ho (by rw[hd,e]))];exact h3 t ht
   ·intro i oi di hi hDi hoi hdi;rw[hp];rcases gd i k with hik|hik
    ·rw[if_neg (fun e=>huniq i (by omega) (by omega) oi hoi (by rw[hdi,e]))];exact h4 i oi di hik hDi hoi hdi
    ·obtain rfl:i=k:=by omega
     rw[ho]at hoi;injection hoi with hoi;subst hoi;rw[hd]at hdi;injection hdi with hdi;subst hdi;rw[if_pos rfl];exact(hv hDi).symm
   ·intro p hp';rcases hΨ p hp' with hin|⟨hpk,Sh,F,ht,hF,hw⟩
    ·obtain⟨hl,op,dp,Sh,F,hop,hdp,htp,hpF,hwp⟩:=h5 p hin;refine⟨by omega,op,dp,Sh,F,hop,hdp,htp,?_,hwp⟩;rw[hp,if_neg (fun e=>huniq p.1 (by omega) (by omega) op hop (by rw[hdp,e]))];exact hpF
    ·refine⟨by omega,o,d,Sh,F,by rw[hpk];exact ho,hd,by rw[hpk];exact ht,?_,by rw[hpk];exact hw⟩;rw[hp,if_pos rfl];exact hF
  -- if k has been carried out, the lQ frames are the same for it
  have same:D k->eM ops o a c:=fun hDk t ht=>by
   by_cases hex: ∃(i:Nat) (oi:Oper),i<m/\ops[i]? =some oi/\oi.dst=some t
   ·obtain⟨i,oi,him,hoi,hdi⟩:=hex;have hdir:=hlook i him oi t hoi hdi ht;have hik:i<k:=by
     simp only[jj,ho,i8]at hdir;rw[dI]at hdir;obtain⟨e,he,hb⟩:=hdir;simp only[ak,beq_iff_eq]at hb;have:=nJ hok ho e he hb.1;omega
    exact(h4 i oi t hik (hD k i hDk hdir) hoi hdi).symm
   ·rw[hI.base t (fun i oi him hoi hdi=>hex ⟨i,oi,him,hoi,hdi⟩),h3 t (fun i oi him hoi hdi=>hex ⟨i,oi,him,hoi,hdi⟩)]
  have hz:a.tmps.size=c.tmps.size:=by rw[hI.size,h1]
  obtain⟨hs0,hs1⟩:=hs
  cases hw:Region.wanted o (yielded ops c.tmps)with
  |false=>
   exact next undef (fun hDk=>(hI.ok k o d hDk (by omega) ho hd).1 (by rw[(same hDk).wanted hz];exact hw)) Φ (fun p hp=> .inl hp) (hs0 hw)
  |true=>
   have hs1:=hs1 hw
   cases ht:tab k with
   |none=>
    rw[ht]at hs1;obtain⟨v,hv,hs2⟩:=hs1;refine next v (fun hDk=> ?_) Φ (fun p hp=> .inl hp) hs2;have hok':=(hI.ok k o d hDk (by omega) ho hd).2 (by rw[(same hDk).wanted hz];exact hw);rw[ht]at hok';have e1:=hok' w0 hT;rw[(same hDk).exec hsel,hv w0 hT]at e1;injection e1 with e1;injection e1 with e1;exact e1.symm
   |some sf=>
    obtain⟨Sh,F⟩:=sf;rw[ht]at hs1;obtain⟨⟨v0,hv0⟩,_,hs2⟩:=hs1;by_cases hDk:D k
    ·have hwa:Region.wanted o (yielded ops a.tmps)=true:=by rw[(same hDk).wanted hz];exact hw
     have hok':=(hI.ok k o d hDk (by omega) ho hd).2 hwa;rw[ht]at hok';refine next (c_ a d) (fun _=>rfl) ((k,F (c_ a d))::Φ) ?_ (hs2 _ hok');intro p hp;rcases List.mem_cons.1 hp with rfl|hp
     ·exact .inr ⟨rfl,Sh,F,ht,rfl,fun _=>hwa⟩
     ·exact .inl hp
    ·refine next v0 (fun hDk'=>absurd hDk' hDk) ((k,F v0)::Φ) ?_ (hs2 _ hv0);intro p hp;rcases List.mem_cons.1 hp with rfl|hp
     ·exact .inr ⟨rfl,Sh,F,ht,rfl,fun hDk'=>absurd hDk' hDk⟩
     ·exact .inl hp
def pd (m:Nat) (l:Array Bool):Nat:=(List.range m).countP fun i=> !l.getD i true
theorem kA (l:Array Bool) (m:Nat):pd (m+1) l=pd m l+(if l.getD m true=false then 1 else 0):=by
 unfold pd;rw[List.range_succ,List.countP_append,jh]
 cases l.getD m true<;>rfl
theorem mL (l:Array Bool) (i m:Nat) (hlt:i<l.size):(l.setIfInBounds i true).getD m true=if m=i then true else l.getD m true:=by
 simp only[aC,bm];by_cases h:i=m
 ·subst h;simp[hlt]
 ·rw[if_neg h,if_neg (fun e=>h e.symm)]
theorem rC (l:Array Bool) (i:Nat) (hi:l.getD i true=false): ∀m,pd m (l.setIfInBounds i true)+(if i<m then 1 else 0)=pd m l:=by
 have hlt:i<l.size:=by
  rcases gd i l.size with h|h
  ·exact h
  ·simp[aC,ee h]at hi
 intro m
 induction m with
 |zero=>simp[pd]
 |succ m ih=>
  rw[kA,kA,mL _ _ _ hlt];by_cases h:m=i
  ·subst h;rw[hi];simp at ih⊢;omega
  ·rw[if_neg h];have h2:(i<m+1)↔(i<m):=by omega
   simp only[h2];omega
theorem o_ {l:Array Bool}: ∀m,pd m l=0-> ∀i,i<m->l.getD i true=true:=by
 intro m h i hi;unfold pd at h;rw[List.countP_eq_zero]at h;have:=h i (by simpa using hi);simpa using this
theorem rD {l:Array Bool}: ∀m,pd m l≠0-> ∃i,i<m/\l.getD i true=false/\ ∀j,j<i->l.getD j true=true:=by
 intro m
 induction m with
 |zero=>simp[pd]
 |succ m ih=>
  intro h;by_cases h0:pd m l=0
  ·refine⟨m,by omega,?_,o_ m h0⟩;unfold pd at h h0;rw[List.range_succ,List.countP_append,h0]at h;simp only[jh]at h
   cases hm:l.getD m true<;>simp[hm]at h⊢
  ·obtain⟨i,h1,h2⟩:=ih h0;exact⟨i,by omega,h2⟩
theorem ep {l:Array Bool} {i:Nat}:i∈Region.ready .any ops l↔l.getD i true=false/\ ∃o,ops[i]? =some o/\ ∀e∈o.after,Region.binds .any e=true->l.getD e.on false=true:=by
 unfold Region.ready;rw[List.mem_filter,dF];constructor
 ·rintro⟨hlt,h⟩;rw[ak]at h;have ho:ops[i]? =some ops[i]:=bH hlt;refine⟨by simpa using h.1,ops[i],ho,fun e he hb=> ?_⟩;have h2:=h.2;rw[ho]at h2;simp only[fW,bO,dS]at h2;have:=h2 e he;simpa[hb]using this
 ·rintro⟨h1,o,ho,h2⟩;refine⟨(Array.getElem?_eq_some_iff.1 ho).1,?_⟩;rw[ak,ho];refine⟨by simp[h1],?_⟩;simp only[fW,bO,dS];intro e he
  cases hb:Region.binds .any e
  ·simp
  ·simp[h2 e he hb]
theorem ib {i j:Nat} {o:Oper} (ho:ops[i]? =some o):jj ops i j=true↔ ∃e∈o.after,Region.binds .any e=true/\e.on=j:=by
 simp only[jj,ho,i8];rw[dI];simp
def nf (WO:Nat->(Act->World->Prop)->Act->World->Prop) (N:Act->World->Prop) (ops:Array Oper):Nat->Array Bool->Act->World->Prop
 |0,l,a,w=>Region.ready .any ops l=[]/\N a w
 |fuel+1,l,a,w=>(Region.ready .any ops l=[]->N a w)/\ ∀i∈Region.ready .any ops l,WO i (nf WO N ops fuel (l.setIfInBounds i true)) a w
def lA (WO:Nat->(Act->World->Prop)->Act->World->Prop) (N:Act->World->Prop):List Nat->Act->World->Prop
 | []=>N
 |i::l=>WO i (lA WO N l)
structure jP (P:Program) (QQ:Exit->Act->World->Prop) (ops:Array Oper) (S:World->Prop) (WO:Nat->(Act->World->Prop)->Act->World->Prop):Prop where
 mono: ∀{i:Nat} {K K':Act->World->Prop} {a:Act} {w:World},(∀a w,K a w->K' a w)->WO i K a w->WO i K' a w
 skip: ∀{i:Nat} {o:Oper} {K:Act->World->Prop} {a:Act} {w:World},ops[i]? =some o->Region.wanted o (yielded ops a.tmps)=false->S w->K (a.put o.dst undef) w->WO i K a w
 run: ∀{i:Nat} {o:Oper} {K:Act->World->Prop} {a:Act} {w:World},ops[i]? =some o->Region.wanted o (yielded ops a.tmps)=true->(∀c,o.op≠ .defer c)->o.wp P a w (fun a' w'=>S w'/\K a' w') (tR QQ)->WO i K a w
structure mR (P:Program) (QQ:Exit->Act->World->Prop) (ops:Array Oper) (WO:Nat->(Act->World->Prop)->Act->World->Prop):Prop where
 mono: ∀{i:Nat} {K K':Act->World->Prop} {a:Act} {w:World},(∀a w,K a w->K' a w)->WO i K a w->WO i K' a w
 skip: ∀{i:Nat} {o:Oper} {K:Act->World->Prop} {a:Act} {w:World},ops[i]? =some o->Region.wanted o (yielded ops a.tmps)=false->K (a.put o.dst undef) w->WO i K a w
 run: ∀{i:Nat} {o:Oper} {K:Act->World->Prop} {a:Act} {w:World},ops[i]? =some o->Region.wanted o (yielded ops a.tmps)=true->(∀c,o.op≠ .defer c)->o.wp P a w K (tR QQ)->WO i K a w
theorem mR.toS {S:World->Prop} {WO:Nat->(Act->World->Prop)->Act->World->Prop} (h:mR P QQ ops WO):jP P QQ ops S WO where
 mono:=h.mono
 skip:=fun ho hw _ hk=>h.skip ho hw hk
 run:=fun ho hw hd hk=>h.mono (fun _ _ hk=>hk.2) (h.run ho hw hd hk)
def iX (ops:Array Oper) (tk:List Nat) (l:Array Bool):Option Nat:=tk.find? fun j=>(Region.ready .any ops l).contains j
theorem lG {tk:List Nat} {l:Array Bool} {i:Nat} (h:iX ops tk l=some i):i∈tk/\i∈Region.ready .any ops l:=
 ⟨c8 h,by have:=i_ h;simpa using this⟩
theorem pZ {tk:List Nat} {l:Array Bool} (h:iX ops tk l=none): ∀j∈tk,¬j∈Region.ready .any ops l:=fun j hj hr=>by
 have:=List.find?_eq_none.1 h j hj;exact this (by simpa using hr)
def wM (ops:Array Oper) (tk:List Nat) (m:Nat):Bool:=
 tk.all fun i=>decide (i<m)&&(List.range ops.size).all fun j=>j==i||jj ops j i||kP ops 4 i j||(match ops[i]?,ops[j]? with|some oi,some oj=>oi.apart ops oj| _,_=>false)
theorem ud {tk:List Nat} (h:wM ops tk m=true) {i:Nat} (hi:i∈tk):i<m:=by
 simp only[wM,bG,ak,decide_eq_true_eq]at h;exact(h i hi).1
theorem sO {tk:List Nat} (h:wM ops tk m=true) {i j:Nat} (hi:i∈tk) {oi oj:Oper} (hoi:ops[i]? =some oi) (hoj:ops[j]? =some oj) (hji:j≠i) (h1:jj ops j i=false) (h2:kP ops 4 i j=false):oi.apart ops oj=true:=by
 simp only[wM,bG,ak,decide_eq_true_eq]at h;have h3:=(h i hi).2 j (by rw[dF];exact(Array.getElem?_eq_some_iff.1 hoj).1);rw[hoi,hoj,h1,h2]at h3;have h4:(j==i)=false:=by simpa using hji
 rw[h4]at h3;simpa using h3
def jV (P:Program) (ops:Array Oper) (tk:List Nat) (S:World->Prop) (WO:Nat->(Act->World->Prop)->Act->World->Prop) (N:Act->World->Prop):Nat->Array Bool->Act->World->Prop
 |0,l,a,w=>Region.ready .any ops l=[]/\N a w
 |fuel+1,l,a,w=>match iX ops tk l with
  |some i=> ∃v o,ops[i]? =some o/\YieldsIf P ops S o v a/\jV P ops tk S WO N fuel (l.setIfInBounds i true) (a.put o.dst v) w
  |none=>(Region.ready .any ops l=[]->N a w)/\ ∀i∈Region.ready .any ops l,WO i (jV P ops tk S WO N fuel (l.setIfInBounds i true)) a w
section
variable {tk:List Nat} {S:World->Prop} {WO:Nat->(Act->World->Prop)->Act->World->Prop} {N:Act->World->Prop}
theorem tK {fuel:Nat} {l:Array Bool} {a:Act} {w:World} {i:Nat} (h:iX ops tk l=some i)
  (hk: ∃v o,ops[i]? =some o/\YieldsIf P ops S o v a/\jV P ops tk S WO N fuel (l.setIfInBounds i true) (a.put o.dst v) w):jV P ops tk S WO N (fuel+1) l a w:=by
 simp only[jV,h];exact hk
theorem nY {fuel:Nat} {l:Array Bool} {a:Act} {w:World} (h:iX ops tk l=none)
  (hk:(Region.ready .any ops l=[]->N a w)/\ ∀i∈Region.ready .any ops l,WO i (jV P ops tk S WO N fuel (l.setIfInBounds i true)) a w):jV P ops tk S WO N (fuel+1) l a w:=by
 simp only[jV,h];exact hk
theorem p6 {l:Array Bool} (h: ∀j∈tk,l.getD j true=true):iX ops tk l=none:=by
 unfold iX;rw[eV];intro j hj hr;have hr:j∈Region.ready .any ops l:=by simpa using hr
 have:=(ep.1 hr).1;rw[h j hj]at this
 cases this
theorem kO {S':World->Prop} (hW:jP P QQ ops S' WO): ∀(fuel:Nat) (l:Array Bool) (a:Act) (w:World),(∀j∈tk,l.getD j true=true)->nf WO N ops fuel l a w->jV P ops tk S WO N fuel l a w
 |0,_,_,_,_,h=>h
 |fuel+1,l,a,w,hd,h=>nY (p6 hd) ⟨h.1,fun i hi=>hW.mono (fun a w h'=>kO hW fuel _ a w (fun j hj=>by
   have:=hd j hj;simp only[aC,bm]at this⊢;split
   ·split<;>rfl
   ·exact this) h') (h.2 i hi)⟩
end
variable {WO:Nat->(Act->World->Prop)->Act->World->Prop} {N:Act->World->Prop} {S:World->Prop}
theorem pj (hW:jP P QQ ops S WO) (hok:r9 pre ops m size=true) (hT:A6 ops m=true): ∀(r k:Nat) (l:Array Bool) (a:Act) (w:World),r=ops.size-k->m<=k->k<=ops.size->l.size=ops.size->(∀i,i<ops.size->l.getD i true=decide (i<k))->
  lA WO N (List.range' k (ops.size-k)) a w->nf WO N ops r l a w:=by
 intro r
 induction r with
 |zero=>
  intro k l a w hr _ hk hl hlk h;obtain rfl:k=ops.size:=by omega
  refine⟨?_,by rw[Nat.sub_self]at h;exact h⟩;rw[List.eq_nil_iff_forall_not_mem];intro i hi;obtain⟨h1,o,ho,_⟩:=ep.1 hi;have hlt:=(Array.getElem?_eq_some_iff.1 ho).1;rw[hlk i hlt]at h1;simp at h1;omega
 |succ r ih=>
  intro k l a w hr hm hk hl hlk h;have hk':k<ops.size:=by omega
  have hok':ops[k]? =some ops[k]:=bH hk';refine⟨fun hnil=> ?_,fun i hi=> ?_⟩
  ·have:k∈Region.ready .any ops l:=ep.2 ⟨by rw[hlk k hk'];simp,_,hok',fun e he hbe=>by
    have h1:=nJ hok hok' e he hbe;have h2:=hlk e.on (by omega);simp only[aC]at h2⊢;have h3:e.on<l.size:=by omega
    simp only[bH h3,bO]at h2⊢
    rw[h2];simp;omega⟩
   rw[hnil]at this
   cases this
  ·obtain⟨h1,o,ho,h2⟩:=ep.1 hi;have hilt:=(Array.getElem?_eq_some_iff.1 ho).1;have hki:k<=i:=by rw[hlk i hilt]at h1;simpa using h1
   obtain rfl:i=k:=by
    rcases gd k i with hlt|hge
    ·rcases uX hT (i:=i) (by omega) hilt with h3|h3
     ·omega
     ·obtain⟨e,he,hb,hon⟩:=(ib ho).1 h3;have h4:=h2 e he hb;have h5:=hlk e.on (by omega);have h6:e.on<l.size:=by omega
      simp only[aC,bH h6,bO]at h4 h5;rw[h4]at h5;simp at h5;omega
    ·omega
   have hrec: ∀a w,lA WO N (List.range' (i+1) (ops.size-(i+1))) a w->nf WO N ops r (l.setIfInBounds i true) a w:=fun a w hh=>
    ih (i+1) _ a w (by omega) (by omega) (by omega) (by simpa using hl) (fun j hj=>by
     simp only[aC,bm];by_cases hji:i=j
     ·subst hji;simp[hl,hj]
     ·rw[if_neg hji];have:=hlk j hj;simp only[aC]at this;rw[this];simp only[decide_eq_decide]
      omega) hh
   rw[show ops.size-i=(ops.size-(i+1))+1 from by omega,List.range'_succ]at h;exact hW.mono hrec h
theorem nN {TL:Act->World->Prop} (htk:wM ops pre m=true) (htn: ∀j∈pre,tab j=none) (hTL: ∀(l:Array Bool) (a:Act) (w:World),l.size=ops.size->(∀i,i<ops.size->l.getD i true=decide (i<m))->TL a w->nf WO N ops (ops.size-m+0) l a w) (hW:jP P QQ ops (U w0) WO) (hok:r9 pre ops m a0.tmps.size=true) (hTr:U w0 w0) (hTt: ∀a b c,U a b->U b c->U a c) (hTU: ∀a b,T a b->U a b) (hTT: ∀a b c,T a b->T b c->T a c) (hTs: ∀i Sh F,tab i=some (Sh,F)-> ∀v w w',F v w->T w w'->F v w')
  (hUs: ∀i Sh F,late≠some i->tab i=some (Sh,F)-> ∀v w w',F v w->U w w'->F v w') (hT1: ∀w,T w w)
  (hNw: ∀i,nw i=true-> ∃Sh F,tab i=some (Sh,F)/\ ∀v w,F v w-> ∀g,pB v=some g->g<w.heap.size)
  (h:d_ P QQ ops f tab late nw T U w0 (fun a Φ=> ∀w,U w0 w->(∀p∈Φ,p.2 w)->lr ops m nw (fun _=>True) a->TL a w) (ops.toList.take m) 0 a0 []):
  ∀(n:Nat) (l:Array Bool) (a:Act) (w:World),n=pd m l->l.size=ops.size->(∀i,i<ops.size->m<=i->l.getD i true=false)->gU ops (fun i=>l.getD i false=true)->
   CH P ops m tab late nw T U w0 a0 (fun i=>l.getD i false=true) a w->jV P ops pre (U w0) WO N (ops.size-m+n) l a w:=by
 have hmle:=nK hok;intro n
 induction n with
 |zero=>
  intro l a w hn hl hm hC hI;have hall:=o_ m hn.symm;have hD: ∀i,i<m->l.getD i false=true:=fun i hi=>by
   have h1:=hall i hi;have h3:i<l.size:=by omega
   simp only[aC,bH h3,bO]at h1⊢;exact h1
  obtain⟨c,Φ,hs,h1,h2,h3,h4,h5⟩:=lH hok hTr h hC hI m (an _);rw[aB (l:=ops.toList.take m) (i:=m) (List.length_take_le _ _)]at hs
  obtain rfl:c=a:=xO (by rw[h1,hI.size]) (fun t=>by
   by_cases hex: ∃(i:Nat) (oi:Oper),i<m/\ops[i]? =some oi/\oi.dst=some t
   ·obtain⟨i,oi,him,hoi,hdi⟩:=hex;exact h4 i oi t him (hD i him) hoi hdi
   ·rw[hI.base t (fun i oi him hoi hdi=>hex ⟨i,oi,him,hoi,hdi⟩),h3 t (fun i oi him hoi hdi=>hex ⟨i,oi,him,hoi,hdi⟩)]) (by rw[h2,hI.defers])
  refine kO hW (ops.size-m+0) l c w (fun j hj=>hall j (ud htk hj)) ?_;refine hTL l c w hl (fun i hi=> ?_) (hs w hI.step (fun p hp=> ?_) ?_)
  ·by_cases him:i<m
   ·rw[hall i him];simp[him]
   ·rw[hm i hi (by omega)];simp[him]
  ·obtain⟨hlt,o,d,Sh,F,ho,hd,ht,hF,hw⟩:=h5 p hp;rw[hF];exact hI.fact p.1 o d (hD _ hlt) hlt ho hd (hw (hD _ hlt)) Sh F ht
  ·intro i j oi oj di dj _ _ hi hj;exact hI.pair i j oi oj di dj (hD i hi) (hD j hj) hi hj
 |succ n ih=>
  intro l a w hn hl hm hC hI;have hlf: ∀i,i<ops.size->l.getD i false=l.getD i true:=fun i hi=>by
   have h3:i<l.size:=by omega
   simp only[aC,bH h3,bO]
  have hsz:ops.size-m+(n+1)=(ops.size-m+n)+1:=by omega
  rw[hsz]
  cases hft:iX ops pre l with
  |some i=>
   refine tK hft ?_;obtain⟨hit,hi⟩:=lG hft;obtain⟨h1,o',ho',h2⟩:=ep.1 hi;have hilt:=(Array.getElem?_eq_some_iff.1 ho').1;have hdeps: ∀k,jj ops i k=true->l.getD k false=true:=fun k hk=>by
    obtain⟨e,he,hb,hon⟩:=(ib ho').1 hk;rw[<-hon];exact h2 e he hb
   have him:i<m:=ud htk hit;obtain⟨o,d,ho,hd,hdl,hsel,hdef,huniq,hlook⟩:=gm hok him;rw[ho]at ho';injection ho' with ho';subst ho';obtain⟨c,Φ,hs,g1,g2,g3,g4,g5⟩:=lH hok hTr h hC hI i (by omega);have hlen:i<(ops.toList.take m).length:=by simp;omega
   have hget:(ops.toList.take m)[i]=o:=by
    have:=(Array.getElem?_eq_some_iff.1 ho).2;simp[this]
   rw[ay hlen,hget]at hs;have same:eM ops o a c:=fun t ht=>by
    by_cases hex: ∃(k:Nat) (oi:Oper),k<m/\ops[k]? =some oi/\oi.dst=some t
    ·obtain⟨k,oi,hkm,hoi,hdi⟩:=hex;have hdir:=hlook k hkm oi t hoi hdi ht;have hik:k<i:=by
      obtain⟨e,he,hb,hon⟩:=(ib ho).1 hdir;have:=nJ hok ho e he hb;omega
     exact(g4 k oi t hik (hdeps k hdir) hoi hdi).symm
    ·rw[hI.base t (fun i oi him hoi hdi=>hex ⟨i,oi,him,hoi,hdi⟩),g3 t (fun i oi him hoi hdi=>hex ⟨i,oi,him,hoi,hdi⟩)]
   have hz:a.tmps.size=c.tmps.size:=by rw[hI.size,g1]
   have hC':gU ops (fun j=>(l.setIfInBounds i true).getD j false=true):=fun j k hj hjk=>by
    have set: ∀j,(l.setIfInBounds i true).getD j false=if j=i then true else l.getD j false:=fun j=>by
     simp only[aC,bm];by_cases h:i=j
     ·subst h;simp[hl,hilt]
     ·rw[if_neg h,if_neg (fun e=>h e.symm)]
    simp only[set]at hj⊢;by_cases hji:j=i
    ·subst hji;by_cases hki:k=j
     ·rw[if_pos hki]
     ·rw[if_neg hki];exact hdeps k hjk
    ·rw[if_neg hji]at hj;by_cases hki:k=i
     ·rw[if_pos hki]
     ·rw[if_neg hki];exact hC j k hj hjk
   -- the step: a value v in c_ d
   have go: ∀v w',(if late=some i then U w w' else T w w')->wn P ops tab U w0 i o d (a.put o.dst v)->(Region.wanted o (yielded ops a.tmps)=true-> ∀Sh F,tab i=some (Sh,F)->F v w')->(nw i=true-> ∀g,pB v=some g->w.heap.size<=g)->
     jV P ops pre (U w0) WO N (ops.size-m+n) (l.setIfInBounds i true) (a.put o.dst v) w':=by
    intro v w' hstep0 hOk hFact hNew;have hstep:U w w':=by
     by_cases hl:late=some i
     ·rw[if_pos hl]at hstep0;exact hstep0
     ·rw[if_neg hl]at hstep0;exact hTU _ _ hstep0
    have hp: ∀t,c_ (a.put o.dst v) t=if t=d then v else c_ a t:=fun t=>by rw[hd];exact fp _ _ _ _ (by rw[hI.size];exact hdl)
    have other: ∀(j:Nat) (oj:Oper) (dj:Nat),(l.setIfInBounds i true).getD j false=true->j≠i->j<m->ops[j]? =some oj->oj.dst=some dj->l.getD j false=true/\dj≠d/\eM ops oj (a.put o.dst v) a:=by
     intro j oj dj hj hji hjm hoj hdj;have hj':l.getD j false=true:=by
      simp only[aC,bm]at hj⊢;rw[if_neg (fun e=>hji e.symm)]at hj;exact hj
     refine⟨hj',fun e=>huniq j hjm hji oj hoj (by rw[hdj,e]),fun t ht=> ?_⟩;rw[hp];by_cases htd:t=d
     ·subst htd;obtain⟨oj2,dj2,hoj2,_,_,_,_,_,hlook2⟩:=gm hok hjm;rw[hoj]at hoj2;injection hoj2 with hoj2;subst hoj2;have:=hC j i hj' (hlook2 i him o t ho hd ht);simp only[]at this;rw[hlf i hilt,h1]at this
      cases this
     ·rw[if_neg htd]
    refine ih _ _ _ ?_ (by simpa using hl) ?_ hC' ⟨hTt _ _ _ hI.step hstep,?_,by rw[dv,hI.size],by rw[gM,hI.defers],?_,?_,?_,?_⟩
    ·have:=rC l i h1 m;rw[if_pos him]at this;omega
    ·intro j hj hmj;rw[mL _ _ _ (by omega),if_neg (by omega)];exact hm j hj hmj
    ·intro hE;have hni:late≠some i:=fun e=>hE i e (by simp[aC,hl,hilt]);rw[if_neg hni]at hstep0;refine hTT _ _ _ (hI.early fun x hx hDx=>hE x hx ?_) hstep0;simp only[aC,bm]at hDx⊢;by_cases hxi:i=x
     ·subst hxi;simp[hl,hilt]
     ·rw[if_neg hxi];exact hDx
    ·intro t ht;rw[hp,if_neg (fun e=>ht i o him ho (by rw[hd,e]))];exact hI.base t ht
    ·intro j oj dj hj hjm hoj hdj;by_cases hji:j=i
     ·subst hji;rw[ho]at hoj;injection hoj with hoj;subst hoj;rw[hd]at hdj;injection hdj with hdj;subst hdj;exact hOk
     ·obtain⟨hj',hne,hsame⟩:=other j oj dj hj hji hjm hoj hdj;obtain⟨oj2,_,hoj2,_,_,hsel2,_,_⟩:=gm hok hjm;rw[hoj]at hoj2;injection hoj2 with hoj2;subst hoj2;have hok0:=hI.ok j oj dj hj' hjm hoj hdj;unfold wn at hok0⊢;rw[hsame.wanted (dv _ _ _),hsame.exec hsel2,hp,if_neg hne];exact hok0
    ·intro j oj dj hj hjm hoj hdj hwj Sh F ht;rw[hp];by_cases hji:j=i
     ·subst hji;rw[ho]at hoj;injection hoj with hoj;subst hoj;rw[hd]at hdj;injection hdj with hdj;subst hdj;rw[if_pos rfl];have hself:eM ops o (a.put o.dst v) a:=fun t ht'=>by
       rw[hp,if_neg];intro e;subst e;have:=hdeps j (hlook j him o t ho hd ht');rw[hlf j hilt,h1]at this
       cases this
      exact hFact (by rw[<-hself.wanted (dv _ _ _)];exact hwj) Sh F ht
     ·obtain⟨hj',hne,hsame⟩:=other j oj dj hj hji hjm hoj hdj;rw[if_neg hne];have hF:=hI.fact j oj dj hj' hjm hoj hdj (by rw[<-hsame.wanted (dv _ _ _)];exact hwj) Sh F ht;by_cases hl:late=some i
      ·exact hUs j Sh F (fun e=>hji (by rw[hl]at e;injection e with e;exact e.symm)) ht _ _ _ hF hstep
      ·rw[if_neg hl]at hstep0;exact hTs j Sh F ht _ _ _ hF hstep0
    ·intro j k oj ok dj dk hj hk hjm hkm hoj hok' hdj hdk hnj hnk hne hwj hwk g hgj hgk;have old: ∀(k:Nat) (ok:Oper) (dk:Nat),(l.setIfInBounds i true).getD k false=true->k≠i->k<m->ops[k]? =some ok->ok.dst=some dk->nw k=true->Region.wanted ok (yielded ops (a.put o.dst v).tmps)=true->
       l.getD k false=true/\Region.wanted ok (yielded ops a.tmps)=true/\c_ (a.put o.dst v) dk=c_ a dk/\ ∀g,pB (c_ a dk)=some g->g<w.heap.size:=fun k ok dk hk hki hkm hok hdk hnk hwk=>by
      obtain⟨hk',hne,hsame⟩:=other k ok dk hk hki hkm hok hdk;have hwk':Region.wanted ok (yielded ops a.tmps)=true:=by rw[<-hsame.wanted (dv _ _ _)];exact hwk
      refine⟨hk',hwk',by rw[hp,if_neg hne],fun g hg=> ?_⟩;obtain⟨Sh,F,ht,hold⟩:=hNw k hnk;exact hold _ _ (hI.fact k ok dk hk' hkm hok hdk hwk' Sh F ht) g hg
     by_cases hji:j=i
     ·subst hji;rw[ho]at hoj;injection hoj with hoj;subst hoj;rw[hd]at hdj;injection hdj with hdj;subst hdj;rw[hp,if_pos rfl]at hgj;obtain⟨_,_,e1,e2⟩:=old k ok dk hk (fun e=>hne e.symm) hkm hok' hdk hnk hwk;rw[e1]at hgk;have h1:=hNew hnj g hgj;have h2:=e2 g hgk;omega
     ·obtain⟨j1,j2,e1,e2⟩:=old j oj dj hj hji hjm hoj hdj hnj hwj;rw[e1]at hgj;by_cases hki:k=i
      ·subst hki;rw[ho]at hok';injection hok' with hok';subst hok';rw[hd]at hdk;injection hdk with hdk;subst hdk;rw[hp,if_pos rfl]at hgk;have h1:=hNew hnk g hgk;have h2:=e2 g hgj;omega
      ·obtain⟨k1,k2,e3,_⟩:=old k ok dk hk hki hkm hok' hdk hnk hwk;rw[e3]at hgk;exact hI.pair j k oj ok dj dk j1 k1 hjm hkm hoj hok' hdj hdk hnj hnk hne j2 k2 g hgj hgk
   have self: ∀v,eM ops o (a.put o.dst v) a:=fun v t ht'=>by
    have hp: ∀t,c_ (a.put o.dst v) t=if t=d then v else c_ a t:=fun t=>by rw[hd];exact fp _ _ _ _ (by rw[hI.size];exact hdl)
    rw[hp,if_neg];intro e;subst e;have:=hdeps i (hlook i him o t ho hd ht');rw[hlf i hilt,h1]at this
    cases this
   have own: ∀v,c_ (a.put o.dst v) d=v:=fun v=>by rw[hd,fp _ _ _ _ (by rw[hI.size];exact hdl),if_pos rfl]
   obtain⟨_,hs1⟩:=hs
   cases hw:Region.wanted o (yielded ops a.tmps)with
   |true=>
    have hs1:=hs1 (by rw[<-same.wanted hz];exact hw);have ht:=htn i hit;rw[ht]at hs1;obtain⟨v,hv,_⟩:=hs1;refine⟨v,o,ho, .inl ⟨hw,fun w1 hw1=>by rw[same.exec hsel];exact hv w1 hw1⟩,go v w (by split;exact hTU _ _ (hT1 w);exact hT1 w) ⟨fun hf=> ?_,fun _=> ?_⟩ (fun _ Sh F h=>by rw[ht]at h;cases h) (fun hn=>by obtain⟨_,_,h,_⟩:=hNw i hn;rw[ht]at h;cases h)⟩
    ·rw[(self v).wanted (dv _ _ _),hw]at hf;cases hf
    ·rw[ht];intro w1 hw1;rw[(self v).exec hsel,same.exec hsel,own];exact hv w1 hw1
   |false=>
    have hwf:=hw;refine⟨undef,o,ho, .inr ⟨hw,rfl⟩,go undef w (by split;exact hTU _ _ (hT1 w);exact hT1 w) ⟨fun _=>own undef,fun hf=> ?_⟩ (fun h=>by rw[hwf]at h;cases h) (fun _ g hg=>by cases hg)⟩;rw[(self undef).wanted (dv _ _ _),hwf]at hf
    cases hf
  |none=>
   refine nY hft ⟨fun hnil=> ?_,fun i hi=> ?_⟩
   ·obtain⟨i,him,hi0,hib⟩:=rD m (l:=l) (by omega);obtain⟨o,d,ho,_⟩:=gm hok him
    have:i∈Region.ready .any ops l:=ep.2 ⟨hi0,o,ho,fun e he hbe=>by
     have h1:=nJ hok ho e he hbe;rw[hlf _ (by omega)]
     exact hib _ h1⟩
    rw[hnil]at this
    cases this
   ·skip
    obtain⟨h1,o',ho',h2⟩:=ep.1 hi;have hilt:=(Array.getElem?_eq_some_iff.1 ho').1;have hdeps: ∀k,jj ops i k=true->l.getD k false=true:=fun k hk=>by
     obtain⟨e,he,hb,hon⟩:=(ib ho').1 hk;rw[<-hon];exact h2 e he hb
    have him:i<m:=by
     rcases gd i m with h3|h3
     ·exact h3
     ·exfalso
      obtain⟨j,hj,hj0,hjb⟩:=rD m (l:=l) (by omega);by_cases hjt:j∈pre
      ·obtain⟨oj,dj,hoj,_⟩:=gm hok hj
       have hjr:j∈Region.ready .any ops l:=ep.2 ⟨hj0,oj,hoj,fun e he hbe=>by
        have h1:=nJ hok hoj e he hbe;rw[hlf _ (by omega)]
        exact hjb _ h1⟩
       exact pZ hft j hjt hjr
      ·have h4:=jJ (D:=fun i=>l.getD i false=true) hC 4 i j hdeps (xm hok h3 hilt j hj hjt);rw[hlf j (by omega)]at h4;rw[hj0]at h4
       cases h4
    obtain⟨o,d,ho,hd,hdl,hsel,hdef,huniq,hlook⟩:=gm hok him;rw[ho]at ho';injection ho' with ho';subst ho';obtain⟨c,Φ,hs,g1,g2,g3,g4,g5⟩:=lH hok hTr h hC hI i (by omega);have hlen:i<(ops.toList.take m).length:=by simp;omega
    have hget:(ops.toList.take m)[i]=o:=by
     have:=(Array.getElem?_eq_some_iff.1 ho).2;simp[this]
    rw[ay hlen,hget]at hs;have same:eM ops o a c:=fun t ht=>by
     by_cases hex: ∃(k:Nat) (oi:Oper),k<m/\ops[k]? =some oi/\oi.dst=some t
     ·obtain⟨k,oi,hkm,hoi,hdi⟩:=hex;have hdir:=hlook k hkm oi t hoi hdi ht;have hik:k<i:=by
       obtain⟨e,he,hb,hon⟩:=(ib ho).1 hdir;have:=nJ hok ho e he hb;omega
      exact(g4 k oi t hik (hdeps k hdir) hoi hdi).symm
     ·rw[hI.base t (fun i oi him hoi hdi=>hex ⟨i,oi,him,hoi,hdi⟩),g3 t (fun i oi him hoi hdi=>hex ⟨i,oi,him,hoi,hdi⟩)]
    have hz:a.tmps.size=c.tmps.size:=by rw[hI.size,g1]
    have hC':gU ops (fun j=>(l.setIfInBounds i true).getD j false=true):=fun j k hj hjk=>by
     have set: ∀j,(l.setIfInBounds i true).getD j false=if j=i then true else l.getD j false:=fun j=>by
      simp only[aC,bm];by_cases h:i=j
      ·subst h;simp[hl,hilt]
      ·rw[if_neg h,if_neg (fun e=>h e.symm)]
     simp only[set]at hj⊢;by_cases hji:j=i
     ·subst hji;by_cases hki:k=j
      ·rw[if_pos hki]
      ·rw[if_neg hki];exact hdeps k hjk
     ·rw[if_neg hji]at hj;by_cases hki:k=i
      ·rw[if_pos hki]
      ·rw[if_neg hki];exact hC j k hj hjk
    -- the step: a value v in c_ d
    have go: ∀v w',(if late=some i then U w w' else T w w')->wn P ops tab U w0 i o d (a.put o.dst v)->(Region.wanted o (yielded ops a.tmps)=true-> ∀Sh F,tab i=some (Sh,F)->F v w')->(nw i=true-> ∀g,pB v=some g->w.heap.size<=g)->
      jV P ops pre (U w0) WO N (ops.size-m+n) (l.setIfInBounds i true) (a.put o.dst v) w':=by
     intro v w' hstep0 hOk hFact hNew;have hstep:U w w':=by
      by_cases hl:late=some i
      ·rw[if_pos hl]at hstep0;exact hstep0
      ·rw[if_neg hl]at hstep0;exact hTU _ _ hstep0
     have hp: ∀t,c_ (a.put o.dst v) t=if t=d then v else c_ a t:=fun t=>by rw[hd];exact fp _ _ _ _ (by rw[hI.size];exact hdl)
     have other: ∀(j:Nat) (oj:Oper) (dj:Nat),(l.setIfInBounds i true).getD j false=true->j≠i->j<m->ops[j]? =some oj->oj.dst=some dj->l.getD j false=true/\dj≠d/\eM ops oj (a.put o.dst v) a:=by
      intro j oj dj hj hji hjm hoj hdj;have hj':l.getD j false=true:=by
       simp only[aC,bm]at hj⊢;rw[if_neg (fun e=>hji e.symm)]at hj;exact hj
      refine⟨hj',fun e=>huniq j hjm hji oj hoj (by rw[hdj,e]),fun t ht=> ?_⟩;rw[hp];by_cases htd:t=d
      ·subst htd;obtain⟨oj2,dj2,hoj2,_,_,_,_,_,hlook2⟩:=gm hok hjm;rw[hoj]at hoj2;injection hoj2 with hoj2;subst hoj2;have:=hC j i hj' (hlook2 i him o t ho hd ht);simp only[]at this;rw[hlf i hilt,h1]at this
       cases this
      ·rw[if_neg htd]
     refine ih _ _ _ ?_ (by simpa using hl) ?_ hC' ⟨hTt _ _ _ hI.step hstep,?_,by rw[dv,hI.size],by rw[gM,hI.defers],?_,?_,?_,?_⟩
     ·have:=rC l i h1 m;rw[if_pos him]at this;omega
     ·intro j hj hmj;rw[mL _ _ _ (by omega),if_neg (by omega)];exact hm j hj hmj
     ·intro hE;have hni:late≠some i:=fun e=>hE i e (by simp[aC,hl,hilt]);rw[if_neg hni]at hstep0;refine hTT _ _ _ (hI.early fun x hx hDx=>hE x hx ?_) hstep0;simp only[aC,bm]at hDx⊢;by_cases hxi:i=x
      ·subst hxi;simp[hl,hilt]
      ·rw[if_neg hxi];exact hDx
     ·intro t ht;rw[hp,if_neg (fun e=>ht i o him ho (by rw[hd,e]))];exact hI.base t ht
     ·intro j oj dj hj hjm hoj hdj;by_cases hji:j=i
      ·subst hji;rw[ho]at hoj;injection hoj with hoj;subst hoj;rw[hd]at hdj;injection hdj with hdj;subst hdj;exact hOk
      ·obtain⟨hj',hne,hsame⟩:=other j oj dj hj hji hjm hoj hdj;obtain⟨oj2,_,hoj2,_,_,hsel2,_,_⟩:=gm hok hjm;rw[hoj]at hoj2;injection hoj2 with hoj2;subst hoj2;have hok0:=hI.ok j oj dj hj' hjm hoj hdj;unfold wn at hok0⊢;rw[hsame.wanted (dv _ _ _),hsame.exec hsel2,hp,if_neg hne];exact hok0
     ·intro j oj dj hj hjm hoj hdj hwj Sh F ht;rw[hp];by_cases hji:j=i
      ·subst hji;rw[ho]at hoj;injection hoj with hoj;subst hoj;rw[hd]at hdj;injection hdj with hdj;subst hdj;rw[if_pos rfl];have hself:eM ops o (a.put o.dst v) a:=fun t ht'=>by
        rw[hp,if_neg];intro e;subst e;have:=hdeps j (hlook j him o t ho hd ht');rw[hlf j hilt,h1]at this
        cases this
       exact hFact (by rw[<-hself.wanted (dv _ _ _)];exact hwj) Sh F ht
      ·obtain⟨hj',hne,hsame⟩:=other j oj dj hj hji hjm hoj hdj;rw[if_neg hne];have hF:=hI.fact j oj dj hj' hjm hoj hdj (by rw[<-hsame.wanted (dv _ _ _)];exact hwj) Sh F ht;by_cases hl:late=some i
       ·exact hUs j Sh F (fun e=>hji (by rw[hl]at e;injection e with e;exact e.symm)) ht _ _ _ hF hstep
       ·rw[if_neg hl]at hstep0;exact hTs j Sh F ht _ _ _ hF hstep0
     ·intro j k oj ok dj dk hj hk hjm hkm hoj hok' hdj hdk hnj hnk hne hwj hwk g hgj hgk;have old: ∀(k:Nat) (ok:Oper) (dk:Nat),(l.setIfInBounds i true).getD k false=true->k≠i->k<m->ops[k]? =some ok->ok.dst=some dk->nw k=true->Region.wanted ok (yielded ops (a.put o.dst v).tmps)=true->
        l.getD k false=true/\Region.wanted ok (yielded ops a.tmps)=true/\c_ (a.put o.dst v) dk=c_ a dk/\ ∀g,pB (c_ a dk)=some g->g<w.heap.size:=fun k ok dk hk hki hkm hok hdk hnk hwk=>by
       obtain⟨hk',hne,hsame⟩:=other k ok dk hk hki hkm hok hdk;have hwk':Region.wanted ok (yielded ops a.tmps)=true:=by rw[<-hsame.wanted (dv _ _ _)];exact hwk
       refine⟨hk',hwk',by rw[hp,if_neg hne],fun g hg=> ?_⟩;obtain⟨Sh,F,ht,hold⟩:=hNw k hnk;exact hold _ _ (hI.fact k ok dk hk' hkm hok hdk hwk' Sh F ht) g hg
      by_cases hji:j=i
      ·subst hji;rw[ho]at hoj;injection hoj with hoj;subst hoj;rw[hd]at hdj;injection hdj with hdj;subst hdj;rw[hp,if_pos rfl]at hgj;obtain⟨_,_,e1,e2⟩:=old k ok dk hk (fun e=>hne e.symm) hkm hok' hdk hnk hwk;rw[e1]at hgk;have h1:=hNew hnj g hgj;have h2:=e2 g hgk;omega
      ·obtain⟨j1,j2,e1,e2⟩:=old j oj dj hj hji hjm hoj hdj hnj hwj;rw[e1]at hgj;by_cases hki:k=i
       ·subst hki;rw[ho]at hok';injection hok' with hok';subst hok';rw[hd]at hdk;injection hdk with hdk;subst hdk;rw[hp,if_pos rfl]at hgk;have h1:=hNew hnk g hgk;have h2:=e2 g hgj;omega
       ·obtain⟨k1,k2,e3,_⟩:=old k ok dk hk hki hkm hok' hdk hnk hwk;rw[e3]at hgk;exact hI.pair j k oj ok dj dk j1 k1 hjm hkm hoj hok' hdj hdk hnj hnk hne j2 k2 g hgj hgk
    have self: ∀v,eM ops o (a.put o.dst v) a:=fun v t ht'=>by
     have hp: ∀t,c_ (a.put o.dst v) t=if t=d then v else c_ a t:=fun t=>by rw[hd];exact fp _ _ _ _ (by rw[hI.size];exact hdl)
     rw[hp,if_neg];intro e;subst e;have:=hdeps i (hlook i him o t ho hd ht');rw[hlf i hilt,h1]at this
     cases this
    have own: ∀v,c_ (a.put o.dst v) d=v:=fun v=>by rw[hd,fp _ _ _ _ (by rw[hI.size];exact hdl),if_pos rfl]
    obtain⟨_,hs1⟩:=hs
    cases hw:Region.wanted o (yielded ops a.tmps)with
    |true=>
     have hs1:=hs1 (by rw[<-same.wanted hz];exact hw);refine hW.run ho hw hdef ?_
     cases ht:tab i with
     |none=>
      rw[ht]at hs1;obtain⟨v,hv,_⟩:=hs1;unfold Oper.wp;rw[same.exec hsel,hv w hI.step];simp only[Oper.upon];refine⟨hI.step,go v w (by split;exact hTU _ _ (hT1 w);exact hT1 w) ⟨fun hf=> ?_,fun _=> ?_⟩ (fun _ Sh F h=>by rw[ht]at h;cases h) (fun hn=>by obtain⟨_,_,h,_⟩:=hNw i hn;rw[ht]at h;cases h)⟩
      ·rw[(self v).wanted (dv _ _ _),hw]at hf;cases hf
      ·rw[ht];intro w1 hw1;rw[(self v).exec hsel,same.exec hsel,own];exact hv w1 hw1
     |some sf=>
      obtain⟨Sh,F⟩:=sf;rw[ht]at hs1;obtain⟨_,hy,_⟩:=hs1;refine Yl.to (c:=c) (by rw[hI.defers,g2]) hd (by rw[g1];exact hdl) (same.exec hsel) (hy w (by split;exact hI.early (fun x hx hDx=>by rename_i hli;rw[hli]at hx;injection hx with hx;subst hx;rw[hlf i hilt,h1]at hDx;cases hDx);exact hI.step) fun p hp ha=> ?_) ?_
      ·obtain⟨hlt,op,dp,Sh',F',hop,hdp,htp,hF,hwp⟩:=g5 p hp;have hDp:l.getD p.1 false=true:=jJ (D:=fun i=>l.getD i false=true) hC f i p.1 hdeps ha;rw[hF,g4 p.1 op dp hlt hDp hop hdp];exact hI.fact p.1 op dp hDp (by omega) hop hdp (hwp hDp) Sh' F' htp
      ·rintro v w' ⟨hst,hSh,hF,hnew⟩;refine⟨(hTt _ _ _ hI.step (by by_cases hl:late=some i;rw[if_pos hl]at hst;exact hst;rw[if_neg hl]at hst;exact hTU _ _ hst)),go v w' hst ⟨fun hf=> ?_,fun _=> ?_⟩ (fun _ Sh' F' h=> ?_) hnew⟩
       ·rw[(self v).wanted (dv _ _ _),hw]at hf;cases hf
       ·rw[ht,own];exact hSh
       ·rw[ht]at h;injection h with h;injection h with e1 e2;subst e2;exact hF
    |false=>
     have hwf:=hw;refine hW.skip ho hw (hI.step) ?_;refine go undef w (by split;exact hTU _ _ (hT1 w);exact hT1 w) ⟨fun _=>own undef,fun hf=> ?_⟩ (fun h=>by rw[hwf]at h;cases h) (fun _ g hg=>by cases hg);rw[(self undef).wanted (dv _ _ _),hwf]at hf
     cases hf
theorem qi {S':World->Prop} (hW:jP P QQ ops S' WO): ∀(fuel:Nat) (l:Array Bool) (a:Act) (w:World),jV P ops [] S WO N fuel l a w->nf WO N ops fuel l a w
 |0,_,_,_,h=>h
 |fuel+1,l,a,w,h=>⟨h.1,fun i hi=>hW.mono (fun a w h'=>qi hW fuel _ a w h') (h.2 i hi)⟩
theorem lI {TL:Act->World->Prop} (hW:mR P QQ ops WO) {a:Act} {w:World} (m f:Nat) (tab:xP) (late:Option Nat) (nw:Nat->Bool) (T U:World->World->Prop) (hok:r9 [] ops m a.tmps.size=true)
  (hTL: ∀(l:Array Bool) (a:Act) (w:World),l.size=ops.size->(∀i,i<ops.size->l.getD i true=decide (i<m))->TL a w->nf WO N ops (ops.size-m+0) l a w)
  (hTr: ∀w,T w w) (hTt: ∀a b c,U a b->U b c->U a c) (hTU: ∀a b,T a b->U a b) (hTT: ∀a b c,T a b->T b c->T a c) (hTs: ∀i Sh F,tab i=some (Sh,F)-> ∀v w w',F v w->T w w'->F v w')
  (hUs: ∀i Sh F,late≠some i->tab i=some (Sh,F)-> ∀v w w',F v w->U w w'->F v w')
  (hNw: ∀i,nw i=true-> ∃Sh F,tab i=some (Sh,F)/\ ∀v w,F v w-> ∀g,pB v=some g->g<w.heap.size)
  (h:d_ P QQ ops f tab late nw T U w.drew (fun a Φ=> ∀w',U w.drew w'->(∀p∈Φ,p.2 w')->lr ops m nw (fun _=>True) a->TL a w') (ops.toList.take m) 0 a []):nf WO N ops ops.size (Array.replicate ops.size false) a w.drew:=by
 have hu:pd m (Array.replicate ops.size false)=m:=by
  have: ∀k,k<=ops.size->pd k (Array.replicate ops.size false)=k:=by
   intro k
   induction k with
   |zero=>intro _;rfl
   |succ k ih=>
    intro hk;rw[kA,ih (by omega),if_pos];simp[aC,show k<ops.size from by omega]
  exact this m (nK hok)
 have:=nN (pre:=[]) (TL:=TL) rfl (fun j hj=>by cases hj) hTL (hW.toS (S:=U w.drew)) hok (hTU _ _ (hTr w.drew)) hTt hTU hTT hTs hUs hTr hNw h m (Array.replicate ops.size false) a w.drew hu.symm (by simp) (fun i hi _=>by simp[aC,hi])
  (fun i j hi=>by
   simp only[aC,dl]at hi
   split at hi<;>simp at hi)
  ⟨hTU _ _ (hTr _),fun _=>hTr _,rfl,rfl,fun _ _=>rfl,fun i o d hi=>by
   simp only[aC,dl]at hi;split at hi<;>simp at hi,fun i o d hi=>by
   simp only[aC,dl]at hi;split at hi<;>simp at hi,fun i j oi oj di dj hi=>by
   simp only[aC,dl]at hi
   split at hi<;>simp at hi⟩
 rw[show ops.size-m+m=ops.size from by have:=nK hok;omega]at this;exact qi (hW.toS (S:=U w.drew)) _ _ _ _ this
theorem d_.fin {P:Program} {ops:Array Oper} {f:Nat} {tab:xP} {late:Option Nat} {nw:Nat->Bool} {T U:World->World->Prop} {w0:World} {Fin Fin':Act->List (Nat×(World->Prop))->Prop} (hF: ∀a Φ,Fin a Φ->Fin' a Φ):
  ∀(l:List Oper) (i:Nat) (a:Act) (Φ:List (Nat×(World->Prop))),d_ P QQ ops f tab late nw T U w0 Fin l i a Φ->d_ P QQ ops f tab late nw T U w0 Fin' l i a Φ
 | [],_,a,Φ,h=>hF a Φ h
 |o::rest,i,a,Φ,h=>by
  refine⟨fun hw=>d_.fin hF rest _ _ _ (h.1 hw),fun hw=> ?_⟩;have h2:=h.2 hw
  cases ht:tab i with
  |none=>
   rw[ht]at h2;obtain⟨v,h3,h4⟩:=h2;exact⟨v,h3,d_.fin hF rest _ _ _ h4⟩
  |some sf=>
   obtain⟨Sh,F⟩:=sf;rw[ht]at h2;obtain⟨h3,h4,h5⟩:=h2;exact⟨h3,h4,fun v hv=>d_.fin hF rest _ _ _ (h5 v hv)⟩
theorem ma (hW:mR P QQ ops WO) (hok:zM ops m size=true) (l:Array Bool) (a:Act) (w:World) (hl:l.size=ops.size) (h: ∀i,i<ops.size->l.getD i true=decide (i<m)) (ht:lA WO N (List.range' m (ops.size-m)) a w):nf WO N ops (ops.size-m+0) l a w:=
 pj (hW.toS (S:=fun _=>True)) (kG hok).1 (kG hok).2 (ops.size-m+0) m l a w (by omega) (an _) (nK (kG hok).1) hl h ht
theorem fj {Q:Exit->Act->World->Prop}:mR P Q ops (wpOp P ops Q) where
 mono:=wpOp_mono
 skip:=fun ho hw h=>by unfold wpOp;simp only[ho,hw];exact h
 run:=fun ho hw _ h=>by
  unfold wpOp;simp only[ho,hw,if_true];refine .inl ?_;unfold Oper.wp at*;generalize (execOp _ _).run P _=r at*
  cases r with
  |ok x w'=>
   cases x<;>simp only[Oper.upon]at h⊢ <;>first
    |exact h
    |exact Calls.mono h (fun e w'' he=>by cases e<;>first|exact he|exact he _ rfl|exact(by obtain⟨x,y,hx⟩:=he;exact⟨x,y,hx x rfl⟩))
  |halt x w'=>cases x<;>simp only[Oper.upon]at h⊢;exact h _ rfl
theorem ku {Q:Exit->Act->World->Prop}: ∀(f:Nat) (l:Array Bool) (a:Act) (w:World),nf (wpOp P ops Q) (Q .normal) ops f l a w->wpAny P .any ops Q f l a w
 |0,_,_,_,h=>h
 |f+1,_,_,_,h=>⟨h.1,fun i hi=>wpOp_mono (fun a w=>ku f _ a w) (h.2 i hi)⟩
theorem nu {Q:Exit->Act->World->Prop}: ∀(l:List Nat),lA (wpOp P ops Q) (Q .normal) l=wpOps P ops Q l
 | []=>by funext a w;rfl
 |i::l=>by funext a w;rw[wpOps_cons,<-nu l];rfl
theorem lz {Q:Exit->Act->World->Prop} (m:Nat):lA (wpOp P ops Q) (Q .normal) (List.range' m (ops.size-m))=wpList P ops Q (ops.toList.drop m):=by
 rw[nu,<-wpOps_eq_wpList (P:=P) (ops:=ops) (Q:=Q) (ops.toList.drop m) m (fun j=>by simp),bJ,Array.length_toList]
theorem gz {id:Nat} {Q:Exit->Act->World->Prop} {a:Act} {w:World} (m f:Nat) (tab:xP) (late:Option Nat) (T U:World->World->Prop) (hm:P.follows .mixedOrders=true) (hok:zM ops m a.tmps.size=true)
  (hTr: ∀w,T w w) (hTt: ∀a b c,U a b->U b c->U a c) (hTU: ∀a b,T a b->U a b) (hTT: ∀a b c,T a b->T b c->T a c) (hTs: ∀i Sh F,tab i=some (Sh,F)-> ∀v w w',F v w->T w w'->F v w')
  (hUs: ∀i Sh F,late≠some i->tab i=some (Sh,F)-> ∀v w w',F v w->U w w'->F v w')
  (h:d_ P Q ops f tab late (fun _=>false) T U w.drew (fun a Φ=> ∀w',U w.drew w'->(∀p∈Φ,p.2 w')->wpList P ops Q (ops.toList.drop m) a w') (ops.toList.take m) 0 a []):(Code.region id ops true).wp P Q a w:=by
 refine wp_region_any hm (ku _ _ _ _ (lI fj m f tab late (fun _=>false) T U (kG hok).1 (ma fj hok) hTr hTt hTU hTT hTs hUs (fun i h=>by cases h) ?_));rw[lz];exact d_.fin (fun a Φ h w' h1 h2 _=>h w' h1 h2) _ _ _ _ h
end
abbrev tS:=Nat×(Value->Prop)×(Value->World->Prop)
def ei:List tS->xP
 | []=>fun _=>none
 |p::l=>fun i=>if i=p.1 then some p.2 else ei l i
def jv (T:World->World->Prop):List tS->Prop
 | []=>True
 |p::l=>(∀v w w',p.2.2 v w->T w w'->p.2.2 v w')/\jv T l
theorem jv.out {T:World->World->Prop}: ∀{l:List tS},jv T l-> ∀i Sh F,ei l i=some (Sh,F)-> ∀v w w',F v w->T w w'->F v w'
 | [],_,i,Sh,F,h=>by simp[ei]at h
 |p::l,hs,i,Sh,F,h=>by
  simp only[ei]at h;split at h
  ·injection h with h;intro v w w' hF hT;have:=hs.1 v w w';rw[h]at this;exact this hF hT
  ·exact jv.out hs.2 i Sh F h
section
variable {QQ:Exit->Act->World->Prop}
variable {f:Nat} {tab:xP} {late:Option Nat} {nw:Nat->Bool} {T U:World->World->Prop} {w0:World} {Fin:Act->List (Nat×(World->Prop))->Prop} {o:Oper} {rest:List Oper} {i:Nat} {a:Act} {Φ:List (Nat×(World->Prop))}
theorem a7 (hw:Region.wanted o (yielded ops a.tmps)=false) (h:d_ P QQ ops f tab late nw T U w0 Fin rest (i+1) (a.put o.dst undef) Φ):d_ P QQ ops f tab late nw T U w0 Fin (o::rest) i a Φ:=
 ⟨fun _=>h,fun h'=>by rw[hw]at h';cases h'⟩
theorem sU (v:Value) (hw:Region.wanted o (yielded ops a.tmps)=true) (ht:tab i=none) (hr: ∀w,U w0 w->(execOp a.eval o).run P w= .ok (.value v) w)
  (h:d_ P QQ ops f tab late nw T U w0 Fin rest (i+1) (a.put o.dst v) Φ):d_ P QQ ops f tab late nw T U w0 Fin (o::rest) i a Φ:=
 ⟨fun h'=>(by rw[hw]at h';cases h'),fun _=>by rw[ht];exact⟨v,hr,h⟩⟩
theorem b6 (Sh:Value->Prop) (F:Value->World->Prop) (hw:Region.wanted o (yielded ops a.tmps)=true) (ht:tab i=some (Sh,F)) (he: ∃v,Sh v) (hl:late≠some i)
  (hy: ∀w,U w0 w->(∀p∈Φ,kP ops f i p.1=true->p.2 w)-> ∀(K:Act->World->Prop),(∀v w',T w w'->Sh v->F v w'->K (a.put o.dst v) w')->o.wp P a w K (tR QQ))
  (h: ∀v,Sh v->d_ P QQ ops f tab late nw T U w0 Fin rest (i+1) (a.put o.dst v) ((i,F v)::Φ)) (hn:nw i=false:=by rfl):d_ P QQ ops f tab late nw T U w0 Fin (o::rest) i a Φ:=
 ⟨fun h'=>(by rw[hw]at h';cases h'),fun _=>by
  rw[ht]
  exact⟨he,fun w hU hp K hK=>hy w (by rw[if_neg hl]at hU;exact hU) hp K fun v w' h1 h2 h3=>hK v w' ⟨by rw[if_neg hl];exact h1,h2,h3,fun h'=>by rw[hn]at h';cases h'⟩,h⟩⟩
theorem lT (Sh:Value->Prop) (F:Value->World->Prop) (hw:Region.wanted o (yielded ops a.tmps)=true) (ht:tab i=some (Sh,F)) (he: ∃v,Sh v) (hl:late≠some i)
  (hy: ∀w,U w0 w->(∀p∈Φ,kP ops f i p.1=true->p.2 w)-> ∀(K:Act->World->Prop),(∀v w',T w w'->Sh v->F v w'->(∀g,pB v=some g->w.heap.size<=g)->K (a.put o.dst v) w')->o.wp P a w K (tR QQ))
  (h: ∀v,Sh v->d_ P QQ ops f tab late nw T U w0 Fin rest (i+1) (a.put o.dst v) ((i,F v)::Φ)):d_ P QQ ops f tab late nw T U w0 Fin (o::rest) i a Φ:=
 ⟨fun h'=>(by rw[hw]at h';cases h'),fun _=>by
  rw[ht]
  exact⟨he,fun w hU hp K hK=>hy w (by rw[if_neg hl]at hU;exact hU) hp K fun v w' h1 h2 h3 h4=>hK v w' ⟨by rw[if_neg hl];exact h1,h2,h3,fun _=>h4⟩,h⟩⟩
theorem sx (v:Value) (hr: ∀w,U w0 w->(execOp a.eval o).run P w= .ok (.value v) w) (h:d_ P QQ ops f tab late nw T U w0 Fin rest (i+1) (a.put o.dst v) Φ)
  (hw:Region.wanted o (yielded ops a.tmps)=true:=by rfl) (ht:tab i=none:=by rfl):d_ P QQ ops f tab late nw T U w0 Fin (o::rest) i a Φ:=sU v hw ht hr h
theorem so {Sh:Value->Prop} {F:Value->World->Prop} (hy: ∀w,U w0 w->(∀p∈Φ,kP ops f i p.1=true->p.2 w)-> ∀(K:Act->World->Prop),(∀v w',T w w'->Sh v->F v w'->K (a.put o.dst v) w')->o.wp P a w K (tR QQ))
  (h: ∀v,Sh v->d_ P QQ ops f tab late nw T U w0 Fin rest (i+1) (a.put o.dst v) ((i,F v)::Φ)) (hw:Region.wanted o (yielded ops a.tmps)=true:=by rfl) (ht:tab i=some (Sh,F):=by rfl) (he: ∃v,Sh v:=by exact⟨_,rfl⟩) (hl:late≠some i:=by simp) (hn:nw i=false:=by rfl):d_ P QQ ops f tab late nw T U w0 Fin (o::rest) i a Φ:=b6 Sh F hw ht he hl hy h hn
theorem eQ (Sh:Value->Prop) (F:Value->World->Prop) (hw:Region.wanted o (yielded ops a.tmps)=true) (ht:tab i=some (Sh,F)) (he: ∃v,Sh v) (hl:late=some i)
  (hy: ∀w,T w0 w->(∀p∈Φ,kP ops f i p.1=true->p.2 w)-> ∀(K:Act->World->Prop),(∀v w',U w w'->Sh v->F v w'->K (a.put o.dst v) w')->o.wp P a w K (tR QQ))
  (h: ∀v,Sh v->d_ P QQ ops f tab late nw T U w0 Fin rest (i+1) (a.put o.dst v) ((i,F v)::Φ)) (hn:nw i=false:=by rfl):d_ P QQ ops f tab late nw T U w0 Fin (o::rest) i a Φ:=
 ⟨fun h'=>(by rw[hw]at h';cases h'),fun _=>by
  rw[ht]
  exact⟨he,fun w hU hp K hK=>hy w (by rw[if_pos hl]at hU;exact hU) hp K fun v w' h1 h2 h3=>hK v w' ⟨by rw[if_pos hl];exact h1,h2,h3,fun h'=>by rw[hn]at h';cases h'⟩,h⟩⟩
end
end
def au (w w':World):Prop:=RowKit.Below w.heap.size w w'
theorem au.refl (w:World):au w w:=RowKit.Below.refl _ _
theorem au.size {w w':World} (h:au w w'):w.heap.size<=w'.heap.size:=RowKit.Below.size h
theorem au.obj {w w':World} (h:au w w') {b:Nat} (hb:b<w.heap.size):w'.heap[b]? =w.heap[b]? :=RowKit.Below.block h b hb
theorem au.trans {a b c:World} (h:au a b) (k:au b c):au a c:=RowKit.Below.trans h (RowKit.Below.mono k h.size)
theorem au.un {w w':World} (h:au w.drew w'):au w w':=⟨h.os,h.tape,h.output,h.size,h.block⟩
theorem am {P:Program} {ops:Array Oper} {id:Nat} {Q:Exit->Act->World->Prop} {a:Act} {w:World} (m f:Nat) (l:List tS) (hm:P.follows .mixedOrders=true) (hok:zM ops m a.tmps.size=true) (hs:jv au l)
  (h:d_ P Q ops f (ei l) none (fun _=>false) au au w.drew (fun a Φ=> ∀w',au w.drew w'->(∀p∈Φ,p.2 w')->wpList P ops Q (ops.toList.drop m) a w') (ops.toList.take m) 0 a []):(Code.region id ops true).wp P Q a w:=
 gz m f (ei l) none au au hm hok au.refl (fun _ _ _=>au.trans) (fun _ _ h=>h) (fun _ _ _=>au.trans) hs.out (fun i Sh F _=>hs.out i Sh F) h
def nA (x:Nat) (T:World->World->Prop):List tS->Prop
 | []=>True
 |p::l=>(p.1=x\/ ∀v w w',p.2.2 v w->T w w'->p.2.2 v w')/\nA x T l
theorem nA.out {x:Nat} {T:World->World->Prop}: ∀{l:List tS},nA x T l-> ∀i Sh F,some x≠some i->ei l i=some (Sh,F)-> ∀v w w',F v w->T w w'->F v w'
 | [],_,i,Sh,F,_,h=>by simp[ei]at h
 |p::l,hs,i,Sh,F,hx,h=>by
  simp only[ei]at h;split at h
  ·rename_i hi;injection h with h;intro v w w' hF hT;have:=(hs.1.resolve_left (fun e=>hx (by rw[hi,e]))) v w w';rw[h]at this;exact this hF hT
  ·exact nA.out hs.2 i Sh F hx h
theorem au.grownBy {w w':World} (he:au w w') (row:Option Nat):w.grownBy w' row:=⟨he.os,he.tape,he.output,he.size,fun k hk _=>he.obj hk⟩
theorem br {a b c:World} {row:Option Nat} (h:a.grownBy b row) (k:b.grownBy c row):a.grownBy c row:=
 ⟨k.os.trans h.os,k.tape.trans h.tape,k.output.trans h.output,a_ h.size k.size,fun i hi hn=>(k.block i (aF hi h.size) hn).trans (h.block i hi hn)⟩
theorem aV {w w':World} {row:Option Nat} (h:w.drew.grownBy w' row):w.grownBy w' row:=⟨h.os,h.tape,h.output,h.size,h.block⟩
theorem eo {P:Program} {ops:Array Oper} {id:Nat} {Q:Exit->Act->World->Prop} {a:Act} {w:World} (m f:Nat) (l:List tS) (x:Nat) (row:Option Nat) (hm:P.follows .mixedOrders=true) (hok:zM ops m a.tmps.size=true)
  (hs:jv au l) (hx:nA x (fun w w'=>w.grownBy w' row) l)
  (h:d_ P Q ops f (ei l) (some x) (fun _=>false) au (fun w w'=>w.grownBy w' row) w.drew (fun a Φ=> ∀w',w.drew.grownBy w' row->(∀p∈Φ,p.2 w')->wpList P ops Q (ops.toList.drop m) a w') (ops.toList.take m) 0 a []):(Code.region id ops true).wp P Q a w:=
 gz m f (ei l) (some x) au (fun w w'=>w.grownBy w' row) hm hok au.refl (fun _ _ _=>br) (fun _ _ h=>h.grownBy _) (fun _ _ _=>au.trans) hs.out hx.out h
theorem fJ {P:Program} {ops:Array Oper} {id:Nat} {Q:Exit->Act->World->Prop} {a:Act} {w:World} (m f:Nat) (l:List tS) (ns:List Nat) (hm:P.follows .mixedOrders=true) (hok:zM ops m a.tmps.size=true) (hs:jv au l)
  (hn: ∀i,ns.contains i=true-> ∃Sh F,ei l i=some (Sh,F)/\ ∀v w,F v w-> ∀g,pB v=some g->g<w.heap.size)
  (h:d_ P Q ops f (ei l) none (fun i=>ns.contains i) au au w.drew (fun a Φ=> ∀w',au w.drew w'->(∀p∈Φ,p.2 w')->lr ops m (fun i=>ns.contains i) (fun _=>True) a->wpList P ops Q (ops.toList.drop m) a w') (ops.toList.take m) 0 a []):(Code.region id ops true).wp P Q a w:=by
 refine wp_region_any hm (ku _ _ _ _ (lI fj m f (ei l) none (fun i=>ns.contains i) au au (kG hok).1 (ma fj hok) au.refl (fun _ _ _=>au.trans) (fun _ _ h=>h) (fun _ _ _=>au.trans) hs.out (fun i Sh F _=>hs.out i Sh F) hn ?_));rw[lz];exact h
def dt (Q:Exit->Act->World->Prop):Exit->Act->World->Prop:=fun e a w=>match e with
 | .normal=>Q .normal a w
 | _=>False
theorem dt.imp {Q:Exit->Act->World->Prop}: ∀(e:Exit) (a:Act) (w:World),dt Q e a w->Q e a w:=fun e a w h=>by
 cases e<;>first|exact h|exact(h:False).elim
section
variable {P:Program} {ops:Array Oper} {Q:Exit->Act->World->Prop} {S:World->Prop}
def zV (P:Program) (ops:Array Oper) (Q:Exit->Act->World->Prop) (S:World->Prop) (i:Nat) (K:Act->World->Prop) (a:Act) (w:World):Prop:=wpOp P ops Q i (fun a' w'=>S w'/\K a' w') a w
theorem ju:jP P Q ops S (zV P ops Q S) where
 mono:=fun h=>wpOp_mono fun a w hk=>⟨hk.1,h a w hk.2⟩
 skip:=fun ho hw hs h=>by unfold zV wpOp;simp only[ho,hw];exact⟨hs,h⟩
 run:=fun ho hw hd h=>by
  have:=fj (P:=P) (ops:=ops) (Q:=Q).run ho hw hd h;exact this
def ly (P:Program) (QQ:Exit->Act->World->Prop) (ops:Array Oper) (N:Act->World->Prop) (S:World->Prop):List Oper->Act->World->Prop
 | [],a,w=>N a w
 |o::l,a,w=>Region.wanted o (yielded ops a.tmps)=true/\(∀c,o.op≠ .defer c)/\o.wp P a w (fun a' w'=>S w'/\ly P QQ ops N S l a' w') (tR QQ)
theorem aP {QQ:Exit->Act->World->Prop} {N:Act->World->Prop} {o:Oper} {l:List Oper} {a:Act} {w:World} (hw:Region.wanted o (yielded ops a.tmps)=true) (hd: ∀c,o.op≠ .defer c)
  (h: ∀K:Act->World->Prop,(∀a' w',S w'->ly P QQ ops N S l a' w'->K a' w')->o.wp P a w K (tR QQ)):ly P QQ ops N S (o::l) a w:=⟨hw,hd,h _ fun _ _ h1 h2=>⟨h1,h2⟩⟩
theorem cn {QQ Q:Exit->Act->World->Prop} {a:Act} {w:World} (h:wpList P ops Q [] a w):ly P QQ ops (Q .normal) S [] a w:=h
theorem mb {N:Act->World->Prop}: ∀(n k:Nat) (a:Act) (w:World),k+n=ops.size->ly P Q ops N S (ops.toList.drop k) a w->lA (zV P ops Q S) N (List.range' k n) a w
 |0,k,a,w,hk,h=>by
  rw[aB (by simp;omega)]at h;exact h
 |n+1,k,a,w,hk,h=>by
  have hl:k<ops.toList.length:=by simp;omega
  rw[ay hl]at h;obtain⟨h1,h2,h3⟩:=h;have ho:ops[k]? =some ops.toList[k]:=by simp
  show zV P ops Q S k (lA (zV P ops Q S) N (List.range' (k+1) n)) a w;refine ju.run ho h1 h2 ?_;refine stepOk_mono h3 fun a' w' hk'=>⟨hk'.1,mb n (k+1) a' w' (by omega) hk'.2⟩
where
 stepOk_mono {o:Oper} {a:Act} {w:World} {K K':Act->World->Prop} (h:o.wp P a w K (tR Q)) (hk: ∀a w,K a w->K' a w):o.wp P a w K' (tR Q):=Oper.wp_mono hk h
variable {m size:Nat} {pre:List Nat}
theorem lp {tk:List Nat} (hns:Region.noSelect ops=true) (htk:wM ops tk m=true) (hQ: ∀c a w,¬Q (.panic c) a w): ∀(fuel:Nat) (l:Array Bool) (a:Act) (w:World),S w->gU ops (fun i=>l.getD i false=true)->l.size=ops.size->
  jV P ops tk S (zV P ops Q S) (Q .normal) fuel l a w->wpAnyH P .any ops Q S fuel l a w
 |0,_,_,_,_,_,_,h=>h
 |fuel+1,l,a,w,hS,hC,hl,h=>by
  have hset: ∀i,i∈Region.ready .any ops l->gU ops (fun j=>(l.setIfInBounds i true).getD j false=true):=fun i hi j k hj hjk=>by
   obtain⟨_,o,ho,h2⟩:=ep.1 hi;have hilt:=(Array.getElem?_eq_some_iff.1 ho).1;have set: ∀j,(l.setIfInBounds i true).getD j false=if j=i then true else l.getD j false:=fun j=>by
    simp only[aC,bm];by_cases h:i=j
    ·subst h;simp[hl,hilt]
    ·rw[if_neg h,if_neg (fun e=>h e.symm)]
   simp only[set]at hj⊢;by_cases hki:k=i
   ·rw[if_pos hki]
   ·rw[if_neg hki];by_cases hji:j=i
    ·subst hji;obtain⟨e,he,hb,hon⟩:=(ib ho).1 hjk;rw[<-hon];exact h2 e he hb
    ·rw[if_neg hji]at hj;exact hC j k hj hjk
  cases hft:iX ops tk l with
  |some i=>
   simp only[jV,hft]at h;obtain⟨v,o,ho,hy,hr⟩:=h;obtain⟨hit,hi⟩:=lG hft;refine wpAnyH_first ho (Region.noSelect_spec hns) (fun c a w h=>absurd h (hQ c _ _)) fuel l a w ?_ hi hy hS (lp hns htk hQ fuel _ _ _ hS (hset i hi) (by simpa using hl) hr);intro j oj hoj hji hun hno;refine sO htk hit ho hoj hji ?_ ?_
   ·rw[Bool.eq_false_iff];intro hd;obtain⟨e,he,hb,hon⟩:=(ib hoj).1 hd;exact hno e he hb hon
   ·rw[Bool.eq_false_iff];intro ha;obtain⟨_,o',ho',h2⟩:=ep.1 hi
    have hd:=jJ (D:=fun i=>l.getD i false=true) hC 4 i j (fun k hk=>by
     obtain⟨e,he,hb,hon⟩:=(ib ho').1 hk
     rw[<-hon];exact h2 e he hb) ha
    have hjl:j<l.size:=by rw[hl];exact(Array.getElem?_eq_some_iff.1 hoj).1
    simp only[aC,bH hjl,bO]at hd hun;rw[hd]at hun
    cases hun
  |none=>
   simp only[jV,hft]at h;refine⟨h.1,fun i hi=>wpOp_mono (fun a' w' hk=>⟨hk.1,lp hns htk hQ fuel _ a' w' hk.1 (hset i hi) (by simpa using hl) hk.2⟩) (h.2 i hi)⟩
theorem ja (U:World->World->Prop) (hUr: ∀w,U w w) (hUt: ∀a b c,U a b->U b c->U a c) {id:Nat} {a:Act} {w:World} (m f:Nat) (l:List tS) (ns tk:List Nat) (hm:P.follows .mixedOrders=true) (hok:zL tk ops m a.tmps.size=true) (htk:wM ops tk m=true) (hns:Region.noSelect ops=true) (htn:(tk.all fun j=>(ei l j).isNone)=true) (hs:jv U l)
  (hn: ∀i,ns.contains i=true-> ∃Sh F,ei l i=some (Sh,F)/\ ∀v w,F v w-> ∀g,pB v=some g->g<w.heap.size)
  (h:d_ P (dt Q) ops f (ei l) none (fun i=>ns.contains i) U U w.drew (fun a Φ=> ∀w',U w.drew w'->(∀p∈Φ,p.2 w')->lr ops m (fun i=>ns.contains i) (fun _=>True) a->ly P (dt Q) ops (Q .normal) (U w.drew) (ops.toList.drop m) a w') (ops.toList.take m) 0 a []):(Code.region id ops true).wp P Q a w:=by
 refine Code.wp_mono dt.imp (wp_region_held (S:=U w.drew) hm ?_);have hmle:=nK (kG hok).1;have h0: ∀i,(Array.replicate ops.size false).getD i false=false:=fun i=>by
  simp only[aC,dl];split<;>rfl
 have h0': ∀i,¬(Array.replicate ops.size false).getD i false=true:=fun i h=>by rw[h0]at h;cases h
 have hC0:gU ops (fun i=>(Array.replicate ops.size false).getD i false=true):=fun i j hi=>absurd hi (h0' i);have hu:pd m (Array.replicate ops.size false)=m:=by
  have: ∀k,k<=ops.size->pd k (Array.replicate ops.size false)=k:=by
   intro k
   induction k with
   |zero=>intro _;rfl
   |succ k ih=>
    intro hk;rw[kA,ih (by omega),if_pos];simp[aC,show k<ops.size from by omega]
  exact this m hmle
 refine lp (Q:=dt Q) hns htk (fun c a w h=>h) _ _ _ _ (hUr _) hC0 (by simp) ?_
 have:=nN (a0:=a) (pre:=tk) (f:=f) htk (fun j hj=>by
   have:=List.all_eq_true.1 htn j hj
   simpa using this) (pj (S:=U w.drew) ju (kG hok).1 (kG hok).2 (ops.size-m+0) m · · · (by omega) (an _) hmle · · ·) (ju (P:=P) (ops:=ops) (Q:=dt Q) (S:=U w.drew)) (kG hok).1 (T:=U) (U:=U) (w0:=w.drew) (tab:=ei l) (late:=none) (nw:=fun i=>ns.contains i) (N:=dt Q .normal) (hUr _) hUt (fun _ _ h=>h) hUt
   hs.out (fun i Sh F _=>hs.out i Sh F) hUr hn
   (d_.fin (fun a Φ h w' h1 h2 h3=>mb _ _ _ _ (by omega) (h w' h1 h2 h3)) _ _ _ _ h) m (Array.replicate ops.size false) a w.drew hu.symm (by simp) (fun i hi _=>by simp[aC,hi]) hC0
   ⟨hUr _,fun _=>hUr _,rfl,rfl,fun _ _=>rfl,fun i o d hi=>absurd hi (h0' i),fun i o d hi=>absurd hi (h0' i),fun i j oi oj di dj hi=>absurd hi (h0' i)⟩
 rw[show ops.size-m+m=ops.size from by omega]at this;exact this
theorem cL {id:Nat} {a:Act} {w:World} (m f:Nat) (l:List tS) (ns tk:List Nat) (hm:P.follows .mixedOrders=true) (hok:zL tk ops m a.tmps.size=true) (htk:wM ops tk m=true) (hns:Region.noSelect ops=true) (htn:(tk.all fun j=>(ei l j).isNone)=true) (hs:jv au l)
  (hn: ∀i,ns.contains i=true-> ∃Sh F,ei l i=some (Sh,F)/\ ∀v w,F v w-> ∀g,pB v=some g->g<w.heap.size)
  (h:d_ P (dt Q) ops f (ei l) none (fun i=>ns.contains i) au au w.drew (fun a Φ=> ∀w',au w.drew w'->(∀p∈Φ,p.2 w')->lr ops m (fun i=>ns.contains i) (fun _=>True) a->ly P (dt Q) ops (Q .normal) (au w.drew) (ops.toList.drop m) a w') (ops.toList.take m) 0 a []):(Code.region id ops true).wp P Q a w:=
 ja au au.refl (fun _ _ _=>au.trans) m f l ns tk hm hok htk hns htn hs hn h
theorem cG {id:Nat} {a:Act} {w:World} (U:World->World->Prop) (hUr: ∀w,U w w) (hUt: ∀a b c,U a b->U b c->U a c) (m f:Nat) (l:List tS) (tk:List Nat) (hm:P.follows .mixedOrders=true) (hok:zL tk ops m a.tmps.size=true) (htk:wM ops tk m=true) (hns:Region.noSelect ops=true) (htn:(tk.all fun j=>(ei l j).isNone)=true) (hs:jv U l)
  (h:d_ P (dt Q) ops f (ei l) none (fun _=>false) U U w.drew (fun a Φ=> ∀w',U w.drew w'->(∀p∈Φ,p.2 w')->ly P (dt Q) ops (Q .normal) (U w.drew) (ops.toList.drop m) a w') (ops.toList.take m) 0 a []):(Code.region id ops true).wp P Q a w:=
 ja U hUr hUt m f l [] tk hm hok htk hns htn hs (fun i hi=>by cases hi) (d_.fin (fun a Φ h w' h1 h2 _=>h w' h1 h2) _ _ _ _ h)
end
def aH:=@au.refl
def kS:=@au.size
end Go.Proofs.YtddomeddabfinaaGreatDoor

