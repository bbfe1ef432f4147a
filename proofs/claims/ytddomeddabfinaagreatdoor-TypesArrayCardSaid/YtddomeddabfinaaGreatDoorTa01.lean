/-
  Parts of the proof: Seq.
-/
import Derived.Test.YtddomeddabfinaaGreatDoorTa00
import Derived.Orders
import Derived.Tactics
import Derived.Below
import Derived.OrdersHeld
set_option maxRecDepth 100000
set_option maxHeartbeats 8000000
set_option linter.unusedVariables false
set_option linter.unusedSimpArgs false
set_option linter.defProp false
set_option linter.unusedSectionVars false
namespace Go.Proofs.YtddomeddabfinaaGreatDoor
open Go
theorem aY (a : Act) (d : Nat) (v : Value) : Act.put a (some d) v = { a with tmps := a.tmps.setIfInBounds d v } := rfl
theorem aU (a : Act) (v : Value) : Act.put a none v = a := rfl
theorem aX {α : Type _} (l : List α) (i : Nat) (a : α) : l.toArray.setIfInBounds i a = (l.set i a).toArray := a8 ..
theorem aW {α : Type _} (a b : α) (l : List α) : (a :: l).set 0 b = b :: l := rfl
theorem aV {α : Type _} (a b : α) (l : List α) (n : Nat) : (a :: l).set (n + 1) b = a :: l.set n b := rfl
def cW (a:Act) (t:Nat):Value:=a.tmps.getD t undef
def jP (ops:Array Oper) (i j:Nat):Bool:=(ops[i]?).any fun o=>o.after.any fun e=>Region.binds .any e&&e.on==j
def mz (ops:Array Oper):Nat->Nat->Nat->Bool
 |0,i,j=>jP ops i j
 |f+1,i,j=>(ops[i]?).any fun o=>o.after.any fun e=>Region.binds .any e&&(e.on==j||mz ops f e.on j)
def xp:Op->Bool
 | .select .. =>true
 | .defer _=>true
 | _=>false
def rG (pre:List Nat) (ops:Array Oper) (m size:Nat):Bool:=
 decide (m<=ops.size)&&
 (List.range ops.size).all (fun i=>match ops[i]? with
  |some o=>o.after.all fun e=> !Region.binds .any e||decide (e.on<i)
  |none=>false)&&
 (List.range m).all (fun i=>match ops[i]? with
  |some o=> !xp o.op&&(match o.dst with
    |some d=>decide (d<size)&&(List.range m).all fun j=>j==i||(match ops[j]? with|some oj=>oj.dst !=some d|none=>false)
    |none=>false)&&
   (List.range m).all fun j=>match (ops[j]?).bind (·.dst)with|some dj=> !(o.looksAt ops).contains dj||jP ops i j|none=>false
  |none=>false)&&
 (List.range (ops.size-m)).all (fun k=>(List.range m).all (fun j=>pre.contains j||mz ops 4 (m+k) j))
abbrev yy:=Nat->Option ((Value->Prop)×(Value->World->Prop))
def pB (v:Value):Option Nat:=match v with
 | .pointer (some a)=>some a.block
 | _=>none
def yo (Q:Exit->Act->World->Prop):Exit->Act->World->Prop:=fun e a w=> ∀a',a'.defers=a.defers->Q e a' w
def Yl (P:Program) (QQ:Exit->Act->World->Prop) (o:Oper) (a:Act) (w:World) (R:Value->World->Prop):Prop:=
 ∀(K:Act->World->Prop),(∀v w',R v w'->K (a.put o.dst v) w')->o.wp P a w K (yo QQ)
def dU (P:Program) (QQ:Exit->Act->World->Prop) (ops:Array Oper) (f:Nat) (tab:yy) (late:Option Nat) (nw:Nat->Bool) (T U:World->World->Prop) (w0:World) (Fin:Act->List (Nat×(World->Prop))->Prop):List Oper->Nat->Act->List (Nat×(World->Prop))->Prop
 | [],_,a,Φ=>Fin a Φ
 |o::rest,i,a,Φ=>
  (Region.wanted o (yielded ops a.tmps)=false->dU P QQ ops f tab late nw T U w0 Fin rest (i+1) (a.put o.dst undef) Φ)/\
  (Region.wanted o (yielded ops a.tmps)=true->
   match tab i with
   |none=> ∃v,(∀w,U w0 w->(execOp a.eval o).run P w= .ok (.value v) w)/\dU P QQ ops f tab late nw T U w0 Fin rest (i+1) (a.put o.dst v) Φ
   |some (Sh,F)=>(∃v,Sh v)/\
    (∀w,(if late=some i then T w0 w else U w0 w)->(∀p∈Φ,mz ops f i p.1=true->p.2 w)->Yl P QQ o a w (fun v w'=>(if late=some i then U w w' else T w w')/\Sh v/\F v w'/\(nw i=true-> ∀g,pB v=some g->w.heap.size<=g)))/\
    ∀v,Sh v->dU P QQ ops f tab late nw T U w0 Fin rest (i+1) (a.put o.dst v) ((i,F v)::Φ))
section
variable {QQ:Exit->Act->World->Prop}
variable {P:Program} {ops:Array Oper} {m size:Nat} {pre:List Nat}
theorem oM (h:rG pre ops m size=true):m<=ops.size:=by
 simp only[rG,ai,decide_eq_true_eq]at h;exact h.1.1.1
theorem oL (h:rG pre ops m size=true) {i:Nat} {o:Oper} (hi:ops[i]? =some o): ∀e∈o.after,Region.binds .any e=true->e.on<i:=by
 simp only[rG,ai]at h;have h2:=h.1.1.2;rw[bY]at h2;have:=h2 i (by rw[dN];exact(Array.getElem?_eq_some_iff.1 hi).1);rw[hi]at this;simp only[d5,bE,Bool.not_eq_true',decide_eq_true_eq]at this;exact fun e he hb=>(this e he).resolve_left (by rw[hb];simp)
theorem gN (h:rG pre ops m size=true) {i:Nat} (hi:i<m): ∃o d,ops[i]? =some o/\o.dst=some d/\d<size/\(∀cs b,o.op≠ .select cs b)/\(∀c,o.op≠ .defer c)/\
  (∀j,j<m->j≠i-> ∀oj,ops[j]? =some oj->oj.dst≠some d)/\
  (∀j,j<m-> ∀oj dj,ops[j]? =some oj->oj.dst=some dj->dj∈o.looksAt ops->jP ops i j=true):=by
 simp only[rG,ai]at h;have h2:=h.1.2;rw[bY]at h2;have:=h2 i (by rw[dN];exact hi)
 cases ho:ops[i]? with
 |none=>rw[ho]at this;cases this
 |some o=>
  rw[ho]at this;simp only[ai]at this;obtain⟨⟨h3,h4⟩,h5⟩:=this
  cases hd:o.dst with
  |none=>rw[hd]at h4;cases h4
  |some d=>
   rw[hd]at h4;simp only[ai,decide_eq_true_eq,bY,dN,bE,beq_iff_eq]at h4 h5;refine⟨o,d,rfl,hd,h4.1,?_,?_,?_,?_⟩;rotate_left
   ·intro c e;rw[e]at h3;simp[xp]at h3
   rotate_right
   ·intro cs b e;rw[e]at h3;simp[xp]at h3
   ·intro j hj hji oj hoj;have:=(h4.2 j hj).resolve_left hji;rw[hoj]at this;simpa using this
   ·intro j hj oj dj hoj hdj hin;have:=h5 j hj;rw[hoj]at this;simp only[e_,hdj,bE,Bool.not_eq_true']at this;rcases this with h6|h6
    ·simp at h6;exact absurd hin h6
    ·exact h6
theorem zd (h:rG pre ops m size=true) {i:Nat} (h1:m<=i) (h2:i<ops.size): ∀j,j<m->j∉pre->mz ops 4 i j=true:=by
 simp only[rG,ai]at h;have h3:=h.2;rw[bY]at h3;have:=h3 (i-m) (by rw[dN];omega);simp only[bY,dN,bE]at this;rw[show m+(i-m)=i from by omega]at this;exact fun j hj hp=>(this j hj).resolve_left (fun h=>hp (by simpa using h))
def Cz (ops:Array Oper) (m:Nat):Bool:=(List.range (ops.size-m)).all fun k=>k==0||jP ops (m+k) (m+k-1)
def BL (pre:List Nat) (ops:Array Oper) (m size:Nat):Bool:=rG pre ops m size&&Cz ops m
def A6 (ops:Array Oper) (m size:Nat):Bool:=BL [] ops m size
theorem mG (h:BL pre ops m size=true):rG pre ops m size=true/\Cz ops m=true:=by
 unfold BL at h;exact(ai _ _).mp h
theorem wV (h:Cz ops m=true) {i:Nat} (h1:m<=i) (h2:i<ops.size):i=m\/jP ops i (i-1)=true:=by
 have:=List.all_eq_true.1 h (i-m) (by rw[dN];omega);simp only[bE,beq_iff_eq]at this;rw[show m+(i-m)=i from by omega]at this;rcases this with h|h
 ·exact .inl (by omega)
 ·exact .inr h
def h_ (ops:Array Oper) (D:Nat->Prop):Prop:= ∀i j,D i->jP ops i j=true->D j
theorem h_.anc {D:Nat->Prop} (h:h_ ops D): ∀(f i j:Nat),D i->mz ops f i j=true->D j
 |0,i,j,hi,ha=>h i j hi ha
 |f+1,i,j,hi,ha=>by
  simp only[mz,fJ]at ha;obtain⟨o,ho,ha⟩:=ha;rw[dP]at ha;obtain⟨e,he,hb⟩:=ha;simp only[ai,bE,beq_iff_eq]at hb;have hd:jP ops i e.on=true:=by
   simp only[jP,fJ];refine⟨o,ho,?_⟩;rw[dP];exact⟨e,he,by simp[hb.1]⟩
  rcases hb.2 with hx|hx
  ·rw[<-hx];exact h i _ hi hd
  ·exact h_.anc h f _ _ (h i _ hi hd) hx
theorem ke {D:Nat->Prop} (h:h_ ops D) (f i j:Nat) (hd: ∀k,jP ops i k=true->D k) (ha:mz ops f i j=true):D j:=by
 cases f with
 |zero=>exact hd j ha
 |succ f=>
  simp only[mz,fJ]at ha;obtain⟨o,ho,ha⟩:=ha;rw[dP]at ha;obtain⟨e,he,hb⟩:=ha;simp only[ai,bE,beq_iff_eq]at hb;have hdd:jP ops i e.on=true:=by
   simp only[jP,fJ];refine⟨o,ho,?_⟩;rw[dP];exact⟨e,he,by simp[hb.1]⟩
  rcases hb.2 with hx|hx
  ·rw[<-hx];exact hd _ hdd
  ·exact h.anc f _ _ (hd _ hdd) hx
theorem fV (a:Act) (d:Nat) (v:Value) (t:Nat) (hd:d<a.tmps.size):cW (a.put (some d) v) t=if t=d then v else cW a t:=by
 unfold cW Act.put;simp only[aq,bm];by_cases h:t=d
 ·subst h;simp[hd]
 ·rw[if_neg (fun e=>h e.symm),if_neg h]
theorem dD (a:Act) (x:Option Tmp) (v:Value):(a.put x v).tmps.size=a.tmps.size:=by cases x<;>simp[Act.put]
theorem gX (a:Act) (x:Option Tmp) (v:Value):(a.put x v).defers=a.defers:=by cases x<;>rfl
theorem Ac {a c:Act} (h1:a.tmps.size=c.tmps.size) (h2: ∀t,cW a t=cW c t) (h3:a.defers=c.defers):a=c:=by
 obtain⟨ta,da⟩:=a;obtain⟨tc,dc⟩:=c;simp only at h1 h3;subst h3
 congr 1
 apply Array.ext h1;intro i hi hi';have:=h2 i;simp only[cW,aq]at this;simpa[hi,hi']using this
def fh (ops:Array Oper) (o:Oper) (a c:Act):Prop:= ∀t,t∈o.looksAt ops->cW a t=cW c t
theorem fh.exec {o:Oper} {a c:Act} (hs: ∀cs b,o.op≠ .select cs b) (h:fh ops o a c):execOp a.eval o=execOp c.eval o:=
 execOp_congr o hs fun x hx=>by
  cases x with
  |tmp t=>exact h t (List.mem_append_left _ (List.mem_filterMap.2 ⟨.tmp t,by simpa using hx,rfl⟩))
  | _=>rfl
theorem fh.wanted {o:Oper} {a c:Act} (hz:a.tmps.size=c.tmps.size) (h:fh ops o a c):Region.wanted o (yielded ops a.tmps)=Region.wanted o (yielded ops c.tmps):=by
 unfold Region.wanted
 cases hg:o.guard with
 |none=>rfl
 |some gw=>
  obtain⟨g,want⟩:=gw;have hy:yielded ops a.tmps g=yielded ops c.tmps g:=by
   unfold yielded
   cases ht:(ops[g]?).bind (·.dst)with
   |none=>rfl
   |some t=>
    have h1:=h t (by simp[Oper.looksAt,hg,ht]);simp only[cW,aq]at h1;simp only[e_];rcases fe t a.tmps.size with hl|hl
    ·have hl':t<c.tmps.size:=hz▸hl;simp only[bB hl,bB hl',bz]at h1⊢;rw[h1]
    ·rw[eC hl,eC (hz▸hl)]
  simp only[hy]
theorem Yl.to {o:Oper} {d:Nat} {a c:Act} {w:World} {R:Value->World->Prop} {QQ:Exit->Act->World->Prop} {K:Act->World->Prop} (hdf:a.defers=c.defers) (hd:o.dst=some d) (hz:d<c.tmps.size) (he:execOp a.eval o=execOp c.eval o)
  (h:Yl P QQ o c w R) (hK: ∀v w',R v w'->K (a.put o.dst v) w'):o.wp P a w K (yo QQ):=by
 have h:=h (fun a' w'=>a'.defers=c.defers/\R (cW a' d) w') (fun v w' hr=>⟨gX _ _ _,by rw[hd,fV _ _ _ _ hz,if_pos rfl];exact hr⟩);have val: ∀(u:Value) (w':World),((c.put o.dst u).defers=c.defers/\R (cW (c.put o.dst u) d) w')->K (a.put o.dst u) w':=fun u w' ⟨_,hr⟩=>by
  rw[hd,fV _ _ _ _ hz,if_pos rfl]at hr;exact hK _ _ hr
 unfold Oper.wp at*;rw[he];generalize (execOp c.eval o).run P w=r at*
 cases r with
 |ok n w'=>
  cases n<;>simp only[Oper.upon]at h⊢
  case value u=>exact val u _ h
  case skip=>exact val _ _ h
  case defer x=>
   have:=h.1;rw[gX]at this;exact absurd (congrArg List.length this) (by simp)
  case enter f args=>
   refine Calls.mono h fun e w'' he=> ?_
   cases e with
   |returned u=>exact val u _ he
   |panicked x=>exact fun a' h'=>he a' (h'.trans hdf)
   |outgrown=>exact he
  case row row args=>exact Rows.mono h fun u w'' he=>val u _ he
 |halt x w'=>
  cases x<;>simp only[Oper.upon]at h⊢;exact fun a' h'=>h a' (h'.trans hdf)
section
variable {QQ:Exit->Act->World->Prop}
variable {f:Nat} {tab:yy} {late:Option Nat} {nw:Nat->Bool} {T U:World->World->Prop} {w0:World} {a0:Act}
def yp (P:Program) (ops:Array Oper) (tab:yy) (U:World->World->Prop) (w0:World) (i:Nat) (o:Oper) (d:Nat) (a:Act):Prop:=
 (Region.wanted o (yielded ops a.tmps)=false->cW a d=undef)/\
 (Region.wanted o (yielded ops a.tmps)=true->match tab i with
  |none=> ∀w,U w0 w->(execOp a.eval o).run P w= .ok (.value (cW a d)) w
  |some (Sh,_)=>Sh (cW a d))
def oh (ops:Array Oper) (m:Nat) (nw:Nat->Bool) (D:Nat->Prop) (a:Act):Prop:=
 ∀(i j:Nat) (oi oj:Oper) (di dj:Nat),D i->D j->i<m->j<m->ops[i]? =some oi->ops[j]? =some oj->oi.dst=some di->oj.dst=some dj->nw i=true->nw j=true->i≠j->
  Region.wanted oi (yielded ops a.tmps)=true->Region.wanted oj (yielded ops a.tmps)=true-> ∀g,pB (cW a di)=some g->pB (cW a dj)≠some g
structure DH (P:Program) (ops:Array Oper) (m:Nat) (tab:yy) (late:Option Nat) (nw:Nat->Bool) (T U:World->World->Prop) (w0:World) (a0:Act) (D:Nat->Prop) (a:Act) (w:World):Prop where
 step:U w0 w
 early:(∀x,late=some x-> ¬D x)->T w0 w
 size:a.tmps.size=a0.tmps.size
 defers:a.defers=a0.defers
 base: ∀t,(∀(i:Nat) (o:Oper),i<m->ops[i]? =some o->o.dst≠some t)->cW a t=cW a0 t
 ok: ∀(i:Nat) (o:Oper) (d:Nat),D i->i<m->ops[i]? =some o->o.dst=some d->yp P ops tab U w0 i o d a
 fact: ∀(i:Nat) (o:Oper) (d:Nat),D i->i<m->ops[i]? =some o->o.dst=some d->Region.wanted o (yielded ops a.tmps)=true-> ∀Sh F,tab i=some (Sh,F)->F (cW a d) w
 pair:oh ops m nw D a
theorem mM {Fin:Act->List (Nat×(World->Prop))->Prop} (hok:rG pre ops m a0.tmps.size=true) (hT:U w0 w0)
  (h:dU P QQ ops f tab late nw T U w0 Fin (ops.toList.take m) 0 a0 []) {D:Nat->Prop} (hD:h_ ops D) {a:Act} {w:World} (hI:DH P ops m tab late nw T U w0 a0 D a w):
  ∀k,k<=m-> ∃c Φ,dU P QQ ops f tab late nw T U w0 Fin ((ops.toList.take m).drop k) k c Φ/\c.tmps.size=a0.tmps.size/\c.defers=a0.defers/\
   (∀t,(∀(i:Nat) (o:Oper),i<m->ops[i]? =some o->o.dst≠some t)->cW c t=cW a0 t)/\
   (∀(i:Nat) (o:Oper) (d:Nat),i<k->D i->ops[i]? =some o->o.dst=some d->cW c d=cW a d)/\
   (∀p∈Φ,p.1<k/\ ∃o d Sh F,ops[p.1]? =some o/\o.dst=some d/\tab p.1=some (Sh,F)/\p.2=F (cW c d)/\(D p.1->Region.wanted o (yielded ops a.tmps)=true)):=by
 intro k
 induction k with
 |zero=>intro _;exact⟨a0,[],h,rfl,rfl,fun _ _=>rfl,fun i o d hi=>absurd hi (by omega),fun p hp=>by cases hp⟩
 |succ k ih=>
  intro hk;obtain⟨c,Φ,hs,h1,h2,h3,h4,h5⟩:=ih (by omega);obtain⟨o,d,ho,hd,hdl,hsel,hdef,huniq,hlook⟩:=gN hok (i:=k) (by omega);have hlen:k<(ops.toList.take m).length:=by have:=oM hok;simp;omega
  have hget:(ops.toList.take m)[k]=o:=by
   have:=(Array.getElem?_eq_some_iff.1 ho).2;simp[this]
  rw[aw hlen,hget]at hs
  -- what the next frame is like
  have next: ∀v,(D k->cW a d=v)->
    ∀(Ψ:List (Nat×(World->Prop))),(∀p∈Ψ,p∈Φ\/(p.1=k/\ ∃Sh F,tab k=some (Sh,F)/\p.2=F v/\(D k->Region.wanted o (yielded ops a.tmps)=true)))->
    dU P QQ ops f tab late nw T U w0 Fin ((ops.toList.take m).drop (k+1)) (k+1) (c.put o.dst v) Ψ->
    ∃c Φ,dU P QQ ops f tab late nw T U w0 Fin ((ops.toList.take m).drop (k+1)) (k+1) c Φ/\c.tmps.size=a0.tmps.size/\c.defers=a0.defers/\
     (∀t,(∀(i:Nat) (o:Oper),i<m->ops[i]? =some o->o.dst≠some t)->cW c t=cW a0 t)/\
     (∀(i:Nat) (o:Oper) (d:Nat),i<k+1->D i->ops[i]? =some o->o.dst=some d->cW c d=cW a d)/\
     (∀p∈Φ,p.1<k+1/\ ∃o d Sh F,ops[p.1]? =some o/\o.dst=some d/\tab p.1=some (Sh,F)/\p.2=F (cW c d)/\(D p.1->Region.wanted o (yielded ops a.tmps)=true)):=by
   intro v hv Ψ hΨ hs';have hp: ∀t,cW (c.put o.dst v) t=if t=d then v else cW c t:=fun t=>by rw[hd];exact fV _ _ _ _ (by rw[h1];exact hdl)
   refine⟨_,Ψ,hs',by rw[dD];exact h1,by rw[gX];exact h2,?_,?_,?_⟩
   ·intro t ht;rw[hp,if_neg (fun e=>ht k o (by omega) ho (by rw[hd,e]))];exact h3 t ht
   ·intro i oi di hi hDi hoi hdi;rw[hp];rcases fe i k with hik|hik
    ·rw[if_neg (fun e=>huniq i (by omega) (by omega) oi hoi (by rw[hdi,e]))];exact h4 i oi di hik hDi hoi hdi
    ·obtain rfl:i=k:=by omega
     rw[ho]at hoi;injection hoi with hoi;subst hoi;rw[hd]at hdi;injection hdi with hdi;subst hdi;rw[if_pos rfl];exact(hv hDi).symm
   ·intro p hp';rcases hΨ p hp' with hin|⟨hpk,Sh,F,ht,hF,hw⟩
    ·obtain⟨hl,op,dp,Sh,F,hop,hdp,htp,hpF,hwp⟩:=h5 p hin;refine⟨by omega,op,dp,Sh,F,hop,hdp,htp,?_,hwp⟩;rw[hp,if_neg (fun e=>huniq p.1 (by omega) (by omega) op hop (by rw[hdp,e]))];exact hpF
    ·refine⟨by omega,o,d,Sh,F,by rw[hpk];exact ho,hd,by rw[hpk];exact ht,?_,by rw[hpk];exact hw⟩;rw[hp,if_pos rfl];exact hF
  -- if k has been carried out, the two frames are the same for it
  have same:D k->fh ops o a c:=fun hDk t ht=>by
   by_cases hex: ∃(i:Nat) (oi:Oper),i<m/\ops[i]? =some oi/\oi.dst=some t
   ·obtain⟨i,oi,him,hoi,hdi⟩:=hex;have hdir:=hlook i him oi t hoi hdi ht;have hik:i<k:=by
     simp only[jP,ho,Option.any_some]at hdir;rw[dP]at hdir;obtain⟨e,he,hb⟩:=hdir;simp only[ai,beq_iff_eq]at hb;have:=oL hok ho e he hb.1;omega
    exact(h4 i oi t hik (hD k i hDk hdir) hoi hdi).symm
   ·rw[hI.base t (fun i oi him hoi hdi=>hex ⟨i,oi,him,hoi,hdi⟩),h3 t (fun i oi him hoi hdi=>hex ⟨i,oi,him,hoi,hdi⟩)]
  have hz:a.tmps.size=c.tmps.size:=by rw[hI.size,h1]
  obtain⟨hs0,hs1⟩:=hs
  cases hw:Region.wanted o (yielded ops c.tmps)with
  |false=>
   exact next undef (fun hDk=>(hI.ok k o d hDk (by omega) ho hd).1 (by rw[(same hDk).wanted hz];exact hw)) Φ (fun p hp=> .inl hp) (hs0 hw)
  |true=>
   have hs1:=hs1 hw
   cases ht:tab k with
   |none=>
    rw[ht]at hs1;obtain⟨v,hv,hs2⟩:=hs1;refine next v (fun hDk=> ?_) Φ (fun p hp=> .inl hp) hs2;have hok':=(hI.ok k o d hDk (by omega) ho hd).2 (by rw[(same hDk).wanted hz];exact hw);rw[ht]at hok';have e1:=hok' w0 hT;rw[(same hDk).exec hsel,hv w0 hT]at e1;injection e1 with e1;injection e1 with e1;exact e1.symm
   |some sf=>
    obtain⟨Sh,F⟩:=sf;rw[ht]at hs1;obtain⟨⟨v0,hv0⟩,_,hs2⟩:=hs1;by_cases hDk:D k
    ·have hwa:Region.wanted o (yielded ops a.tmps)=true:=by rw[(same hDk).wanted hz];exact hw
     have hok':=(hI.ok k o d hDk (by omega) ho hd).2 hwa;rw[ht]at hok';refine next (cW a d) (fun _=>rfl) ((k,F (cW a d))::Φ) ?_ (hs2 _ hok');intro p hp;rcases List.mem_cons.1 hp with rfl|hp
     ·exact .inr ⟨rfl,Sh,F,ht,rfl,fun _=>hwa⟩
     ·exact .inl hp
    ·refine next v0 (fun hDk'=>absurd hDk' hDk) ((k,F v0)::Φ) ?_ (hs2 _ hv0);intro p hp;rcases List.mem_cons.1 hp with rfl|hp
     ·exact .inr ⟨rfl,Sh,F,ht,rfl,fun hDk'=>absurd hDk' hDk⟩
     ·exact .inl hp
def qm (m:Nat) (l:Array Bool):Nat:=(List.range m).countP fun i=> !l.getD i true
theorem lp (l:Array Bool) (m:Nat):qm (m+1) l=qm m l+(if l.getD m true=false then 1 else 0):=by
 unfold qm;rw[List.range_succ,List.countP_append,jM]
 cases l.getD m true<;>rfl
theorem nR (l:Array Bool) (i m:Nat) (hlt:i<l.size):(l.setIfInBounds i true).getD m true=if m=i then true else l.getD m true:=by
 simp only[aq,bm];by_cases h:i=m
 ·subst h;simp[hlt]
 ·rw[if_neg h,if_neg (fun e=>h e.symm)]
theorem sW (l:Array Bool) (i:Nat) (hi:l.getD i true=false): ∀m,qm m (l.setIfInBounds i true)+(if i<m then 1 else 0)=qm m l:=by
 have hlt:i<l.size:=by
  rcases fe i l.size with h|h
  ·exact h
  ·simp[aq,eC h]at hi
 intro m
 induction m with
 |zero=>simp[qm]
 |succ m ih=>
  rw[lp,lp,nR _ _ _ hlt];by_cases h:m=i
  ·subst h;rw[hi];simp at ih⊢;omega
  ·rw[if_neg h];have h2:(i<m+1)↔(i<m):=by omega
   simp only[h2];omega
theorem ql {l:Array Bool}: ∀m,qm m l=0-> ∀i,i<m->l.getD i true=true:=by
 intro m h i hi;unfold qm at h;rw[List.countP_eq_zero]at h;have:=h i (by simpa using hi);simpa using this
theorem sX {l:Array Bool}: ∀m,qm m l≠0-> ∃i,i<m/\l.getD i true=false/\ ∀j,j<i->l.getD j true=true:=by
 intro m
 induction m with
 |zero=>simp[qm]
 |succ m ih=>
  intro h;by_cases h0:qm m l=0
  ·refine⟨m,by omega,?_,ql m h0⟩;unfold qm at h h0;rw[List.range_succ,List.countP_append,h0]at h;simp only[jM]at h
   cases hm:l.getD m true<;>simp[hm]at h⊢
  ·obtain⟨i,h1,h2⟩:=ih h0;exact⟨i,by omega,h2⟩
theorem eK {l:Array Bool} {i:Nat}:i∈Region.ready .any ops l↔l.getD i true=false/\ ∃o,ops[i]? =some o/\ ∀e∈o.after,Region.binds .any e=true->l.getD e.on false=true:=by
 unfold Region.ready;rw[List.mem_filter,dN];constructor
 ·rintro⟨hlt,h⟩;rw[ai]at h;have ho:ops[i]? =some ops[i]:=bB hlt;refine⟨by simpa using h.1,ops[i],ho,fun e he hb=> ?_⟩;have h2:=h.2;rw[ho]at h2;simp only[gz,bz,d5]at h2;have:=h2 e he;simpa[hb]using this
 ·rintro⟨h1,o,ho,h2⟩;refine⟨(Array.getElem?_eq_some_iff.1 ho).1,?_⟩;rw[ai,ho];refine⟨by simp[h1],?_⟩;simp only[gz,bz,d5];intro e he
  cases hb:Region.binds .any e
  ·simp
  ·simp[h2 e he hb]
theorem iw {i j:Nat} {o:Oper} (ho:ops[i]? =some o):jP ops i j=true↔ ∃e∈o.after,Region.binds .any e=true/\e.on=j:=by
 simp only[jP,ho,Option.any_some];rw[dP];simp
def kC (WO:Nat->(Act->World->Prop)->Act->World->Prop) (N:Act->World->Prop) (ops:Array Oper):Nat->Array Bool->Act->World->Prop
 |0,l,a,w=>Region.ready .any ops l=[]/\N a w
 |fuel+1,l,a,w=>(Region.ready .any ops l=[]->N a w)/\ ∀i∈Region.ready .any ops l,WO i (kC WO N ops fuel (l.setIfInBounds i true)) a w
def mC (WO:Nat->(Act->World->Prop)->Act->World->Prop) (N:Act->World->Prop):List Nat->Act->World->Prop
 | []=>N
 |i::l=>WO i (mC WO N l)
structure ku (P:Program) (QQ:Exit->Act->World->Prop) (ops:Array Oper) (S:World->Prop) (WO:Nat->(Act->World->Prop)->Act->World->Prop):Prop where
 mono: ∀{i:Nat} {K K':Act->World->Prop} {a:Act} {w:World},(∀a w,K a w->K' a w)->WO i K a w->WO i K' a w
 skip: ∀{i:Nat} {o:Oper} {K:Act->World->Prop} {a:Act} {w:World},ops[i]? =some o->Region.wanted o (yielded ops a.tmps)=false->S w->K (a.put o.dst undef) w->WO i K a w
 run: ∀{i:Nat} {o:Oper} {K:Act->World->Prop} {a:Act} {w:World},ops[i]? =some o->Region.wanted o (yielded ops a.tmps)=true->(∀c,o.op≠ .defer c)->o.wp P a w (fun a' w'=>S w'/\K a' w') (yo QQ)->WO i K a w
structure oe (P:Program) (QQ:Exit->Act->World->Prop) (ops:Array Oper) (WO:Nat->(Act->World->Prop)->Act->World->Prop):Prop where
 mono: ∀{i:Nat} {K K':Act->World->Prop} {a:Act} {w:World},(∀a w,K a w->K' a w)->WO i K a w->WO i K' a w
 skip: ∀{i:Nat} {o:Oper} {K:Act->World->Prop} {a:Act} {w:World},ops[i]? =some o->Region.wanted o (yielded ops a.tmps)=false->K (a.put o.dst undef) w->WO i K a w
 run: ∀{i:Nat} {o:Oper} {K:Act->World->Prop} {a:Act} {w:World},ops[i]? =some o->Region.wanted o (yielded ops a.tmps)=true->(∀c,o.op≠ .defer c)->o.wp P a w K (yo QQ)->WO i K a w
theorem oe.toS {S:World->Prop} {WO:Nat->(Act->World->Prop)->Act->World->Prop} (h:oe P QQ ops WO):ku P QQ ops S WO where
 mono:=h.mono
 skip:=fun ho hw _ hk=>h.skip ho hw hk
 run:=fun ho hw hd hk=>h.mono (fun _ _ hk=>hk.2) (h.run ho hw hd hk)
def jt (ops:Array Oper) (tk:List Nat) (l:Array Bool):Option Nat:=tk.find? fun j=>(Region.ready .any ops l).contains j
theorem mJ {tk:List Nat} {l:Array Bool} {i:Nat} (h:jt ops tk l=some i):i∈tk/\i∈Region.ready .any ops l:=
 ⟨bR h,by have:=List.find?_some h;simpa using this⟩
theorem qW {tk:List Nat} {l:Array Bool} (h:jt ops tk l=none): ∀j∈tk,¬j∈Region.ready .any ops l:=fun j hj hr=>by
 have:=List.find?_eq_none.1 h j hj;exact this (by simpa using hr)
def yF (ops:Array Oper) (tk:List Nat) (m:Nat):Bool:=
 tk.all fun i=>decide (i<m)&&(List.range ops.size).all fun j=>j==i||jP ops j i||mz ops 4 i j||(match ops[i]?,ops[j]? with|some oi,some oj=>oi.apart ops oj| _,_=>false)
theorem vZ {tk:List Nat} (h:yF ops tk m=true) {i:Nat} (hi:i∈tk):i<m:=by
 simp only[yF,bY,ai,decide_eq_true_eq]at h;exact(h i hi).1
theorem ui {tk:List Nat} (h:yF ops tk m=true) {i j:Nat} (hi:i∈tk) {oi oj:Oper} (hoi:ops[i]? =some oi) (hoj:ops[j]? =some oj) (hji:j≠i) (h1:jP ops j i=false) (h2:mz ops 4 i j=false):oi.apart ops oj=true:=by
 simp only[yF,bY,ai,decide_eq_true_eq]at h;have h3:=(h i hi).2 j (by rw[dN];exact(Array.getElem?_eq_some_iff.1 hoj).1);rw[hoi,hoj,h1,h2]at h3;have h4:(j==i)=false:=by simpa using hji
 rw[h4]at h3;simpa using h3
def kB (P:Program) (ops:Array Oper) (tk:List Nat) (S:World->Prop) (WO:Nat->(Act->World->Prop)->Act->World->Prop) (N:Act->World->Prop):Nat->Array Bool->Act->World->Prop
 |0,l,a,w=>Region.ready .any ops l=[]/\N a w
 |fuel+1,l,a,w=>match jt ops tk l with
  |some i=> ∃v o,ops[i]? =some o/\YieldsIf P ops S o v a/\kB P ops tk S WO N fuel (l.setIfInBounds i true) (a.put o.dst v) w
  |none=>(Region.ready .any ops l=[]->N a w)/\ ∀i∈Region.ready .any ops l,WO i (kB P ops tk S WO N fuel (l.setIfInBounds i true)) a w
section
variable {tk:List Nat} {S:World->Prop} {WO:Nat->(Act->World->Prop)->Act->World->Prop} {N:Act->World->Prop}
theorem vB {fuel:Nat} {l:Array Bool} {a:Act} {w:World} {i:Nat} (h:jt ops tk l=some i)
  (hk: ∃v o,ops[i]? =some o/\YieldsIf P ops S o v a/\kB P ops tk S WO N fuel (l.setIfInBounds i true) (a.put o.dst v) w):kB P ops tk S WO N (fuel+1) l a w:=by
 simp only[kB,h];exact hk
theorem pg {fuel:Nat} {l:Array Bool} {a:Act} {w:World} (h:jt ops tk l=none)
  (hk:(Region.ready .any ops l=[]->N a w)/\ ∀i∈Region.ready .any ops l,WO i (kB P ops tk S WO N fuel (l.setIfInBounds i true)) a w):kB P ops tk S WO N (fuel+1) l a w:=by
 simp only[kB,h];exact hk
theorem qX {l:Array Bool} (h: ∀j∈tk,l.getD j true=true):jt ops tk l=none:=by
 unfold jt;rw[List.find?_eq_none];intro j hj hr;have hr:j∈Region.ready .any ops l:=by simpa using hr
 have:=(eK.1 hr).1;rw[h j hj]at this
 cases this
theorem lV {S':World->Prop} (hW:ku P QQ ops S' WO): ∀(fuel:Nat) (l:Array Bool) (a:Act) (w:World),(∀j∈tk,l.getD j true=true)->kC WO N ops fuel l a w->kB P ops tk S WO N fuel l a w
 |0,_,_,_,_,h=>h
 |fuel+1,l,a,w,hd,h=>pg (qX hd) ⟨h.1,fun i hi=>hW.mono (fun a w h'=>lV hW fuel _ a w (fun j hj=>by
   have:=hd j hj;simp only[aq,bm]at this⊢;split
   ·split<;>rfl
   ·exact this) h') (h.2 i hi)⟩
end
variable {WO:Nat->(Act->World->Prop)->Act->World->Prop} {N:Act->World->Prop} {S:World->Prop}
theorem qs (hW:ku P QQ ops S WO) (hok:rG pre ops m size=true) (hT:Cz ops m=true): ∀(r k:Nat) (l:Array Bool) (a:Act) (w:World),r=ops.size-k->m<=k->k<=ops.size->l.size=ops.size->(∀i,i<ops.size->l.getD i true=decide (i<k))->
  mC WO N (List.range' k (ops.size-k)) a w->kC WO N ops r l a w:=by
 intro r
 induction r with
 |zero=>
  intro k l a w hr _ hk hl hlk h;obtain rfl:k=ops.size:=by omega
  refine⟨?_,by rw[Nat.sub_self]at h;exact h⟩;rw[List.eq_nil_iff_forall_not_mem];intro i hi;obtain⟨h1,o,ho,_⟩:=eK.1 hi;have hlt:=(Array.getElem?_eq_some_iff.1 ho).1;rw[hlk i hlt]at h1;simp at h1;omega
 |succ r ih=>
  intro k l a w hr hm hk hl hlk h;have hk':k<ops.size:=by omega
  have hok':ops[k]? =some ops[k]:=bB hk';refine⟨fun hnil=> ?_,fun i hi=> ?_⟩
  ·have:k∈Region.ready .any ops l:=eK.2 ⟨by rw[hlk k hk'];simp,_,hok',fun e he hbe=>by
    have h1:=oL hok hok' e he hbe;have h2:=hlk e.on (by omega);simp only[aq]at h2⊢;have h3:e.on<l.size:=by omega
    simp only[bB h3,bz]at h2⊢
    rw[h2];simp;omega⟩
   rw[hnil]at this
   cases this
  ·obtain⟨h1,o,ho,h2⟩:=eK.1 hi;have hilt:=(Array.getElem?_eq_some_iff.1 ho).1;have hki:k<=i:=by rw[hlk i hilt]at h1;simpa using h1
   obtain rfl:i=k:=by
    rcases fe k i with hlt|hge
    ·rcases wV hT (i:=i) (by omega) hilt with h3|h3
     ·omega
     ·obtain⟨e,he,hb,hon⟩:=(iw ho).1 h3;have h4:=h2 e he hb;have h5:=hlk e.on (by omega);have h6:e.on<l.size:=by omega
      simp only[aq,bB h6,bz]at h4 h5;rw[h4]at h5;simp at h5;omega
    ·omega
   have hrec: ∀a w,mC WO N (List.range' (i+1) (ops.size-(i+1))) a w->kC WO N ops r (l.setIfInBounds i true) a w:=fun a w hh=>
    ih (i+1) _ a w (by omega) (by omega) (by omega) (by simpa using hl) (fun j hj=>by
     simp only[aq,bm];by_cases hji:i=j
     ·subst hji;simp[hl,hj]
     ·rw[if_neg hji];have:=hlk j hj;simp only[aq]at this;rw[this];simp only[decide_eq_decide]
      omega) hh
   rw[show ops.size-i=(ops.size-(i+1))+1 from by omega,List.range'_succ]at h;exact hW.mono hrec h
theorem oR {TL:Act->World->Prop} (htk:yF ops pre m=true) (htn: ∀j∈pre,tab j=none) (hTL: ∀(l:Array Bool) (a:Act) (w:World),l.size=ops.size->(∀i,i<ops.size->l.getD i true=decide (i<m))->TL a w->kC WO N ops (ops.size-m+0) l a w) (hW:ku P QQ ops (U w0) WO) (hok:rG pre ops m a0.tmps.size=true) (hTr:U w0 w0) (hTt: ∀a b c,U a b->U b c->U a c) (hTU: ∀a b,T a b->U a b) (hTT: ∀a b c,T a b->T b c->T a c) (hTs: ∀i Sh F,tab i=some (Sh,F)-> ∀v w w',F v w->T w w'->F v w')
  (hUs: ∀i Sh F,late≠some i->tab i=some (Sh,F)-> ∀v w w',F v w->U w w'->F v w') (hT1: ∀w,T w w)
  (hNw: ∀i,nw i=true-> ∃Sh F,tab i=some (Sh,F)/\ ∀v w,F v w-> ∀g,pB v=some g->g<w.heap.size)
  (h:dU P QQ ops f tab late nw T U w0 (fun a Φ=> ∀w,U w0 w->(∀p∈Φ,p.2 w)->oh ops m nw (fun _=>True) a->TL a w) (ops.toList.take m) 0 a0 []):
  ∀(n:Nat) (l:Array Bool) (a:Act) (w:World),n=qm m l->l.size=ops.size->(∀i,i<ops.size->m<=i->l.getD i true=false)->h_ ops (fun i=>l.getD i false=true)->
   DH P ops m tab late nw T U w0 a0 (fun i=>l.getD i false=true) a w->kB P ops pre (U w0) WO N (ops.size-m+n) l a w:=by
 have hmle:=oM hok;intro n
 induction n with
 |zero=>
  intro l a w hn hl hm hC hI;have hall:=ql m hn.symm;have hD: ∀i,i<m->l.getD i false=true:=fun i hi=>by
   have h1:=hall i hi;have h3:i<l.size:=by omega
   simp only[aq,bB h3,bz]at h1⊢;exact h1
  obtain⟨c,Φ,hs,h1,h2,h3,h4,h5⟩:=mM hok hTr h hC hI m (ag _);rw[aD (l:=ops.toList.take m) (i:=m) (List.length_take_le _ _)]at hs
  obtain rfl:c=a:=Ac (by rw[h1,hI.size]) (fun t=>by
   by_cases hex: ∃(i:Nat) (oi:Oper),i<m/\ops[i]? =some oi/\oi.dst=some t
   ·obtain⟨i,oi,him,hoi,hdi⟩:=hex;exact h4 i oi t him (hD i him) hoi hdi
   ·rw[hI.base t (fun i oi him hoi hdi=>hex ⟨i,oi,him,hoi,hdi⟩),h3 t (fun i oi him hoi hdi=>hex ⟨i,oi,him,hoi,hdi⟩)]) (by rw[h2,hI.defers])
  refine lV hW (ops.size-m+0) l c w (fun j hj=>hall j (vZ htk hj)) ?_;refine hTL l c w hl (fun i hi=> ?_) (hs w hI.step (fun p hp=> ?_) ?_)
  ·by_cases him:i<m
   ·rw[hall i him];simp[him]
   ·rw[hm i hi (by omega)];simp[him]
  ·obtain⟨hlt,o,d,Sh,F,ho,hd,ht,hF,hw⟩:=h5 p hp;rw[hF];exact hI.fact p.1 o d (hD _ hlt) hlt ho hd (hw (hD _ hlt)) Sh F ht
  ·intro i j oi oj di dj _ _ hi hj;exact hI.pair i j oi oj di dj (hD i hi) (hD j hj) hi hj
 |succ n ih=>
  intro l a w hn hl hm hC hI;have hlf: ∀i,i<ops.size->l.getD i false=l.getD i true:=fun i hi=>by
   have h3:i<l.size:=by omega
   simp only[aq,bB h3,bz]
  have hsz:ops.size-m+(n+1)=(ops.size-m+n)+1:=by omega
  rw[hsz]
  cases hft:jt ops pre l with
  |some i=>
   refine vB hft ?_;obtain⟨hit,hi⟩:=mJ hft;obtain⟨h1,o',ho',h2⟩:=eK.1 hi;have hilt:=(Array.getElem?_eq_some_iff.1 ho').1;have hdeps: ∀k,jP ops i k=true->l.getD k false=true:=fun k hk=>by
    obtain⟨e,he,hb,hon⟩:=(iw ho').1 hk;rw[<-hon];exact h2 e he hb
   have him:i<m:=vZ htk hit;obtain⟨o,d,ho,hd,hdl,hsel,hdef,huniq,hlook⟩:=gN hok him;rw[ho]at ho';injection ho' with ho';subst ho';obtain⟨c,Φ,hs,g1,g2,g3,g4,g5⟩:=mM hok hTr h hC hI i (by omega);have hlen:i<(ops.toList.take m).length:=by simp;omega
   have hget:(ops.toList.take m)[i]=o:=by
    have:=(Array.getElem?_eq_some_iff.1 ho).2;simp[this]
   rw[aw hlen,hget]at hs;have same:fh ops o a c:=fun t ht=>by
    by_cases hex: ∃(k:Nat) (oi:Oper),k<m/\ops[k]? =some oi/\oi.dst=some t
    ·obtain⟨k,oi,hkm,hoi,hdi⟩:=hex;have hdir:=hlook k hkm oi t hoi hdi ht;have hik:k<i:=by
      obtain⟨e,he,hb,hon⟩:=(iw ho).1 hdir;have:=oL hok ho e he hb;omega
     exact(g4 k oi t hik (hdeps k hdir) hoi hdi).symm
    ·rw[hI.base t (fun i oi him hoi hdi=>hex ⟨i,oi,him,hoi,hdi⟩),g3 t (fun i oi him hoi hdi=>hex ⟨i,oi,him,hoi,hdi⟩)]
   have hz:a.tmps.size=c.tmps.size:=by rw[hI.size,g1]
   have hC':h_ ops (fun j=>(l.setIfInBounds i true).getD j false=true):=fun j k hj hjk=>by
    have set: ∀j,(l.setIfInBounds i true).getD j false=if j=i then true else l.getD j false:=fun j=>by
     simp only[aq,bm];by_cases h:i=j
     ·subst h;simp[hl,hilt]
     ·rw[if_neg h,if_neg (fun e=>h e.symm)]
    simp only[set]at hj⊢;by_cases hji:j=i
    ·subst hji;by_cases hki:k=j
     ·rw[if_pos hki]
     ·rw[if_neg hki];exact hdeps k hjk
    ·rw[if_neg hji]at hj;by_cases hki:k=i
     ·rw[if_pos hki]
     ·rw[if_neg hki];exact hC j k hj hjk
   -- the step: a value v in cW d
   have go: ∀v w',(if late=some i then U w w' else T w w')->yp P ops tab U w0 i o d (a.put o.dst v)->(Region.wanted o (yielded ops a.tmps)=true-> ∀Sh F,tab i=some (Sh,F)->F v w')->(nw i=true-> ∀g,pB v=some g->w.heap.size<=g)->
     kB P ops pre (U w0) WO N (ops.size-m+n) (l.setIfInBounds i true) (a.put o.dst v) w':=by
    intro v w' hstep0 hOk hFact hNew;have hstep:U w w':=by
     by_cases hl:late=some i
     ·rw[if_pos hl]at hstep0;exact hstep0
     ·rw[if_neg hl]at hstep0;exact hTU _ _ hstep0
    have hp: ∀t,cW (a.put o.dst v) t=if t=d then v else cW a t:=fun t=>by rw[hd];exact fV _ _ _ _ (by rw[hI.size];exact hdl)
    have other: ∀(j:Nat) (oj:Oper) (dj:Nat),(l.setIfInBounds i true).getD j false=true->j≠i->j<m->ops[j]? =some oj->oj.dst=some dj->l.getD j false=true/\dj≠d/\fh ops oj (a.put o.dst v) a:=by
     intro j oj dj hj hji hjm hoj hdj;have hj':l.getD j false=true:=by
      simp only[aq,bm]at hj⊢;rw[if_neg (fun e=>hji e.symm)]at hj;exact hj
     refine⟨hj',fun e=>huniq j hjm hji oj hoj (by rw[hdj,e]),fun t ht=> ?_⟩;rw[hp];by_cases htd:t=d
     ·subst htd;obtain⟨oj2,dj2,hoj2,_,_,_,_,_,hlook2⟩:=gN hok hjm;rw[hoj]at hoj2;injection hoj2 with hoj2;subst hoj2;have:=hC j i hj' (hlook2 i him o t ho hd ht);simp only[]at this;rw[hlf i hilt,h1]at this
      cases this
     ·rw[if_neg htd]
    refine ih _ _ _ ?_ (by simpa using hl) ?_ hC' ⟨hTt _ _ _ hI.step hstep,?_,by rw[dD,hI.size],by rw[gX,hI.defers],?_,?_,?_,?_⟩
    ·have:=sW l i h1 m;rw[if_pos him]at this;omega
    ·intro j hj hmj;rw[nR _ _ _ (by omega),if_neg (by omega)];exact hm j hj hmj
    ·intro hE;have hni:late≠some i:=fun e=>hE i e (by simp[aq,hl,hilt]);rw[if_neg hni]at hstep0;refine hTT _ _ _ (hI.early fun x hx hDx=>hE x hx ?_) hstep0;simp only[aq,bm]at hDx⊢;by_cases hxi:i=x
     ·subst hxi;simp[hl,hilt]
     ·rw[if_neg hxi];exact hDx
    ·intro t ht;rw[hp,if_neg (fun e=>ht i o him ho (by rw[hd,e]))];exact hI.base t ht
    ·intro j oj dj hj hjm hoj hdj;by_cases hji:j=i
     ·subst hji;rw[ho]at hoj;injection hoj with hoj;subst hoj;rw[hd]at hdj;injection hdj with hdj;subst hdj;exact hOk
     ·obtain⟨hj',hne,hsame⟩:=other j oj dj hj hji hjm hoj hdj;obtain⟨oj2,_,hoj2,_,_,hsel2,_,_⟩:=gN hok hjm;rw[hoj]at hoj2;injection hoj2 with hoj2;subst hoj2;have hok0:=hI.ok j oj dj hj' hjm hoj hdj;unfold yp at hok0⊢;rw[hsame.wanted (dD _ _ _),hsame.exec hsel2,hp,if_neg hne];exact hok0
    ·intro j oj dj hj hjm hoj hdj hwj Sh F ht;rw[hp];by_cases hji:j=i
     ·subst hji;rw[ho]at hoj;injection hoj with hoj;subst hoj;rw[hd]at hdj;injection hdj with hdj;subst hdj;rw[if_pos rfl];have hself:fh ops o (a.put o.dst v) a:=fun t ht'=>by
       rw[hp,if_neg];intro e;subst e;have:=hdeps j (hlook j him o t ho hd ht');rw[hlf j hilt,h1]at this
       cases this
      exact hFact (by rw[<-hself.wanted (dD _ _ _)];exact hwj) Sh F ht
     ·obtain⟨hj',hne,hsame⟩:=other j oj dj hj hji hjm hoj hdj;rw[if_neg hne];have hF:=hI.fact j oj dj hj' hjm hoj hdj (by rw[<-hsame.wanted (dD _ _ _)];exact hwj) Sh F ht;by_cases hl:late=some i
      ·exact hUs j Sh F (fun e=>hji (by rw[hl]at e;injection e with e;exact e.symm)) ht _ _ _ hF hstep
      ·rw[if_neg hl]at hstep0;exact hTs j Sh F ht _ _ _ hF hstep0
    ·intro j k oj ok dj dk hj hk hjm hkm hoj hok' hdj hdk hnj hnk hne hwj hwk g hgj hgk;have old: ∀(k:Nat) (ok:Oper) (dk:Nat),(l.setIfInBounds i true).getD k false=true->k≠i->k<m->ops[k]? =some ok->ok.dst=some dk->nw k=true->Region.wanted ok (yielded ops (a.put o.dst v).tmps)=true->
       l.getD k false=true/\Region.wanted ok (yielded ops a.tmps)=true/\cW (a.put o.dst v) dk=cW a dk/\ ∀g,pB (cW a dk)=some g->g<w.heap.size:=fun k ok dk hk hki hkm hok hdk hnk hwk=>by
      obtain⟨hk',hne,hsame⟩:=other k ok dk hk hki hkm hok hdk;have hwk':Region.wanted ok (yielded ops a.tmps)=true:=by rw[<-hsame.wanted (dD _ _ _)];exact hwk
      refine⟨hk',hwk',by rw[hp,if_neg hne],fun g hg=> ?_⟩;obtain⟨Sh,F,ht,hold⟩:=hNw k hnk;exact hold _ _ (hI.fact k ok dk hk' hkm hok hdk hwk' Sh F ht) g hg
     by_cases hji:j=i
     ·subst hji;rw[ho]at hoj;injection hoj with hoj;subst hoj;rw[hd]at hdj;injection hdj with hdj;subst hdj;rw[hp,if_pos rfl]at hgj;obtain⟨_,_,e1,e2⟩:=old k ok dk hk (fun e=>hne e.symm) hkm hok' hdk hnk hwk;rw[e1]at hgk;have h1:=hNew hnj g hgj;have h2:=e2 g hgk;omega
     ·obtain⟨j1,j2,e1,e2⟩:=old j oj dj hj hji hjm hoj hdj hnj hwj;rw[e1]at hgj;by_cases hki:k=i
      ·subst hki;rw[ho]at hok';injection hok' with hok';subst hok';rw[hd]at hdk;injection hdk with hdk;subst hdk;rw[hp,if_pos rfl]at hgk;have h1:=hNew hnk g hgk;have h2:=e2 g hgj;omega
      ·obtain⟨k1,k2,e3,_⟩:=old k ok dk hk hki hkm hok' hdk hnk hwk;rw[e3]at hgk;exact hI.pair j k oj ok dj dk j1 k1 hjm hkm hoj hok' hdj hdk hnj hnk hne j2 k2 g hgj hgk
   have self: ∀v,fh ops o (a.put o.dst v) a:=fun v t ht'=>by
    have hp: ∀t,cW (a.put o.dst v) t=if t=d then v else cW a t:=fun t=>by rw[hd];exact fV _ _ _ _ (by rw[hI.size];exact hdl)
    rw[hp,if_neg];intro e;subst e;have:=hdeps i (hlook i him o t ho hd ht');rw[hlf i hilt,h1]at this
    cases this
   have own: ∀v,cW (a.put o.dst v) d=v:=fun v=>by rw[hd,fV _ _ _ _ (by rw[hI.size];exact hdl),if_pos rfl]
   obtain⟨_,hs1⟩:=hs
   cases hw:Region.wanted o (yielded ops a.tmps)with
   |true=>
    have hs1:=hs1 (by rw[<-same.wanted hz];exact hw);have ht:=htn i hit;rw[ht]at hs1;obtain⟨v,hv,_⟩:=hs1;refine⟨v,o,ho, .inl ⟨hw,fun w1 hw1=>by rw[same.exec hsel];exact hv w1 hw1⟩,go v w (by split;exact hTU _ _ (hT1 w);exact hT1 w) ⟨fun hf=> ?_,fun _=> ?_⟩ (fun _ Sh F h=>by rw[ht]at h;cases h) (fun hn=>by obtain⟨_,_,h,_⟩:=hNw i hn;rw[ht]at h;cases h)⟩
    ·rw[(self v).wanted (dD _ _ _),hw]at hf;cases hf
    ·rw[ht];intro w1 hw1;rw[(self v).exec hsel,same.exec hsel,own];exact hv w1 hw1
   |false=>
    have hwf:=hw;refine⟨undef,o,ho, .inr ⟨hw,rfl⟩,go undef w (by split;exact hTU _ _ (hT1 w);exact hT1 w) ⟨fun _=>own undef,fun hf=> ?_⟩ (fun h=>by rw[hwf]at h;cases h) (fun _ g hg=>by cases hg)⟩;rw[(self undef).wanted (dD _ _ _),hwf]at hf
    cases hf
  |none=>
   refine pg hft ⟨fun hnil=> ?_,fun i hi=> ?_⟩
   ·obtain⟨i,him,hi0,hib⟩:=sX m (l:=l) (by omega);obtain⟨o,d,ho,_⟩:=gN hok him
    have:i∈Region.ready .any ops l:=eK.2 ⟨hi0,o,ho,fun e he hbe=>by
     have h1:=oL hok ho e he hbe;rw[hlf _ (by omega)]
     exact hib _ h1⟩
    rw[hnil]at this
    cases this
   ·skip
    obtain⟨h1,o',ho',h2⟩:=eK.1 hi;have hilt:=(Array.getElem?_eq_some_iff.1 ho').1;have hdeps: ∀k,jP ops i k=true->l.getD k false=true:=fun k hk=>by
     obtain⟨e,he,hb,hon⟩:=(iw ho').1 hk;rw[<-hon];exact h2 e he hb
    have him:i<m:=by
     rcases fe i m with h3|h3
     ·exact h3
     ·exfalso
      obtain⟨j,hj,hj0,hjb⟩:=sX m (l:=l) (by omega);by_cases hjt:j∈pre
      ·obtain⟨oj,dj,hoj,_⟩:=gN hok hj
       have hjr:j∈Region.ready .any ops l:=eK.2 ⟨hj0,oj,hoj,fun e he hbe=>by
        have h1:=oL hok hoj e he hbe;rw[hlf _ (by omega)]
        exact hjb _ h1⟩
       exact qW hft j hjt hjr
      ·have h4:=ke (D:=fun i=>l.getD i false=true) hC 4 i j hdeps (zd hok h3 hilt j hj hjt);rw[hlf j (by omega)]at h4;rw[hj0]at h4
       cases h4
    obtain⟨o,d,ho,hd,hdl,hsel,hdef,huniq,hlook⟩:=gN hok him;rw[ho]at ho';injection ho' with ho';subst ho';obtain⟨c,Φ,hs,g1,g2,g3,g4,g5⟩:=mM hok hTr h hC hI i (by omega);have hlen:i<(ops.toList.take m).length:=by simp;omega
    have hget:(ops.toList.take m)[i]=o:=by
     have:=(Array.getElem?_eq_some_iff.1 ho).2;simp[this]
    rw[aw hlen,hget]at hs;have same:fh ops o a c:=fun t ht=>by
     by_cases hex: ∃(k:Nat) (oi:Oper),k<m/\ops[k]? =some oi/\oi.dst=some t
     ·obtain⟨k,oi,hkm,hoi,hdi⟩:=hex;have hdir:=hlook k hkm oi t hoi hdi ht;have hik:k<i:=by
       obtain⟨e,he,hb,hon⟩:=(iw ho).1 hdir;have:=oL hok ho e he hb;omega
      exact(g4 k oi t hik (hdeps k hdir) hoi hdi).symm
     ·rw[hI.base t (fun i oi him hoi hdi=>hex ⟨i,oi,him,hoi,hdi⟩),g3 t (fun i oi him hoi hdi=>hex ⟨i,oi,him,hoi,hdi⟩)]
    have hz:a.tmps.size=c.tmps.size:=by rw[hI.size,g1]
    have hC':h_ ops (fun j=>(l.setIfInBounds i true).getD j false=true):=fun j k hj hjk=>by
     have set: ∀j,(l.setIfInBounds i true).getD j false=if j=i then true else l.getD j false:=fun j=>by
      simp only[aq,bm];by_cases h:i=j
      ·subst h;simp[hl,hilt]
      ·rw[if_neg h,if_neg (fun e=>h e.symm)]
     simp only[set]at hj⊢;by_cases hji:j=i
     ·subst hji;by_cases hki:k=j
      ·rw[if_pos hki]
      ·rw[if_neg hki];exact hdeps k hjk
     ·rw[if_neg hji]at hj;by_cases hki:k=i
      ·rw[if_pos hki]
      ·rw[if_neg hki];exact hC j k hj hjk
    -- the step: a value v in cW d
    have go: ∀v w',(if late=some i then U w w' else T w w')->yp P ops tab U w0 i o d (a.put o.dst v)->(Region.wanted o (yielded ops a.tmps)=true-> ∀Sh F,tab i=some (Sh,F)->F v w')->(nw i=true-> ∀g,pB v=some g->w.heap.size<=g)->
      kB P ops pre (U w0) WO N (ops.size-m+n) (l.setIfInBounds i true) (a.put o.dst v) w':=by
     intro v w' hstep0 hOk hFact hNew;have hstep:U w w':=by
      by_cases hl:late=some i
      ·rw[if_pos hl]at hstep0;exact hstep0
      ·rw[if_neg hl]at hstep0;exact hTU _ _ hstep0
     have hp: ∀t,cW (a.put o.dst v) t=if t=d then v else cW a t:=fun t=>by rw[hd];exact fV _ _ _ _ (by rw[hI.size];exact hdl)
     have other: ∀(j:Nat) (oj:Oper) (dj:Nat),(l.setIfInBounds i true).getD j false=true->j≠i->j<m->ops[j]? =some oj->oj.dst=some dj->l.getD j false=true/\dj≠d/\fh ops oj (a.put o.dst v) a:=by
      intro j oj dj hj hji hjm hoj hdj;have hj':l.getD j false=true:=by
       simp only[aq,bm]at hj⊢;rw[if_neg (fun e=>hji e.symm)]at hj;exact hj
      refine⟨hj',fun e=>huniq j hjm hji oj hoj (by rw[hdj,e]),fun t ht=> ?_⟩;rw[hp];by_cases htd:t=d
      ·subst htd;obtain⟨oj2,dj2,hoj2,_,_,_,_,_,hlook2⟩:=gN hok hjm;rw[hoj]at hoj2;injection hoj2 with hoj2;subst hoj2;have:=hC j i hj' (hlook2 i him o t ho hd ht);simp only[]at this;rw[hlf i hilt,h1]at this
       cases this
      ·rw[if_neg htd]
     refine ih _ _ _ ?_ (by simpa using hl) ?_ hC' ⟨hTt _ _ _ hI.step hstep,?_,by rw[dD,hI.size],by rw[gX,hI.defers],?_,?_,?_,?_⟩
     ·have:=sW l i h1 m;rw[if_pos him]at this;omega
     ·intro j hj hmj;rw[nR _ _ _ (by omega),if_neg (by omega)];exact hm j hj hmj
     ·intro hE;have hni:late≠some i:=fun e=>hE i e (by simp[aq,hl,hilt]);rw[if_neg hni]at hstep0;refine hTT _ _ _ (hI.early fun x hx hDx=>hE x hx ?_) hstep0;simp only[aq,bm]at hDx⊢;by_cases hxi:i=x
      ·subst hxi;simp[hl,hilt]
      ·rw[if_neg hxi];exact hDx
     ·intro t ht;rw[hp,if_neg (fun e=>ht i o him ho (by rw[hd,e]))];exact hI.base t ht
     ·intro j oj dj hj hjm hoj hdj;by_cases hji:j=i
      ·subst hji;rw[ho]at hoj;injection hoj with hoj;subst hoj;rw[hd]at hdj;injection hdj with hdj;subst hdj;exact hOk
      ·obtain⟨hj',hne,hsame⟩:=other j oj dj hj hji hjm hoj hdj;obtain⟨oj2,_,hoj2,_,_,hsel2,_,_⟩:=gN hok hjm;rw[hoj]at hoj2;injection hoj2 with hoj2;subst hoj2;have hok0:=hI.ok j oj dj hj' hjm hoj hdj;unfold yp at hok0⊢;rw[hsame.wanted (dD _ _ _),hsame.exec hsel2,hp,if_neg hne];exact hok0
     ·intro j oj dj hj hjm hoj hdj hwj Sh F ht;rw[hp];by_cases hji:j=i
      ·subst hji;rw[ho]at hoj;injection hoj with hoj;subst hoj;rw[hd]at hdj;injection hdj with hdj;subst hdj;rw[if_pos rfl];have hself:fh ops o (a.put o.dst v) a:=fun t ht'=>by
        rw[hp,if_neg];intro e;subst e;have:=hdeps j (hlook j him o t ho hd ht');rw[hlf j hilt,h1]at this
        cases this
       exact hFact (by rw[<-hself.wanted (dD _ _ _)];exact hwj) Sh F ht
      ·obtain⟨hj',hne,hsame⟩:=other j oj dj hj hji hjm hoj hdj;rw[if_neg hne];have hF:=hI.fact j oj dj hj' hjm hoj hdj (by rw[<-hsame.wanted (dD _ _ _)];exact hwj) Sh F ht;by_cases hl:late=some i
       ·exact hUs j Sh F (fun e=>hji (by rw[hl]at e;injection e with e;exact e.symm)) ht _ _ _ hF hstep
       ·rw[if_neg hl]at hstep0;exact hTs j Sh F ht _ _ _ hF hstep0
     ·intro j k oj ok dj dk hj hk hjm hkm hoj hok' hdj hdk hnj hnk hne hwj hwk g hgj hgk;have old: ∀(k:Nat) (ok:Oper) (dk:Nat),(l.setIfInBounds i true).getD k false=true->k≠i->k<m->ops[k]? =some ok->ok.dst=some dk->nw k=true->Region.wanted ok (yielded ops (a.put o.dst v).tmps)=true->
        l.getD k false=true/\Region.wanted ok (yielded ops a.tmps)=true/\cW (a.put o.dst v) dk=cW a dk/\ ∀g,pB (cW a dk)=some g->g<w.heap.size:=fun k ok dk hk hki hkm hok hdk hnk hwk=>by
       obtain⟨hk',hne,hsame⟩:=other k ok dk hk hki hkm hok hdk;have hwk':Region.wanted ok (yielded ops a.tmps)=true:=by rw[<-hsame.wanted (dD _ _ _)];exact hwk
       refine⟨hk',hwk',by rw[hp,if_neg hne],fun g hg=> ?_⟩;obtain⟨Sh,F,ht,hold⟩:=hNw k hnk;exact hold _ _ (hI.fact k ok dk hk' hkm hok hdk hwk' Sh F ht) g hg
      by_cases hji:j=i
      ·subst hji;rw[ho]at hoj;injection hoj with hoj;subst hoj;rw[hd]at hdj;injection hdj with hdj;subst hdj;rw[hp,if_pos rfl]at hgj;obtain⟨_,_,e1,e2⟩:=old k ok dk hk (fun e=>hne e.symm) hkm hok' hdk hnk hwk;rw[e1]at hgk;have h1:=hNew hnj g hgj;have h2:=e2 g hgk;omega
      ·obtain⟨j1,j2,e1,e2⟩:=old j oj dj hj hji hjm hoj hdj hnj hwj;rw[e1]at hgj;by_cases hki:k=i
       ·subst hki;rw[ho]at hok';injection hok' with hok';subst hok';rw[hd]at hdk;injection hdk with hdk;subst hdk;rw[hp,if_pos rfl]at hgk;have h1:=hNew hnk g hgk;have h2:=e2 g hgj;omega
       ·obtain⟨k1,k2,e3,_⟩:=old k ok dk hk hki hkm hok' hdk hnk hwk;rw[e3]at hgk;exact hI.pair j k oj ok dj dk j1 k1 hjm hkm hoj hok' hdj hdk hnj hnk hne j2 k2 g hgj hgk
    have self: ∀v,fh ops o (a.put o.dst v) a:=fun v t ht'=>by
     have hp: ∀t,cW (a.put o.dst v) t=if t=d then v else cW a t:=fun t=>by rw[hd];exact fV _ _ _ _ (by rw[hI.size];exact hdl)
     rw[hp,if_neg];intro e;subst e;have:=hdeps i (hlook i him o t ho hd ht');rw[hlf i hilt,h1]at this
     cases this
    have own: ∀v,cW (a.put o.dst v) d=v:=fun v=>by rw[hd,fV _ _ _ _ (by rw[hI.size];exact hdl),if_pos rfl]
    obtain⟨_,hs1⟩:=hs
    cases hw:Region.wanted o (yielded ops a.tmps)with
    |true=>
     have hs1:=hs1 (by rw[<-same.wanted hz];exact hw);refine hW.run ho hw hdef ?_
     cases ht:tab i with
     |none=>
      rw[ht]at hs1;obtain⟨v,hv,_⟩:=hs1;unfold Oper.wp;rw[same.exec hsel,hv w hI.step];simp only[Oper.upon];refine⟨hI.step,go v w (by split;exact hTU _ _ (hT1 w);exact hT1 w) ⟨fun hf=> ?_,fun _=> ?_⟩ (fun _ Sh F h=>by rw[ht]at h;cases h) (fun hn=>by obtain⟨_,_,h,_⟩:=hNw i hn;rw[ht]at h;cases h)⟩
      ·rw[(self v).wanted (dD _ _ _),hw]at hf;cases hf
      ·rw[ht];intro w1 hw1;rw[(self v).exec hsel,same.exec hsel,own];exact hv w1 hw1
     |some sf=>
      obtain⟨Sh,F⟩:=sf;rw[ht]at hs1;obtain⟨_,hy,_⟩:=hs1;refine Yl.to (c:=c) (by rw[hI.defers,g2]) hd (by rw[g1];exact hdl) (same.exec hsel) (hy w (by split;exact hI.early (fun x hx hDx=>by rename_i hli;rw[hli]at hx;injection hx with hx;subst hx;rw[hlf i hilt,h1]at hDx;cases hDx);exact hI.step) fun p hp ha=> ?_) ?_
      ·obtain⟨hlt,op,dp,Sh',F',hop,hdp,htp,hF,hwp⟩:=g5 p hp;have hDp:l.getD p.1 false=true:=ke (D:=fun i=>l.getD i false=true) hC f i p.1 hdeps ha;rw[hF,g4 p.1 op dp hlt hDp hop hdp];exact hI.fact p.1 op dp hDp (by omega) hop hdp (hwp hDp) Sh' F' htp
      ·rintro v w' ⟨hst,hSh,hF,hnew⟩;refine⟨(hTt _ _ _ hI.step (by by_cases hl:late=some i;rw[if_pos hl]at hst;exact hst;rw[if_neg hl]at hst;exact hTU _ _ hst)),go v w' hst ⟨fun hf=> ?_,fun _=> ?_⟩ (fun _ Sh' F' h=> ?_) hnew⟩
       ·rw[(self v).wanted (dD _ _ _),hw]at hf;cases hf
       ·rw[ht,own];exact hSh
       ·rw[ht]at h;injection h with h;injection h with e1 e2;subst e2;exact hF
    |false=>
     have hwf:=hw;refine hW.skip ho hw (hI.step) ?_;refine go undef w (by split;exact hTU _ _ (hT1 w);exact hT1 w) ⟨fun _=>own undef,fun hf=> ?_⟩ (fun h=>by rw[hwf]at h;cases h) (fun _ g hg=>by cases hg);rw[(self undef).wanted (dD _ _ _),hwf]at hf
     cases hf
theorem rz {S':World->Prop} (hW:ku P QQ ops S' WO): ∀(fuel:Nat) (l:Array Bool) (a:Act) (w:World),kB P ops [] S WO N fuel l a w->kC WO N ops fuel l a w
 |0,_,_,_,h=>h
 |fuel+1,l,a,w,h=>⟨h.1,fun i hi=>hW.mono (fun a w h'=>rz hW fuel _ a w h') (h.2 i hi)⟩
theorem mN {TL:Act->World->Prop} (hW:oe P QQ ops WO) {a:Act} {w:World} (m f:Nat) (tab:yy) (late:Option Nat) (nw:Nat->Bool) (T U:World->World->Prop) (hok:rG [] ops m a.tmps.size=true)
  (hTL: ∀(l:Array Bool) (a:Act) (w:World),l.size=ops.size->(∀i,i<ops.size->l.getD i true=decide (i<m))->TL a w->kC WO N ops (ops.size-m+0) l a w)
  (hTr: ∀w,T w w) (hTt: ∀a b c,U a b->U b c->U a c) (hTU: ∀a b,T a b->U a b) (hTT: ∀a b c,T a b->T b c->T a c) (hTs: ∀i Sh F,tab i=some (Sh,F)-> ∀v w w',F v w->T w w'->F v w')
  (hUs: ∀i Sh F,late≠some i->tab i=some (Sh,F)-> ∀v w w',F v w->U w w'->F v w')
  (hNw: ∀i,nw i=true-> ∃Sh F,tab i=some (Sh,F)/\ ∀v w,F v w-> ∀g,pB v=some g->g<w.heap.size)
  (h:dU P QQ ops f tab late nw T U w.drew (fun a Φ=> ∀w',U w.drew w'->(∀p∈Φ,p.2 w')->oh ops m nw (fun _=>True) a->TL a w') (ops.toList.take m) 0 a []):kC WO N ops ops.size (Array.replicate ops.size false) a w.drew:=by
 have hu:qm m (Array.replicate ops.size false)=m:=by
  have: ∀k,k<=ops.size->qm k (Array.replicate ops.size false)=k:=by
   intro k
   induction k with
   |zero=>intro _;rfl
   |succ k ih=>
    intro hk;rw[lp,ih (by omega),if_pos];simp[aq,show k<ops.size from by omega]
  exact this m (oM hok)
 have:=oR (pre:=[]) (TL:=TL) rfl (fun j hj=>by cases hj) hTL (hW.toS (S:=U w.drew)) hok (hTU _ _ (hTr w.drew)) hTt hTU hTT hTs hUs hTr hNw h m (Array.replicate ops.size false) a w.drew hu.symm (by simp) (fun i hi _=>by simp[aq,hi])
  (fun i j hi=>by
   simp only[aq,c8]at hi
   split at hi<;>simp at hi)
  ⟨hTU _ _ (hTr _),fun _=>hTr _,rfl,rfl,fun _ _=>rfl,fun i o d hi=>by
   simp only[aq,c8]at hi;split at hi<;>simp at hi,fun i o d hi=>by
   simp only[aq,c8]at hi;split at hi<;>simp at hi,fun i j oi oj di dj hi=>by
   simp only[aq,c8]at hi
   split at hi<;>simp at hi⟩
 rw[show ops.size-m+m=ops.size from by have:=oM hok;omega]at this;exact rz (hW.toS (S:=U w.drew)) _ _ _ _ this
theorem dU.fin {P:Program} {ops:Array Oper} {f:Nat} {tab:yy} {late:Option Nat} {nw:Nat->Bool} {T U:World->World->Prop} {w0:World} {Fin Fin':Act->List (Nat×(World->Prop))->Prop} (hF: ∀a Φ,Fin a Φ->Fin' a Φ):
  ∀(l:List Oper) (i:Nat) (a:Act) (Φ:List (Nat×(World->Prop))),dU P QQ ops f tab late nw T U w0 Fin l i a Φ->dU P QQ ops f tab late nw T U w0 Fin' l i a Φ
 | [],_,a,Φ,h=>hF a Φ h
 |o::rest,i,a,Φ,h=>by
  refine⟨fun hw=>dU.fin hF rest _ _ _ (h.1 hw),fun hw=> ?_⟩;have h2:=h.2 hw
  cases ht:tab i with
  |none=>
   rw[ht]at h2;obtain⟨v,h3,h4⟩:=h2;exact⟨v,h3,dU.fin hF rest _ _ _ h4⟩
  |some sf=>
   obtain⟨Sh,F⟩:=sf;rw[ht]at h2;obtain⟨h3,h4,h5⟩:=h2;exact⟨h3,h4,fun v hv=>dU.fin hF rest _ _ _ (h5 v hv)⟩
theorem rS (hW:oe P QQ ops WO) (hok:A6 ops m size=true) (l:Array Bool) (a:Act) (w:World) (hl:l.size=ops.size) (h: ∀i,i<ops.size->l.getD i true=decide (i<m)) (ht:mC WO N (List.range' m (ops.size-m)) a w):kC WO N ops (ops.size-m+0) l a w:=
 qs (hW.toS (S:=fun _=>True)) (mG hok).1 (mG hok).2 (ops.size-m+0) m l a w (by omega) (ag _) (oM (mG hok).1) hl h ht
theorem gL {Q:Exit->Act->World->Prop}:oe P Q ops (wpOp P ops Q) where
 mono:=wpOp_mono
 skip:=fun ho hw h=>by unfold wpOp;simp only[ho,hw];exact h
 run:=fun ho hw _ h=>by
  unfold wpOp;simp only[ho,hw,if_true];refine .inl ?_;unfold Oper.wp at*;generalize (execOp _ _).run P _=r at*
  cases r with
  |ok x w'=>
   cases x<;>simp only[Oper.upon]at h⊢ <;>first
    |exact h
    |exact Calls.mono h (fun e w'' he=>by cases e<;>first|exact he|exact he _ rfl|exact(by obtain⟨x,y,hx⟩:=he;exact⟨x,y,hx x rfl⟩))
  |halt x w'=>cases x<;>simp only[Oper.upon]at h⊢;exact h _ rfl
theorem jw {Q:Exit->Act->World->Prop}: ∀(f:Nat) (l:Array Bool) (a:Act) (w:World),kC (wpOp P ops Q) (Q .normal) ops f l a w->wpAny P .any ops Q f l a w
 |0,_,_,_,h=>h
 |f+1,_,_,_,h=>⟨h.1,fun i hi=>wpOp_mono (fun a w=>jw f _ a w) (h.2 i hi)⟩
theorem oG {Q:Exit->Act->World->Prop}: ∀(l:List Nat),mC (wpOp P ops Q) (Q .normal) l=wpOps P ops Q l
 | []=>by funext a w;rfl
 |i::l=>by funext a w;rw[wpOps_cons,<-oG l];rfl
theorem qt {Q:Exit->Act->World->Prop} (m:Nat):mC (wpOp P ops Q) (Q .normal) (List.range' m (ops.size-m))=wpList P ops Q (ops.toList.drop m):=by
 rw[oG,<-wpOps_eq_wpList (P:=P) (ops:=ops) (Q:=Q) (ops.toList.drop m) m (fun j=>by simp),bg,Array.length_toList]
theorem eW {id:Nat} {Q:Exit->Act->World->Prop} {a:Act} {w:World} (m f:Nat) (tab:yy) (late:Option Nat) (T U:World->World->Prop) (hm:P.follows .mixedOrders=true) (hok:A6 ops m a.tmps.size=true)
  (hTr: ∀w,T w w) (hTt: ∀a b c,U a b->U b c->U a c) (hTU: ∀a b,T a b->U a b) (hTT: ∀a b c,T a b->T b c->T a c) (hTs: ∀i Sh F,tab i=some (Sh,F)-> ∀v w w',F v w->T w w'->F v w')
  (hUs: ∀i Sh F,late≠some i->tab i=some (Sh,F)-> ∀v w w',F v w->U w w'->F v w')
  (h:dU P Q ops f tab late (fun _=>false) T U w.drew (fun a Φ=> ∀w',U w.drew w'->(∀p∈Φ,p.2 w')->wpList P ops Q (ops.toList.drop m) a w') (ops.toList.take m) 0 a []):(Code.region id ops true).wp P Q a w:=by
 refine wp_region_any hm (jw _ _ _ _ (mN gL m f tab late (fun _=>false) T U (mG hok).1 (rS gL hok) hTr hTt hTU hTT hTs hUs (fun i h=>by cases h) ?_));rw[qt];exact dU.fin (fun a Φ h w' h1 h2 _=>h w' h1 h2) _ _ _ _ h
def qF (n m:Nat):Array Bool:=Array.ofFn (n:=n) fun i=>decide (i.val<m)
theorem wI {n m:Nat} {l:Array Bool} (hl:l.size=n) (h: ∀i,i<n->l.getD i true=decide (i<m)):l=qF n m:=by
 apply Array.ext
 ·simp[qF,hl]
 ·intro i hi hi';have h1:=h i (by omega);simp only[aq,bB hi,bz]at h1;simp only[qF,Array.getElem_ofFn];exact h1
theorem l4 {id:Nat} {Q:Exit->Act->World->Prop} {a:Act} {w:World} (m f:Nat) (tab:yy) (late:Option Nat) (T U:World->World->Prop) (hm:P.follows .mixedOrders=true) (hok:rG [] ops m a.tmps.size=true)
  (hTr: ∀w,T w w) (hTt: ∀a b c,U a b->U b c->U a c) (hTU: ∀a b,T a b->U a b) (hTT: ∀a b c,T a b->T b c->T a c) (hTs: ∀i Sh F,tab i=some (Sh,F)-> ∀v w w',F v w->T w w'->F v w')
  (hUs: ∀i Sh F,late≠some i->tab i=some (Sh,F)-> ∀v w w',F v w->U w w'->F v w')
  (h:dU P Q ops f tab late (fun _=>false) T U w.drew (fun a Φ=> ∀w',U w.drew w'->(∀p∈Φ,p.2 w')->kC (wpOp P ops Q) (Q .normal) ops (ops.size-m) (qF ops.size m) a w') (ops.toList.take m) 0 a []):(Code.region id ops true).wp P Q a w:=by
 refine wp_region_any hm (jw _ _ _ _ (mN gL m f tab late (fun _=>false) T U hok (fun l a w hl h ht=>by rw[wI hl h];exact ht) hTr hTt hTU hTT hTs hUs (fun i h=>by cases h) ?_));exact dU.fin (fun a Φ h w' h1 h2 _=>h w' h1 h2) _ _ _ _ h
theorem bh {Q:Exit->Act->World->Prop} {f:Nat} {l:Array Bool} {a:Act} {w:World} (is:List Nat) (hr:Region.ready .any ops l=is) (hn:is≠ []) (h: ∀i,i∈is->wpOp P ops Q i (kC (wpOp P ops Q) (Q .normal) ops f (l.setIfInBounds i true)) a w):kC (wpOp P ops Q) (Q .normal) ops (f+1) l a w:=by
 subst hr;exact⟨fun e=>absurd e hn,h⟩
theorem aR {Q:Exit->Act->World->Prop} {i:Nat} {K:Act->World->Prop} {a:Act} {w:World} {o:Oper} (ho:ops[i]? =some o) (hw:Region.wanted o (yielded ops a.tmps)=true) (h:o.wp P a w K Q):wpOp P ops Q i K a w:=by
 unfold wpOp;simp only[ho,hw,if_true];exact .inl h
theorem je {Q:Exit->Act->World->Prop} {l:Array Bool} {a:Act} {w:World} (hr:Region.ready .any ops l=[]) (h:Q .normal a w):kC (wpOp P ops Q) (Q .normal) ops 0 l a w:=⟨hr,h⟩
end
abbrev tU:=Nat×(Value->Prop)×(Value->World->Prop)
def ee:List tU->yy
 | []=>fun _=>none
 |p::l=>fun i=>if i=p.1 then some p.2 else ee l i
def iX (T:World->World->Prop):List tU->Prop
 | []=>True
 |p::l=>(∀v w w',p.2.2 v w->T w w'->p.2.2 v w')/\iX T l
theorem iX.out {T:World->World->Prop}: ∀{l:List tU},iX T l-> ∀i Sh F,ee l i=some (Sh,F)-> ∀v w w',F v w->T w w'->F v w'
 | [],_,i,Sh,F,h=>by simp[ee]at h
 |p::l,hs,i,Sh,F,h=>by
  simp only[ee]at h;split at h
  ·injection h with h;intro v w w' hF hT;have:=hs.1 v w w';rw[h]at this;exact this hF hT
  ·exact iX.out hs.2 i Sh F h
section
variable {QQ:Exit->Act->World->Prop}
variable {f:Nat} {tab:yy} {late:Option Nat} {nw:Nat->Bool} {T U:World->World->Prop} {w0:World} {Fin:Act->List (Nat×(World->Prop))->Prop} {o:Oper} {rest:List Oper} {i:Nat} {a:Act} {Φ:List (Nat×(World->Prop))}
theorem bP (hw:Region.wanted o (yielded ops a.tmps)=false) (h:dU P QQ ops f tab late nw T U w0 Fin rest (i+1) (a.put o.dst undef) Φ):dU P QQ ops f tab late nw T U w0 Fin (o::rest) i a Φ:=
 ⟨fun _=>h,fun h'=>by rw[hw]at h';cases h'⟩
theorem ut (v:Value) (hw:Region.wanted o (yielded ops a.tmps)=true) (ht:tab i=none) (hr: ∀w,U w0 w->(execOp a.eval o).run P w= .ok (.value v) w)
  (h:dU P QQ ops f tab late nw T U w0 Fin rest (i+1) (a.put o.dst v) Φ):dU P QQ ops f tab late nw T U w0 Fin (o::rest) i a Φ:=
 ⟨fun h'=>(by rw[hw]at h';cases h'),fun _=>by rw[ht];exact⟨v,hr,h⟩⟩
theorem bZ (Sh:Value->Prop) (F:Value->World->Prop) (hw:Region.wanted o (yielded ops a.tmps)=true) (ht:tab i=some (Sh,F)) (he: ∃v,Sh v) (hl:late≠some i)
  (hy: ∀w,U w0 w->(∀p∈Φ,mz ops f i p.1=true->p.2 w)-> ∀(K:Act->World->Prop),(∀v w',T w w'->Sh v->F v w'->K (a.put o.dst v) w')->o.wp P a w K (yo QQ))
  (h: ∀v,Sh v->dU P QQ ops f tab late nw T U w0 Fin rest (i+1) (a.put o.dst v) ((i,F v)::Φ)) (hn:nw i=false:=by rfl):dU P QQ ops f tab late nw T U w0 Fin (o::rest) i a Φ:=
 ⟨fun h'=>(by rw[hw]at h';cases h'),fun _=>by
  rw[ht]
  exact⟨he,fun w hU hp K hK=>hy w (by rw[if_neg hl]at hU;exact hU) hp K fun v w' h1 h2 h3=>hK v w' ⟨by rw[if_neg hl];exact h1,h2,h3,fun h'=>by rw[hn]at h';cases h'⟩,h⟩⟩
theorem sx (v:Value) (hr: ∀w,U w0 w->(execOp a.eval o).run P w= .ok (.value v) w) (h:dU P QQ ops f tab late nw T U w0 Fin rest (i+1) (a.put o.dst v) Φ)
  (hw:Region.wanted o (yielded ops a.tmps)=true:=by rfl) (ht:tab i=none:=by rfl):dU P QQ ops f tab late nw T U w0 Fin (o::rest) i a Φ:=ut v hw ht hr h
theorem so {Sh:Value->Prop} {F:Value->World->Prop} (hy: ∀w,U w0 w->(∀p∈Φ,mz ops f i p.1=true->p.2 w)-> ∀(K:Act->World->Prop),(∀v w',T w w'->Sh v->F v w'->K (a.put o.dst v) w')->o.wp P a w K (yo QQ))
  (h: ∀v,Sh v->dU P QQ ops f tab late nw T U w0 Fin rest (i+1) (a.put o.dst v) ((i,F v)::Φ)) (hw:Region.wanted o (yielded ops a.tmps)=true:=by rfl) (ht:tab i=some (Sh,F):=by rfl) (he: ∃v,Sh v:=by exact⟨_,rfl⟩) (hl:late≠some i:=by simp) (hn:nw i=false:=by rfl):dU P QQ ops f tab late nw T U w0 Fin (o::rest) i a Φ:=bZ Sh F hw ht he hl hy h hn
theorem bG (Sh:Value->Prop) (F:Value->World->Prop) (hw:Region.wanted o (yielded ops a.tmps)=true) (ht:tab i=some (Sh,F)) (he: ∃v,Sh v) (hl:late=some i)
  (hy: ∀w,T w0 w->(∀p∈Φ,mz ops f i p.1=true->p.2 w)-> ∀(K:Act->World->Prop),(∀v w',U w w'->Sh v->F v w'->K (a.put o.dst v) w')->o.wp P a w K (yo QQ))
  (h: ∀v,Sh v->dU P QQ ops f tab late nw T U w0 Fin rest (i+1) (a.put o.dst v) ((i,F v)::Φ)) (hn:nw i=false:=by rfl):dU P QQ ops f tab late nw T U w0 Fin (o::rest) i a Φ:=
 ⟨fun h'=>(by rw[hw]at h';cases h'),fun _=>by
  rw[ht]
  exact⟨he,fun w hU hp K hK=>hy w (by rw[if_pos hl]at hU;exact hU) hp K fun v w' h1 h2 h3=>hK v w' ⟨by rw[if_pos hl];exact h1,h2,h3,fun h'=>by rw[hn]at h';cases h'⟩,h⟩⟩
end
end
def au (w w':World):Prop:=RowKit.Below w.heap.size w w'
theorem au.refl (w:World):au w w:=RowKit.Below.refl _ _
theorem au.size {w w':World} (h:au w w'):w.heap.size<=w'.heap.size:=RowKit.Below.size h
theorem au.obj {w w':World} (h:au w w') {b:Nat} (hb:b<w.heap.size):w'.heap[b]? =w.heap[b]? :=RowKit.Below.block h b hb
theorem au.trans {a b c:World} (h:au a b) (k:au b c):au a c:=RowKit.Below.trans h (RowKit.Below.mono k h.size)
theorem au.un {w w':World} (h:au w.drew w'):au w w':=⟨h.os,h.tape,h.output,h.size,h.block⟩
theorem ay {P:Program} {ops:Array Oper} {id:Nat} {Q:Exit->Act->World->Prop} {a:Act} {w:World} (m f:Nat) (l:List tU) (hm:P.follows .mixedOrders=true) (hok:A6 ops m a.tmps.size=true) (hs:iX au l)
  (h:dU P Q ops f (ee l) none (fun _=>false) au au w.drew (fun a Φ=> ∀w',au w.drew w'->(∀p∈Φ,p.2 w')->wpList P ops Q (ops.toList.drop m) a w') (ops.toList.take m) 0 a []):(Code.region id ops true).wp P Q a w:=
 eW m f (ee l) none au au hm hok au.refl (fun _ _ _=>au.trans) (fun _ _ h=>h) (fun _ _ _=>au.trans) hs.out (fun i Sh F _=>hs.out i Sh F) h
def lr (x:Nat) (T:World->World->Prop):List tU->Prop
 | []=>True
 |p::l=>(p.1=x\/ ∀v w w',p.2.2 v w->T w w'->p.2.2 v w')/\lr x T l
theorem lr.out {x:Nat} {T:World->World->Prop}: ∀{l:List tU},lr x T l-> ∀i Sh F,some x≠some i->ee l i=some (Sh,F)-> ∀v w w',F v w->T w w'->F v w'
 | [],_,i,Sh,F,_,h=>by simp[ee]at h
 |p::l,hs,i,Sh,F,hx,h=>by
  simp only[ee]at h;split at h
  ·rename_i hi;injection h with h;intro v w w' hF hT;have:=(hs.1.resolve_left (fun e=>hx (by rw[hi,e]))) v w w';rw[h]at this;exact this hF hT
  ·exact lr.out hs.2 i Sh F hx h
theorem au.grownBy {w w':World} (he:au w w') (row:Option Nat):w.grownBy w' row:=⟨he.os,he.tape,he.output,he.size,fun k hk _=>he.obj hk⟩
theorem ak {a b c:World} {row:Option Nat} (h:a.grownBy b row) (k:b.grownBy c row):a.grownBy c row:=
 ⟨k.os.trans h.os,k.tape.trans h.tape,k.output.trans h.output,aT h.size k.size,fun i hi hn=>(k.block i (az hi h.size) hn).trans (h.block i hi hn)⟩
theorem aE {w w':World} {row:Option Nat} (h:w.drew.grownBy w' row):w.grownBy w' row:=⟨h.os,h.tape,h.output,h.size,h.block⟩
theorem bO {P:Program} {ops:Array Oper} {id:Nat} {Q:Exit->Act->World->Prop} {a:Act} {w:World} (m f:Nat) (l:List tU) (x:Nat) (row:Option Nat) (hm:P.follows .mixedOrders=true) (hok:A6 ops m a.tmps.size=true)
  (hs:iX au l) (hx:lr x (fun w w'=>w.grownBy w' row) l)
  (h:dU P Q ops f (ee l) (some x) (fun _=>false) au (fun w w'=>w.grownBy w' row) w.drew (fun a Φ=> ∀w',w.drew.grownBy w' row->(∀p∈Φ,p.2 w')->wpList P ops Q (ops.toList.drop m) a w') (ops.toList.take m) 0 a []):(Code.region id ops true).wp P Q a w:=
 eW m f (ee l) (some x) au (fun w w'=>w.grownBy w' row) hm hok au.refl (fun _ _ _=>ak) (fun _ _ h=>h.grownBy _) (fun _ _ _=>au.trans) hs.out hx.out h
theorem jD {P:Program} {ops:Array Oper} {id:Nat} {Q:Exit->Act->World->Prop} {a:Act} {w:World} (m f:Nat) (l:List tU) (x:Nat) (row:Option Nat) (hm:P.follows .mixedOrders=true) (hok:rG [] ops m a.tmps.size=true)
  (hs:iX au l) (hx:lr x (fun w w'=>w.grownBy w' row) l)
  (h:dU P Q ops f (ee l) (some x) (fun _=>false) au (fun w w'=>w.grownBy w' row) w.drew (fun a Φ=> ∀w',w.drew.grownBy w' row->(∀p∈Φ,p.2 w')->kC (wpOp P ops Q) (Q .normal) ops (ops.size-m) (qF ops.size m) a w') (ops.toList.take m) 0 a []):(Code.region id ops true).wp P Q a w:=
 l4 m f (ee l) (some x) au (fun w w'=>w.grownBy w' row) hm hok au.refl (fun _ _ _=>ak) (fun _ _ h=>h.grownBy _) (fun _ _ _=>au.trans) hs.out hx.out h
def dz (Q:Exit->Act->World->Prop):Exit->Act->World->Prop:=fun e a w=>match e with
 | .normal=>Q .normal a w
 | _=>False
theorem dz.imp {Q:Exit->Act->World->Prop}: ∀(e:Exit) (a:Act) (w:World),dz Q e a w->Q e a w:=fun e a w h=>by
 cases e<;>first|exact h|exact(h:False).elim
section
variable {P:Program} {ops:Array Oper} {Q:Exit->Act->World->Prop} {S:World->Prop}
def BM (P:Program) (ops:Array Oper) (Q:Exit->Act->World->Prop) (S:World->Prop) (i:Nat) (K:Act->World->Prop) (a:Act) (w:World):Prop:=wpOp P ops Q i (fun a' w'=>S w'/\K a' w') a w
theorem j0:ku P Q ops S (BM P ops Q S) where
 mono:=fun h=>wpOp_mono fun a w hk=>⟨hk.1,h a w hk.2⟩
 skip:=fun ho hw hs h=>by unfold BM wpOp;simp only[ho,hw];exact⟨hs,h⟩
 run:=fun ho hw hd h=>by
  have:=gL (P:=P) (ops:=ops) (Q:=Q).run ho hw hd h;exact this
def mB (P:Program) (QQ:Exit->Act->World->Prop) (ops:Array Oper) (N:Act->World->Prop) (S:World->Prop):List Oper->Act->World->Prop
 | [],a,w=>N a w
 |o::l,a,w=>Region.wanted o (yielded ops a.tmps)=true/\(∀c,o.op≠ .defer c)/\o.wp P a w (fun a' w'=>S w'/\mB P QQ ops N S l a' w') (yo QQ)
theorem aI {QQ:Exit->Act->World->Prop} {N:Act->World->Prop} {o:Oper} {l:List Oper} {a:Act} {w:World} (hw:Region.wanted o (yielded ops a.tmps)=true) (hd: ∀c,o.op≠ .defer c)
  (h: ∀K:Act->World->Prop,(∀a' w',S w'->mB P QQ ops N S l a' w'->K a' w')->o.wp P a w K (yo QQ)):mB P QQ ops N S (o::l) a w:=⟨hw,hd,h _ fun _ _ h1 h2=>⟨h1,h2⟩⟩
theorem cr {QQ Q:Exit->Act->World->Prop} {a:Act} {w:World} (h:wpList P ops Q [] a w):mB P QQ ops (Q .normal) S [] a w:=h
theorem np {N:Act->World->Prop}: ∀(n k:Nat) (a:Act) (w:World),k+n=ops.size->mB P Q ops N S (ops.toList.drop k) a w->mC (BM P ops Q S) N (List.range' k n) a w
 |0,k,a,w,hk,h=>by
  rw[aD (by simp;omega)]at h;exact h
 |n+1,k,a,w,hk,h=>by
  have hl:k<ops.toList.length:=by simp;omega
  rw[aw hl]at h;obtain⟨h1,h2,h3⟩:=h;have ho:ops[k]? =some ops.toList[k]:=by simp
  show BM P ops Q S k (mC (BM P ops Q S) N (List.range' (k+1) n)) a w;refine j0.run ho h1 h2 ?_;refine stepOk_mono h3 fun a' w' hk'=>⟨hk'.1,np n (k+1) a' w' (by omega) hk'.2⟩
where
 stepOk_mono {o:Oper} {a:Act} {w:World} {K K':Act->World->Prop} (h:o.wp P a w K (yo Q)) (hk: ∀a w,K a w->K' a w):o.wp P a w K' (yo Q):=Oper.wp_mono hk h
variable {m size:Nat} {pre:List Nat}
theorem my {tk:List Nat} (hns:Region.noSelect ops=true) (htk:yF ops tk m=true) (hQ: ∀c a w,¬Q (.panic c) a w): ∀(fuel:Nat) (l:Array Bool) (a:Act) (w:World),S w->h_ ops (fun i=>l.getD i false=true)->l.size=ops.size->
  kB P ops tk S (BM P ops Q S) (Q .normal) fuel l a w->wpAnyH P .any ops Q S fuel l a w
 |0,_,_,_,_,_,_,h=>h
 |fuel+1,l,a,w,hS,hC,hl,h=>by
  have hset: ∀i,i∈Region.ready .any ops l->h_ ops (fun j=>(l.setIfInBounds i true).getD j false=true):=fun i hi j k hj hjk=>by
   obtain⟨_,o,ho,h2⟩:=eK.1 hi;have hilt:=(Array.getElem?_eq_some_iff.1 ho).1;have set: ∀j,(l.setIfInBounds i true).getD j false=if j=i then true else l.getD j false:=fun j=>by
    simp only[aq,bm];by_cases h:i=j
    ·subst h;simp[hl,hilt]
    ·rw[if_neg h,if_neg (fun e=>h e.symm)]
   simp only[set]at hj⊢;by_cases hki:k=i
   ·rw[if_pos hki]
   ·rw[if_neg hki];by_cases hji:j=i
    ·subst hji;obtain⟨e,he,hb,hon⟩:=(iw ho).1 hjk;rw[<-hon];exact h2 e he hb
    ·rw[if_neg hji]at hj;exact hC j k hj hjk
  cases hft:jt ops tk l with
  |some i=>
   simp only[kB,hft]at h;obtain⟨v,o,ho,hy,hr⟩:=h;obtain⟨hit,hi⟩:=mJ hft;refine wpAnyH_first ho (Region.noSelect_spec hns) (fun c a w h=>absurd h (hQ c _ _)) fuel l a w ?_ hi hy hS (my hns htk hQ fuel _ _ _ hS (hset i hi) (by simpa using hl) hr);intro j oj hoj hji hun hno;refine ui htk hit ho hoj hji ?_ ?_
   ·rw[Bool.eq_false_iff];intro hd;obtain⟨e,he,hb,hon⟩:=(iw hoj).1 hd;exact hno e he hb hon
   ·rw[Bool.eq_false_iff];intro ha;obtain⟨_,o',ho',h2⟩:=eK.1 hi
    have hd:=ke (D:=fun i=>l.getD i false=true) hC 4 i j (fun k hk=>by
     obtain⟨e,he,hb,hon⟩:=(iw ho').1 hk
     rw[<-hon];exact h2 e he hb) ha
    have hjl:j<l.size:=by rw[hl];exact(Array.getElem?_eq_some_iff.1 hoj).1
    simp only[aq,bB hjl,bz]at hd hun;rw[hd]at hun
    cases hun
  |none=>
   simp only[kB,hft]at h;refine⟨h.1,fun i hi=>wpOp_mono (fun a' w' hk=>⟨hk.1,my hns htk hQ fuel _ a' w' hk.1 (hset i hi) (by simpa using hl) hk.2⟩) (h.2 i hi)⟩
theorem jC (U:World->World->Prop) (hUr: ∀w,U w w) (hUt: ∀a b c,U a b->U b c->U a c) {id:Nat} {a:Act} {w:World} (m f:Nat) (l:List tU) (ns tk:List Nat) (hm:P.follows .mixedOrders=true) (hok:BL tk ops m a.tmps.size=true) (htk:yF ops tk m=true) (hns:Region.noSelect ops=true) (htn:(tk.all fun j=>(ee l j).isNone)=true) (hs:iX U l)
  (hn: ∀i,ns.contains i=true-> ∃Sh F,ee l i=some (Sh,F)/\ ∀v w,F v w-> ∀g,pB v=some g->g<w.heap.size)
  (h:dU P (dz Q) ops f (ee l) none (fun i=>ns.contains i) U U w.drew (fun a Φ=> ∀w',U w.drew w'->(∀p∈Φ,p.2 w')->oh ops m (fun i=>ns.contains i) (fun _=>True) a->mB P (dz Q) ops (Q .normal) (U w.drew) (ops.toList.drop m) a w') (ops.toList.take m) 0 a []):(Code.region id ops true).wp P Q a w:=by
 refine Code.wp_mono dz.imp (wp_region_held (S:=U w.drew) hm ?_);have hmle:=oM (mG hok).1;have h0: ∀i,(Array.replicate ops.size false).getD i false=false:=fun i=>by
  simp only[aq,c8];split<;>rfl
 have h0': ∀i,¬(Array.replicate ops.size false).getD i false=true:=fun i h=>by rw[h0]at h;cases h
 have hC0:h_ ops (fun i=>(Array.replicate ops.size false).getD i false=true):=fun i j hi=>absurd hi (h0' i);have hu:qm m (Array.replicate ops.size false)=m:=by
  have: ∀k,k<=ops.size->qm k (Array.replicate ops.size false)=k:=by
   intro k
   induction k with
   |zero=>intro _;rfl
   |succ k ih=>
    intro hk;rw[lp,ih (by omega),if_pos];simp[aq,show k<ops.size from by omega]
  exact this m hmle
 refine my (Q:=dz Q) hns htk (fun c a w h=>h) _ _ _ _ (hUr _) hC0 (by simp) ?_
 have:=oR (a0:=a) (pre:=tk) (f:=f) htk (fun j hj=>by
   have:=List.all_eq_true.1 htn j hj
   simpa using this) (qs (S:=U w.drew) j0 (mG hok).1 (mG hok).2 (ops.size-m+0) m · · · (by omega) (ag _) hmle · · ·) (j0 (P:=P) (ops:=ops) (Q:=dz Q) (S:=U w.drew)) (mG hok).1 (T:=U) (U:=U) (w0:=w.drew) (tab:=ee l) (late:=none) (nw:=fun i=>ns.contains i) (N:=dz Q .normal) (hUr _) hUt (fun _ _ h=>h) hUt
   hs.out (fun i Sh F _=>hs.out i Sh F) hUr hn
   (dU.fin (fun a Φ h w' h1 h2 h3=>np _ _ _ _ (by omega) (h w' h1 h2 h3)) _ _ _ _ h) m (Array.replicate ops.size false) a w.drew hu.symm (by simp) (fun i hi _=>by simp[aq,hi]) hC0
   ⟨hUr _,fun _=>hUr _,rfl,rfl,fun _ _=>rfl,fun i o d hi=>absurd hi (h0' i),fun i o d hi=>absurd hi (h0' i),fun i j oi oj di dj hi=>absurd hi (h0' i)⟩
 rw[show ops.size-m+m=ops.size from by omega]at this;exact this
theorem cH {id:Nat} {a:Act} {w:World} (m f:Nat) (l:List tU) (ns tk:List Nat) (hm:P.follows .mixedOrders=true) (hok:BL tk ops m a.tmps.size=true) (htk:yF ops tk m=true) (hns:Region.noSelect ops=true) (htn:(tk.all fun j=>(ee l j).isNone)=true) (hs:iX au l)
  (hn: ∀i,ns.contains i=true-> ∃Sh F,ee l i=some (Sh,F)/\ ∀v w,F v w-> ∀g,pB v=some g->g<w.heap.size)
  (h:dU P (dz Q) ops f (ee l) none (fun i=>ns.contains i) au au w.drew (fun a Φ=> ∀w',au w.drew w'->(∀p∈Φ,p.2 w')->oh ops m (fun i=>ns.contains i) (fun _=>True) a->mB P (dz Q) ops (Q .normal) (au w.drew) (ops.toList.drop m) a w') (ops.toList.take m) 0 a []):(Code.region id ops true).wp P Q a w:=
 jC au au.refl (fun _ _ _=>au.trans) m f l ns tk hm hok htk hns htn hs hn h
theorem ci {id:Nat} {a:Act} {w:World} (U:World->World->Prop) (hUr: ∀w,U w w) (hUt: ∀a b c,U a b->U b c->U a c) (m f:Nat) (l:List tU) (tk:List Nat) (hm:P.follows .mixedOrders=true) (hok:BL tk ops m a.tmps.size=true) (htk:yF ops tk m=true) (hns:Region.noSelect ops=true) (htn:(tk.all fun j=>(ee l j).isNone)=true) (hs:iX U l)
  (h:dU P (dz Q) ops f (ee l) none (fun _=>false) U U w.drew (fun a Φ=> ∀w',U w.drew w'->(∀p∈Φ,p.2 w')->mB P (dz Q) ops (Q .normal) (U w.drew) (ops.toList.drop m) a w') (ops.toList.take m) 0 a []):(Code.region id ops true).wp P Q a w:=
 jC U hUr hUt m f l [] tk hm hok htk hns htn hs (fun i hi=>by cases hi) (dU.fin (fun a Φ h w' h1 h2 _=>h w' h1 h2) _ _ _ _ h)
end
def aO:=@au.refl
def df:=@au.size
def pq:=@au.trans
end Go.Proofs.YtddomeddabfinaaGreatDoor
