/-
  Parts of the proof: Seq SeqK.
-/
import Derived.Test.YtoedmpgicdekmaaGreatDoorCq00
import Derived.Orders
import Derived.Tactics
import Derived.Below
import Derived.OrdersHeld
set_option maxRecDepth 100000
set_option maxHeartbeats 8000000
set_option linter.unusedVariables false
set_option linter.unusedSimpArgs false
set_option linter.defProp false
set_option linter.unusedSectionVars false
namespace Go.Proofs.YtoedmpgicdekmaaGreatDoor
open Go
theorem bH (a : Act) (d : Nat) (v : Value) : Act.put a (some d) v = { a with tmps := a.tmps.setIfInBounds d v } := rfl
theorem bD (a : Act) (v : Value) : Act.put a none v = a := rfl
theorem bG {α : Type _} (l : List α) (i : Nat) (a : α) : l.toArray.setIfInBounds i a = (l.set i a).toArray := cv ..
theorem bF {α : Type _} (a b : α) (l : List α) : (a :: l).set 0 b = b :: l := rfl
theorem bE {α : Type _} (a b : α) (l : List α) (n : Nat) : (a :: l).set (n + 1) b = a :: l.set n b := rfl
def dn (a:Act) (t:Nat):Value:=a.tmps.getD t undef
def jV (ops:Array Oper) (i j:Nat):Bool:=(ops[i]?).any fun o=>o.after.any fun e=>Region.binds .any e&&e.on==j
def ma (ops:Array Oper):Nat->Nat->Nat->Bool
 |0,i,j=>jV ops i j
 |f+1,i,j=>(ops[i]?).any fun o=>o.after.any fun e=>Region.binds .any e&&(e.on==j||ma ops f e.on j)
def zk:Op->Bool
 | .select .. =>true
 | .defer _=>true
 | _=>false
def uW (pre:List Nat) (ops:Array Oper) (m size:Nat):Bool:=
 decide (m<=ops.size)&&
 (List.range ops.size).all (fun i=>match ops[i]? with
  |some o=>o.after.all fun e=> !Region.binds .any e||decide (e.on<i)
  |none=>false)&&
 (List.range m).all (fun i=>match ops[i]? with
  |some o=> !zk o.op&&(match o.dst with
    |some d=>decide (d<size)&&(List.range m).all fun j=>j==i||(match ops[j]? with|some oj=>oj.dst !=some d|none=>false)
    |none=>false)&&
   (List.range m).all fun j=>match (ops[j]?).bind (·.dst)with|some dj=> !(o.looksAt ops).contains dj||jV ops i j|none=>false
  |none=>false)&&
 (List.range (ops.size-m)).all (fun k=>(List.range m).all (fun j=>pre.contains j||ma ops 4 (m+k) j))
abbrev Cf:=Nat->Option ((Value->Prop)×(Value->World->Prop))
def pB (v:Value):Option Nat:=match v with
 | .pointer (some a)=>some a.block
 | _=>none
def xC (Q:Exit->Act->World->Prop):Exit->Act->World->Prop:=fun e a w=> ∀a',a'.defers=a.defers->Q e a' w
def Yl (P:Program) (QQ:Exit->Act->World->Prop) (o:Oper) (a:Act) (w:World) (R:Value->World->Prop):Prop:=
 ∀(K:Act->World->Prop),(∀v w',R v w'->K (a.put o.dst v) w')->o.wp P a w K (xC QQ)
def eF (P:Program) (QQ:Exit->Act->World->Prop) (ops:Array Oper) (f:Nat) (tab:Cf) (late:Option Nat) (nw:Nat->Bool) (T U:World->World->Prop) (w0:World) (Fin:Act->List (Nat×(World->Prop))->Prop):List Oper->Nat->Act->List (Nat×(World->Prop))->Prop
 | [],_,a,Φ=>Fin a Φ
 |o::rest,i,a,Φ=>
  (Region.wanted o (yielded ops a.tmps)=false->eF P QQ ops f tab late nw T U w0 Fin rest (i+1) (a.put o.dst undef) Φ)/\
  (Region.wanted o (yielded ops a.tmps)=true->
   match tab i with
   |none=> ∃v,(∀w,U w0 w->(execOp a.eval o).run P w= .ok (.value v) w)/\eF P QQ ops f tab late nw T U w0 Fin rest (i+1) (a.put o.dst v) Φ
   |some (Sh,F)=>(∃v,Sh v)/\
    (∀w,(if late=some i then T w0 w else U w0 w)->(∀p∈Φ,ma ops f i p.1=true->p.2 w)->Yl P QQ o a w (fun v w'=>(if late=some i then U w w' else T w w')/\Sh v/\F v w'/\(nw i=true-> ∀g,pB v=some g->w.heap.size<=g)))/\
    ∀v,Sh v->eF P QQ ops f tab late nw T U w0 Fin rest (i+1) (a.put o.dst v) ((i,F v)::Φ))
section
variable {QQ:Exit->Act->World->Prop}
variable {P:Program} {ops:Array Oper} {m size:Nat} {pre:List Nat}
theorem pS (h:uW pre ops m size=true):m<=ops.size:=by
 simp only[uW,ak,decide_eq_true_eq]at h;exact h.1.1.1
theorem pR (h:uW pre ops m size=true) {i:Nat} {o:Oper} (hi:ops[i]? =some o): ∀e∈o.after,Region.binds .any e=true->e.on<i:=by
 simp only[uW,ak]at h;have h2:=h.1.1.2;rw[cB]at h2;have:=h2 i (by rw[dX];exact(Array.getElem?_eq_some_iff.1 hi).1);rw[hi]at this;simp only[ei,dh,Bool.not_eq_true',decide_eq_true_eq]at this;exact fun e he hb=>(this e he).resolve_left (by rw[hb];simp)
theorem gY (h:uW pre ops m size=true) {i:Nat} (hi:i<m): ∃o d,ops[i]? =some o/\o.dst=some d/\d<size/\(∀cs b,o.op≠ .select cs b)/\(∀c,o.op≠ .defer c)/\
  (∀j,j<m->j≠i-> ∀oj,ops[j]? =some oj->oj.dst≠some d)/\
  (∀j,j<m-> ∀oj dj,ops[j]? =some oj->oj.dst=some dj->dj∈o.looksAt ops->jV ops i j=true):=by
 simp only[uW,ak]at h;have h2:=h.1.2;rw[cB]at h2;have:=h2 i (by rw[dX];exact hi)
 cases ho:ops[i]? with
 |none=>rw[ho]at this;cases this
 |some o=>
  rw[ho]at this;simp only[ak]at this;obtain⟨⟨h3,h4⟩,h5⟩:=this
  cases hd:o.dst with
  |none=>rw[hd]at h4;cases h4
  |some d=>
   rw[hd]at h4;simp only[ak,decide_eq_true_eq,cB,dX,dh,beq_iff_eq]at h4 h5;refine⟨o,d,rfl,hd,h4.1,?_,?_,?_,?_⟩;rotate_left
   ·intro c e;rw[e]at h3;simp[zk]at h3
   rotate_right
   ·intro cs b e;rw[e]at h3;simp[zk]at h3
   ·intro j hj hji oj hoj;have:=(h4.2 j hj).resolve_left hji;rw[hoj]at this;simpa using this
   ·intro j hj oj dj hoj hdj hin;have:=h5 j hj;rw[hoj]at this;simp only[eA,hdj,dh,Bool.not_eq_true']at this;rcases this with h6|h6
    ·simp at h6;exact absurd hin h6
    ·exact h6
theorem Bk (h:uW pre ops m size=true) {i:Nat} (h1:m<=i) (h2:i<ops.size): ∀j,j<m->j∉pre->ma ops 4 i j=true:=by
 simp only[uW,ak]at h;have h3:=h.2;rw[cB]at h3;have:=h3 (i-m) (by rw[dX];omega);simp only[cB,dX,dh]at this;rw[show m+(i-m)=i from by omega]at this;exact fun j hj hp=>(this j hj).resolve_left (fun h=>hp (by simpa using h))
def Ft (ops:Array Oper) (m:Nat):Bool:=(List.range (ops.size-m)).all fun k=>k==0||jV ops (m+k) (m+k-1)
def Ea (pre:List Nat) (ops:Array Oper) (m size:Nat):Bool:=uW pre ops m size&&Ft ops m
def EH (ops:Array Oper) (m size:Nat):Bool:=Ea [] ops m size
theorem mW (h:Ea pre ops m size=true):uW pre ops m size=true/\Ft ops m=true:=by
 unfold Ea at h;exact(ak _ _).mp h
theorem yW (h:Ft ops m=true) {i:Nat} (h1:m<=i) (h2:i<ops.size):i=m\/jV ops i (i-1)=true:=by
 have:=List.all_eq_true.1 h (i-m) (by rw[dX];omega);simp only[dh,beq_iff_eq]at this;rw[show m+(i-m)=i from by omega]at this;rcases this with h|h
 ·exact .inl (by omega)
 ·exact .inr h
def iv (ops:Array Oper) (D:Nat->Prop):Prop:= ∀i j,D i->jV ops i j=true->D j
theorem iv.anc {D:Nat->Prop} (h:iv ops D): ∀(f i j:Nat),D i->ma ops f i j=true->D j
 |0,i,j,hi,ha=>h i j hi ha
 |f+1,i,j,hi,ha=>by
  simp only[ma,fO]at ha;obtain⟨o,ho,ha⟩:=ha;rw[dY]at ha;obtain⟨e,he,hb⟩:=ha;simp only[ak,dh,beq_iff_eq]at hb;have hd:jV ops i e.on=true:=by
   simp only[jV,fO];refine⟨o,ho,?_⟩;rw[dY];exact⟨e,he,by simp[hb.1]⟩
  rcases hb.2 with hx|hx
  ·rw[<-hx];exact h i _ hi hd
  ·exact iv.anc h f _ _ (h i _ hi hd) hx
theorem kr {D:Nat->Prop} (h:iv ops D) (f i j:Nat) (hd: ∀k,jV ops i k=true->D k) (ha:ma ops f i j=true):D j:=by
 cases f with
 |zero=>exact hd j ha
 |succ f=>
  simp only[ma,fO]at ha;obtain⟨o,ho,ha⟩:=ha;rw[dY]at ha;obtain⟨e,he,hb⟩:=ha;simp only[ak,dh,beq_iff_eq]at hb;have hdd:jV ops i e.on=true:=by
   simp only[jV,fO];refine⟨o,ho,?_⟩;rw[dY];exact⟨e,he,by simp[hb.1]⟩
  rcases hb.2 with hx|hx
  ·rw[<-hx];exact hd _ hdd
  ·exact h.anc f _ _ (hd _ hdd) hx
theorem gd (a:Act) (d:Nat) (v:Value) (t:Nat) (hd:d<a.tmps.size):dn (a.put (some d) v) t=if t=d then v else dn a t:=by
 unfold dn Act.put;simp only[az,a_];by_cases h:t=d
 ·subst h;simp[hd]
 ·rw[if_neg (fun e=>h e.symm),if_neg h]
theorem dN (a:Act) (x:Option Tmp) (v:Value):(a.put x v).tmps.size=a.tmps.size:=by cases x<;>simp[Act.put]
theorem im (a:Act) (x:Option Tmp) (v:Value):(a.put x v).defers=a.defers:=by cases x<;>rfl
theorem Cd {a c:Act} (h1:a.tmps.size=c.tmps.size) (h2: ∀t,dn a t=dn c t) (h3:a.defers=c.defers):a=c:=by
 obtain⟨ta,da⟩:=a;obtain⟨tc,dc⟩:=c;simp only at h1 h3;subst h3
 congr 1
 apply Array.ext h1;intro i hi hi';have:=h2 i;simp only[dn,az]at this;simpa[hi,hi']using this
def fy (ops:Array Oper) (o:Oper) (a c:Act):Prop:= ∀t,t∈o.looksAt ops->dn a t=dn c t
theorem fy.exec {o:Oper} {a c:Act} (hs: ∀cs b,o.op≠ .select cs b) (h:fy ops o a c):execOp a.eval o=execOp c.eval o:=
 execOp_congr o hs fun x hx=>by
  cases x with
  |tmp t=>exact h t (List.mem_append_left _ (List.mem_filterMap.2 ⟨.tmp t,by simpa using hx,rfl⟩))
  | _=>rfl
theorem fy.wanted {o:Oper} {a c:Act} (hz:a.tmps.size=c.tmps.size) (h:fy ops o a c):Region.wanted o (yielded ops a.tmps)=Region.wanted o (yielded ops c.tmps):=by
 unfold Region.wanted
 cases hg:o.guard with
 |none=>rfl
 |some gw=>
  obtain⟨g,want⟩:=gw;have hy:yielded ops a.tmps g=yielded ops c.tmps g:=by
   unfold yielded
   cases ht:(ops[g]?).bind (·.dst)with
   |none=>rfl
   |some t=>
    have h1:=h t (by simp[Oper.looksAt,hg,ht]);simp only[dn,az]at h1;simp only[eA];rcases eg t a.tmps.size with hl|hl
    ·have hl':t<c.tmps.size:=hz▸hl;simp only[bT hl,bT hl',bR]at h1⊢;rw[h1]
    ·rw[eK hl,eK (hz▸hl)]
  simp only[hy]
theorem Yl.to {o:Oper} {d:Nat} {a c:Act} {w:World} {R:Value->World->Prop} {QQ:Exit->Act->World->Prop} {K:Act->World->Prop} (hdf:a.defers=c.defers) (hd:o.dst=some d) (hz:d<c.tmps.size) (he:execOp a.eval o=execOp c.eval o)
  (h:Yl P QQ o c w R) (hK: ∀v w',R v w'->K (a.put o.dst v) w'):o.wp P a w K (xC QQ):=by
 have h:=h (fun a' w'=>a'.defers=c.defers/\R (dn a' d) w') (fun v w' hr=>⟨im _ _ _,by rw[hd,gd _ _ _ _ hz,if_pos rfl];exact hr⟩);have val: ∀(u:Value) (w':World),((c.put o.dst u).defers=c.defers/\R (dn (c.put o.dst u) d) w')->K (a.put o.dst u) w':=fun u w' ⟨_,hr⟩=>by
  rw[hd,gd _ _ _ _ hz,if_pos rfl]at hr;exact hK _ _ hr
 unfold Oper.wp at*;rw[he];generalize (execOp c.eval o).run P w=r at*
 cases r with
 |ok n w'=>
  cases n<;>simp only[Oper.upon]at h⊢
  case value u=>exact val u _ h
  case skip=>exact val _ _ h
  case defer x=>
   have:=h.1;rw[im]at this;exact absurd (congrArg List.length this) (by simp)
  case enter f args=>
   refine Calls.mono h fun e w'' he=> ?_
   cases e with
   |returned u=>exact val u _ he
   |panicked x=>exact fun a' h'=>he a' (h'.trans hdf)
   |outgrown=>exact he
  case row row args=>exact Rows.mono h fun u w'' he=>val u _ he
 |halt x w'=>
  cases x<;>simp only[Oper.upon]at h⊢;exact fun a' h'=>h a' (h'.trans hdf)
section
variable {QQ:Exit->Act->World->Prop}
variable {f:Nat} {tab:Cf} {late:Option Nat} {nw:Nat->Bool} {T U:World->World->Prop} {w0:World} {a0:Act}
def Ar (P:Program) (ops:Array Oper) (tab:Cf) (U:World->World->Prop) (w0:World) (i:Nat) (o:Oper) (d:Nat) (a:Act):Prop:=
 (Region.wanted o (yielded ops a.tmps)=false->dn a d=undef)/\
 (Region.wanted o (yielded ops a.tmps)=true->match tab i with
  |none=> ∀w,U w0 w->(execOp a.eval o).run P w= .ok (.value (dn a d)) w
  |some (Sh,_)=>Sh (dn a d))
def oU (ops:Array Oper) (m:Nat) (nw:Nat->Bool) (D:Nat->Prop) (a:Act):Prop:=
 ∀(i j:Nat) (oi oj:Oper) (di dj:Nat),D i->D j->i<m->j<m->ops[i]? =some oi->ops[j]? =some oj->oi.dst=some di->oj.dst=some dj->nw i=true->nw j=true->i≠j->
  Region.wanted oi (yielded ops a.tmps)=true->Region.wanted oj (yielded ops a.tmps)=true-> ∀g,pB (dn a di)=some g->pB (dn a dj)≠some g
structure GO (P:Program) (ops:Array Oper) (m:Nat) (tab:Cf) (late:Option Nat) (nw:Nat->Bool) (T U:World->World->Prop) (w0:World) (a0:Act) (D:Nat->Prop) (a:Act) (w:World):Prop where
 step:U w0 w
 early:(∀x,late=some x-> ¬D x)->T w0 w
 size:a.tmps.size=a0.tmps.size
 defers:a.defers=a0.defers
 base: ∀t,(∀(i:Nat) (o:Oper),i<m->ops[i]? =some o->o.dst≠some t)->dn a t=dn a0 t
 ok: ∀(i:Nat) (o:Oper) (d:Nat),D i->i<m->ops[i]? =some o->o.dst=some d->Ar P ops tab U w0 i o d a
 fact: ∀(i:Nat) (o:Oper) (d:Nat),D i->i<m->ops[i]? =some o->o.dst=some d->Region.wanted o (yielded ops a.tmps)=true-> ∀Sh F,tab i=some (Sh,F)->F (dn a d) w
 pair:oU ops m nw D a
theorem na {Fin:Act->List (Nat×(World->Prop))->Prop} (hok:uW pre ops m a0.tmps.size=true) (hT:U w0 w0)
  (h:eF P QQ ops f tab late nw T U w0 Fin (ops.toList.take m) 0 a0 []) {D:Nat->Prop} (hD:iv ops D) {a:Act} {w:World} (hI:GO P ops m tab late nw T U w0 a0 D a w):
  ∀k,k<=m-> ∃c Φ,eF P QQ ops f tab late nw T U w0 Fin ((ops.toList.take m).drop k) k c Φ/\c.tmps.size=a0.tmps.size/\c.defers=a0.defers/\
   (∀t,(∀(i:Nat) (o:Oper),i<m->ops[i]? =some o->o.dst≠some t)->dn c t=dn a0 t)/\
   (∀(i:Nat) (o:Oper) (d:Nat),i<k->D i->ops[i]? =some o->o.dst=some d->dn c d=dn a d)/\
   (∀p∈Φ,p.1<k/\ ∃o d Sh F,ops[p.1]? =some o/\o.dst=some d/\tab p.1=some (Sh,F)/\p.2=F (dn c d)/\(D p.1->Region.wanted o (yielded ops a.tmps)=true)):=by
 intro k
 induction k with
 |zero=>intro _;exact⟨a0,[],h,rfl,rfl,fun _ _=>rfl,fun i o d hi=>absurd hi (by omega),fun p hp=>by cases hp⟩
 |succ k ih=>
  intro hk;obtain⟨c,Φ,hs,h1,h2,h3,h4,h5⟩:=ih (by omega);obtain⟨o,d,ho,hd,hdl,hsel,hdef,huniq,hlook⟩:=gY hok (i:=k) (by omega);have hlen:k<(ops.toList.take m).length:=by have:=pS hok;simp;omega
  have hget:(ops.toList.take m)[k]=o:=by
   have:=(Array.getElem?_eq_some_iff.1 ho).2;simp[this]
  rw[am hlen,hget]at hs
  -- what the next frame is like
  have next: ∀v,(D k->dn a d=v)->
    ∀(Ψ:List (Nat×(World->Prop))),(∀p∈Ψ,p∈Φ\/(p.1=k/\ ∃Sh F,tab k=some (Sh,F)/\p.2=F v/\(D k->Region.wanted o (yielded ops a.tmps)=true)))->
    eF P QQ ops f tab late nw T U w0 Fin ((ops.toList.take m).drop (k+1)) (k+1) (c.put o.dst v) Ψ->
    ∃c Φ,eF P QQ ops f tab late nw T U w0 Fin ((ops.toList.take m).drop (k+1)) (k+1) c Φ/\c.tmps.size=a0.tmps.size/\c.defers=a0.defers/\
     (∀t,(∀(i:Nat) (o:Oper),i<m->ops[i]? =some o->o.dst≠some t)->dn c t=dn a0 t)/\
     (∀(i:Nat) (o:Oper) (d:Nat),i<k+1->D i->ops[i]? =some o->o.dst=some d->dn c d=dn a d)/\
     (∀p∈Φ,p.1<k+1/\ ∃o d Sh F,ops[p.1]? =some o/\o.dst=some d/\tab p.1=some (Sh,F)/\p.2=F (dn c d)/\(D p.1->Region.wanted o (yielded ops a.tmps)=true)):=by
   intro v hv Ψ hΨ hs';have hp: ∀t,dn (c.put o.dst v) t=if t=d then v else dn c t:=fun t=>by rw[hd];exact gd _ _ _ _ (by rw[h1];exact hdl)
   refine⟨_,Ψ,hs',by rw[dN];exact h1,by rw[im];exact h2,?_,?_,?_⟩
   ·intro t ht;rw[hp,if_neg (fun e=>ht k o (by omega) ho (by rw[hd,e]))];exact h3 t ht
   ·intro i oi di hi hDi hoi hdi;rw[hp];rcases eg i k with hik|hik
    ·rw[if_neg (fun e=>huniq i (by omega) (by omega) oi hoi (by rw[hdi,e]))];exact h4 i oi di hik hDi hoi hdi
    ·obtain rfl:i=k:=by omega
     rw[ho]at hoi;injection hoi with hoi;subst hoi;rw[hd]at hdi;injection hdi with hdi;subst hdi;rw[if_pos rfl];exact(hv hDi).symm
   ·intro p hp';rcases hΨ p hp' with hin|⟨hpk,Sh,F,ht,hF,hw⟩
    ·obtain⟨hl,op,dp,Sh,F,hop,hdp,htp,hpF,hwp⟩:=h5 p hin;refine⟨by omega,op,dp,Sh,F,hop,hdp,htp,?_,hwp⟩;rw[hp,if_neg (fun e=>huniq p.1 (by omega) (by omega) op hop (by rw[hdp,e]))];exact hpF
    ·refine⟨by omega,o,d,Sh,F,by rw[hpk];exact ho,hd,by rw[hpk];exact ht,?_,by rw[hpk];exact hw⟩;rw[hp,if_pos rfl];exact hF
  -- if k has been carried out, the nu frames are the same for it
  have same:D k->fy ops o a c:=fun hDk t ht=>by
   by_cases hex: ∃(i:Nat) (oi:Oper),i<m/\ops[i]? =some oi/\oi.dst=some t
   ·obtain⟨i,oi,him,hoi,hdi⟩:=hex;have hdir:=hlook i him oi t hoi hdi ht;have hik:i<k:=by
     simp only[jV,ho,Option.any_some]at hdir;rw[dY]at hdir;obtain⟨e,he,hb⟩:=hdir;simp only[ak,beq_iff_eq]at hb;have:=pR hok ho e he hb.1;omega
    exact(h4 i oi t hik (hD k i hDk hdir) hoi hdi).symm
   ·rw[hI.base t (fun i oi him hoi hdi=>hex ⟨i,oi,him,hoi,hdi⟩),h3 t (fun i oi him hoi hdi=>hex ⟨i,oi,him,hoi,hdi⟩)]
  have hz:a.tmps.size=c.tmps.size:=by rw[hI.size,h1]
  obtain⟨hs0,hs1⟩:=hs
  cases hw:Region.wanted o (yielded ops c.tmps)with
  |false=>
   exact next undef (fun hDk=>(hI.ok k o d hDk (by omega) ho hd).1 (by rw[(same hDk).wanted hz];exact hw)) Φ (fun p hp=> .inl hp) (hs0 hw)
  |true=>
   have hs1:=hs1 hw
   cases ht:tab k with
   |none=>
    rw[ht]at hs1;obtain⟨v,hv,hs2⟩:=hs1;refine next v (fun hDk=> ?_) Φ (fun p hp=> .inl hp) hs2;have hok':=(hI.ok k o d hDk (by omega) ho hd).2 (by rw[(same hDk).wanted hz];exact hw);rw[ht]at hok';have e1:=hok' w0 hT;rw[(same hDk).exec hsel,hv w0 hT]at e1;injection e1 with e1;injection e1 with e1;exact e1.symm
   |some sf=>
    obtain⟨Sh,F⟩:=sf;rw[ht]at hs1;obtain⟨⟨v0,hv0⟩,_,hs2⟩:=hs1;by_cases hDk:D k
    ·have hwa:Region.wanted o (yielded ops a.tmps)=true:=by rw[(same hDk).wanted hz];exact hw
     have hok':=(hI.ok k o d hDk (by omega) ho hd).2 hwa;rw[ht]at hok';refine next (dn a d) (fun _=>rfl) ((k,F (dn a d))::Φ) ?_ (hs2 _ hok');intro p hp;rcases List.mem_cons.1 hp with rfl|hp
     ·exact .inr ⟨rfl,Sh,F,ht,rfl,fun _=>hwa⟩
     ·exact .inl hp
    ·refine next v0 (fun hDk'=>absurd hDk' hDk) ((k,F v0)::Φ) ?_ (hs2 _ hv0);intro p hp;rcases List.mem_cons.1 hp with rfl|hp
     ·exact .inr ⟨rfl,Sh,F,ht,rfl,fun hDk'=>absurd hDk' hDk⟩
     ·exact .inl hp
def rF (m:Nat) (l:Array Bool):Nat:=(List.range m).countP fun i=> !l.getD i true
theorem lB (l:Array Bool) (m:Nat):rF (m+1) l=rF m l+(if l.getD m true=false then 1 else 0):=by
 unfold rF;rw[jE,List.countP_append,jP]
 cases l.getD m true<;>rfl
theorem oA (l:Array Bool) (i m:Nat) (hlt:i<l.size):(l.setIfInBounds i true).getD m true=if m=i then true else l.getD m true:=by
 simp only[az,a_];by_cases h:i=m
 ·subst h;simp[hlt]
 ·rw[if_neg h,if_neg (fun e=>h e.symm)]
theorem uK (l:Array Bool) (i:Nat) (hi:l.getD i true=false): ∀m,rF m (l.setIfInBounds i true)+(if i<m then 1 else 0)=rF m l:=by
 have hlt:i<l.size:=by
  rcases eg i l.size with h|h
  ·exact h
  ·simp[az,eK h]at hi
 intro m
 induction m with
 |zero=>simp[rF]
 |succ m ih=>
  rw[lB,lB,oA _ _ _ hlt];by_cases h:m=i
  ·subst h;rw[hi];simp at ih⊢;omega
  ·rw[if_neg h];have h2:(i<m+1)↔(i<m):=by omega
   simp only[h2];omega
theorem rE {l:Array Bool}: ∀m,rF m l=0-> ∀i,i<m->l.getD i true=true:=by
 intro m h i hi;unfold rF at h;rw[List.countP_eq_zero]at h;have:=h i (by simpa using hi);simpa using this
theorem uL {l:Array Bool}: ∀m,rF m l≠0-> ∃i,i<m/\l.getD i true=false/\ ∀j,j<i->l.getD j true=true:=by
 intro m
 induction m with
 |zero=>simp[rF]
 |succ m ih=>
  intro h;by_cases h0:rF m l=0
  ·refine⟨m,by omega,?_,rE m h0⟩;unfold rF at h h0;rw[jE,List.countP_append,h0]at h;simp only[jP]at h
   cases hm:l.getD m true<;>simp[hm]at h⊢
  ·obtain⟨i,h1,h2⟩:=ih h0;exact⟨i,by omega,h2⟩
theorem eQ {l:Array Bool} {i:Nat}:i∈Region.ready .any ops l↔l.getD i true=false/\ ∃o,ops[i]? =some o/\ ∀e∈o.after,Region.binds .any e=true->l.getD e.on false=true:=by
 unfold Region.ready;rw[List.mem_filter,dX];constructor
 ·rintro⟨hlt,h⟩;rw[ak]at h;have ho:ops[i]? =some ops[i]:=bT hlt;refine⟨by simpa using h.1,ops[i],ho,fun e he hb=> ?_⟩;have h2:=h.2;rw[ho]at h2;simp only[gM,bR,ei]at h2;have:=h2 e he;simpa[hb]using this
 ·rintro⟨h1,o,ho,h2⟩;refine⟨(Array.getElem?_eq_some_iff.1 ho).1,?_⟩;rw[ak,ho];refine⟨by simp[h1],?_⟩;simp only[gM,bR,ei];intro e he
  cases hb:Region.binds .any e
  ·simp
  ·simp[h2 e he hb]
theorem iI {i j:Nat} {o:Oper} (ho:ops[i]? =some o):jV ops i j=true↔ ∃e∈o.after,Region.binds .any e=true/\e.on=j:=by
 simp only[jV,ho,Option.any_some];rw[dY];simp
def pA (WO:Nat->(Act->World->Prop)->Act->World->Prop) (N:Act->World->Prop) (ops:Array Oper):Nat->Array Bool->Act->World->Prop
 |0,l,a,w=>Region.ready .any ops l=[]/\N a w
 |fuel+1,l,a,w=>(Region.ready .any ops l=[]->N a w)/\ ∀i∈Region.ready .any ops l,WO i (pA WO N ops fuel (l.setIfInBounds i true)) a w
def mS (WO:Nat->(Act->World->Prop)->Act->World->Prop) (N:Act->World->Prop):List Nat->Act->World->Prop
 | []=>N
 |i::l=>WO i (mS WO N l)
structure kM (P:Program) (QQ:Exit->Act->World->Prop) (ops:Array Oper) (S:World->Prop) (WO:Nat->(Act->World->Prop)->Act->World->Prop):Prop where
 mono: ∀{i:Nat} {K K':Act->World->Prop} {a:Act} {w:World},(∀a w,K a w->K' a w)->WO i K a w->WO i K' a w
 skip: ∀{i:Nat} {o:Oper} {K:Act->World->Prop} {a:Act} {w:World},ops[i]? =some o->Region.wanted o (yielded ops a.tmps)=false->S w->K (a.put o.dst undef) w->WO i K a w
 run: ∀{i:Nat} {o:Oper} {K:Act->World->Prop} {a:Act} {w:World},ops[i]? =some o->Region.wanted o (yielded ops a.tmps)=true->(∀c,o.op≠ .defer c)->o.wp P a w (fun a' w'=>S w'/\K a' w') (xC QQ)->WO i K a w
structure oR (P:Program) (QQ:Exit->Act->World->Prop) (ops:Array Oper) (WO:Nat->(Act->World->Prop)->Act->World->Prop):Prop where
 mono: ∀{i:Nat} {K K':Act->World->Prop} {a:Act} {w:World},(∀a w,K a w->K' a w)->WO i K a w->WO i K' a w
 skip: ∀{i:Nat} {o:Oper} {K:Act->World->Prop} {a:Act} {w:World},ops[i]? =some o->Region.wanted o (yielded ops a.tmps)=false->K (a.put o.dst undef) w->WO i K a w
 run: ∀{i:Nat} {o:Oper} {K:Act->World->Prop} {a:Act} {w:World},ops[i]? =some o->Region.wanted o (yielded ops a.tmps)=true->(∀c,o.op≠ .defer c)->o.wp P a w K (xC QQ)->WO i K a w
theorem oR.toS {S:World->Prop} {WO:Nat->(Act->World->Prop)->Act->World->Prop} (h:oR P QQ ops WO):kM P QQ ops S WO where
 mono:=h.mono
 skip:=fun ho hw _ hk=>h.skip ho hw hk
 run:=fun ho hw hd hk=>h.mono (fun _ _ hk=>hk.2) (h.run ho hw hd hk)
def jy (ops:Array Oper) (tk:List Nat) (l:Array Bool):Option Nat:=tk.find? fun j=>(Region.ready .any ops l).contains j
theorem mY {tk:List Nat} {l:Array Bool} {i:Nat} (h:jy ops tk l=some i):i∈tk/\i∈Region.ready .any ops l:=
 ⟨ed h,by have:=List.find?_some h;simpa using this⟩
theorem sE {tk:List Nat} {l:Array Bool} (h:jy ops tk l=none): ∀j∈tk,¬j∈Region.ready .any ops l:=fun j hj hr=>by
 have:=List.find?_eq_none.1 h j hj;exact this (by simpa using hr)
def AJ (ops:Array Oper) (tk:List Nat) (m:Nat):Bool:=
 tk.all fun i=>decide (i<m)&&(List.range ops.size).all fun j=>j==i||jV ops j i||ma ops 4 i j||(match ops[i]?,ops[j]? with|some oi,some oj=>oi.apart ops oj| _,_=>false)
theorem xU {tk:List Nat} (h:AJ ops tk m=true) {i:Nat} (hi:i∈tk):i<m:=by
 simp only[AJ,cB,ak,decide_eq_true_eq]at h;exact(h i hi).1
theorem vW {tk:List Nat} (h:AJ ops tk m=true) {i j:Nat} (hi:i∈tk) {oi oj:Oper} (hoi:ops[i]? =some oi) (hoj:ops[j]? =some oj) (hji:j≠i) (h1:jV ops j i=false) (h2:ma ops 4 i j=false):oi.apart ops oj=true:=by
 simp only[AJ,cB,ak,decide_eq_true_eq]at h;have h3:=(h i hi).2 j (by rw[dX];exact(Array.getElem?_eq_some_iff.1 hoj).1);rw[hoi,hoj,h1,h2]at h3;have h4:(j==i)=false:=by simpa using hji
 rw[h4]at h3;simpa using h3
def kQ (P:Program) (ops:Array Oper) (tk:List Nat) (S:World->Prop) (WO:Nat->(Act->World->Prop)->Act->World->Prop) (N:Act->World->Prop):Nat->Array Bool->Act->World->Prop
 |0,l,a,w=>Region.ready .any ops l=[]/\N a w
 |fuel+1,l,a,w=>match jy ops tk l with
  |some i=> ∃v o,ops[i]? =some o/\YieldsIf P ops S o v a/\kQ P ops tk S WO N fuel (l.setIfInBounds i true) (a.put o.dst v) w
  |none=>(Region.ready .any ops l=[]->N a w)/\ ∀i∈Region.ready .any ops l,WO i (kQ P ops tk S WO N fuel (l.setIfInBounds i true)) a w
section
variable {tk:List Nat} {S:World->Prop} {WO:Nat->(Act->World->Prop)->Act->World->Prop} {N:Act->World->Prop}
theorem xq {fuel:Nat} {l:Array Bool} {a:Act} {w:World} {i:Nat} (h:jy ops tk l=some i)
  (hk: ∃v o,ops[i]? =some o/\YieldsIf P ops S o v a/\kQ P ops tk S WO N fuel (l.setIfInBounds i true) (a.put o.dst v) w):kQ P ops tk S WO N (fuel+1) l a w:=by
 simp only[kQ,h];exact hk
theorem qa {fuel:Nat} {l:Array Bool} {a:Act} {w:World} (h:jy ops tk l=none)
  (hk:(Region.ready .any ops l=[]->N a w)/\ ∀i∈Region.ready .any ops l,WO i (kQ P ops tk S WO N fuel (l.setIfInBounds i true)) a w):kQ P ops tk S WO N (fuel+1) l a w:=by
 simp only[kQ,h];exact hk
theorem sF {l:Array Bool} (h: ∀j∈tk,l.getD j true=true):jy ops tk l=none:=by
 unfold jy;rw[List.find?_eq_none];intro j hj hr;have hr:j∈Region.ready .any ops l:=by simpa using hr
 have:=(eQ.1 hr).1;rw[h j hj]at this
 cases this
theorem l_ {S':World->Prop} (hW:kM P QQ ops S' WO): ∀(fuel:Nat) (l:Array Bool) (a:Act) (w:World),(∀j∈tk,l.getD j true=true)->pA WO N ops fuel l a w->kQ P ops tk S WO N fuel l a w
 |0,_,_,_,_,h=>h
 |fuel+1,l,a,w,hd,h=>qa (sF hd) ⟨h.1,fun i hi=>hW.mono (fun a w h'=>l_ hW fuel _ a w (fun j hj=>by
   have:=hd j hj;simp only[az,a_]at this⊢;split
   ·split<;>rfl
   ·exact this) h') (h.2 i hi)⟩
end
variable {WO:Nat->(Act->World->Prop)->Act->World->Prop} {N:Act->World->Prop} {S:World->Prop}
theorem rJ (hW:kM P QQ ops S WO) (hok:uW pre ops m size=true) (hT:Ft ops m=true): ∀(r k:Nat) (l:Array Bool) (a:Act) (w:World),r=ops.size-k->m<=k->k<=ops.size->l.size=ops.size->(∀i,i<ops.size->l.getD i true=decide (i<k))->
  mS WO N (List.range' k (ops.size-k)) a w->pA WO N ops r l a w:=by
 intro r
 induction r with
 |zero=>
  intro k l a w hr _ hk hl hlk h;obtain rfl:k=ops.size:=by omega
  refine⟨?_,by rw[ly]at h;exact h⟩;rw[List.eq_nil_iff_forall_not_mem];intro i hi;obtain⟨h1,o,ho,_⟩:=eQ.1 hi;have hlt:=(Array.getElem?_eq_some_iff.1 ho).1;rw[hlk i hlt]at h1;simp at h1;omega
 |succ r ih=>
  intro k l a w hr hm hk hl hlk h;have hk':k<ops.size:=by omega
  have hok':ops[k]? =some ops[k]:=bT hk';refine⟨fun hnil=> ?_,fun i hi=> ?_⟩
  ·have:k∈Region.ready .any ops l:=eQ.2 ⟨by rw[hlk k hk'];simp,_,hok',fun e he hbe=>by
    have h1:=pR hok hok' e he hbe;have h2:=hlk e.on (by omega);simp only[az]at h2⊢;have h3:e.on<l.size:=by omega
    simp only[bT h3,bR]at h2⊢
    rw[h2];simp;omega⟩
   rw[hnil]at this
   cases this
  ·obtain⟨h1,o,ho,h2⟩:=eQ.1 hi;have hilt:=(Array.getElem?_eq_some_iff.1 ho).1;have hki:k<=i:=by rw[hlk i hilt]at h1;simpa using h1
   obtain rfl:i=k:=by
    rcases eg k i with hlt|hge
    ·rcases yW hT (i:=i) (by omega) hilt with h3|h3
     ·omega
     ·obtain⟨e,he,hb,hon⟩:=(iI ho).1 h3;have h4:=h2 e he hb;have h5:=hlk e.on (by omega);have h6:e.on<l.size:=by omega
      simp only[az,bT h6,bR]at h4 h5;rw[h4]at h5;simp at h5;omega
    ·omega
   have hrec: ∀a w,mS WO N (List.range' (i+1) (ops.size-(i+1))) a w->pA WO N ops r (l.setIfInBounds i true) a w:=fun a w hh=>
    ih (i+1) _ a w (by omega) (by omega) (by omega) (by simpa using hl) (fun j hj=>by
     simp only[az,a_];by_cases hji:i=j
     ·subst hji;simp[hl,hj]
     ·rw[if_neg hji];have:=hlk j hj;simp only[az]at this;rw[this];simp only[decide_eq_decide]
      omega) hh
   rw[show ops.size-i=(ops.size-(i+1))+1 from by omega,List.range'_succ]at h;exact hW.mono hrec h
theorem pU {TL:Act->World->Prop} (htk:AJ ops pre m=true) (htn: ∀j∈pre,tab j=none) (hTL: ∀(l:Array Bool) (a:Act) (w:World),l.size=ops.size->(∀i,i<ops.size->l.getD i true=decide (i<m))->TL a w->pA WO N ops (ops.size-m+0) l a w) (hW:kM P QQ ops (U w0) WO) (hok:uW pre ops m a0.tmps.size=true) (hTr:U w0 w0) (hTt: ∀a b c,U a b->U b c->U a c) (hTU: ∀a b,T a b->U a b) (hTT: ∀a b c,T a b->T b c->T a c) (hTs: ∀i Sh F,tab i=some (Sh,F)-> ∀v w w',F v w->T w w'->F v w')
  (hUs: ∀i Sh F,late≠some i->tab i=some (Sh,F)-> ∀v w w',F v w->U w w'->F v w') (hT1: ∀w,T w w)
  (hNw: ∀i,nw i=true-> ∃Sh F,tab i=some (Sh,F)/\ ∀v w,F v w-> ∀g,pB v=some g->g<w.heap.size)
  (h:eF P QQ ops f tab late nw T U w0 (fun a Φ=> ∀w,U w0 w->(∀p∈Φ,p.2 w)->oU ops m nw (fun _=>True) a->TL a w) (ops.toList.take m) 0 a0 []):
  ∀(n:Nat) (l:Array Bool) (a:Act) (w:World),n=rF m l->l.size=ops.size->(∀i,i<ops.size->m<=i->l.getD i true=false)->iv ops (fun i=>l.getD i false=true)->
   GO P ops m tab late nw T U w0 a0 (fun i=>l.getD i false=true) a w->kQ P ops pre (U w0) WO N (ops.size-m+n) l a w:=by
 have hmle:=pS hok;intro n
 induction n with
 |zero=>
  intro l a w hn hl hm hC hI;have hall:=rE m hn.symm;have hD: ∀i,i<m->l.getD i false=true:=fun i hi=>by
   have h1:=hall i hi;have h3:i<l.size:=by omega
   simp only[az,bT h3,bR]at h1⊢;exact h1
  obtain⟨c,Φ,hs,h1,h2,h3,h4,h5⟩:=na hok hTr h hC hI m (ah _);rw[aI (l:=ops.toList.take m) (i:=m) (List.length_take_le _ _)]at hs
  obtain rfl:c=a:=Cd (by rw[h1,hI.size]) (fun t=>by
   by_cases hex: ∃(i:Nat) (oi:Oper),i<m/\ops[i]? =some oi/\oi.dst=some t
   ·obtain⟨i,oi,him,hoi,hdi⟩:=hex;exact h4 i oi t him (hD i him) hoi hdi
   ·rw[hI.base t (fun i oi him hoi hdi=>hex ⟨i,oi,him,hoi,hdi⟩),h3 t (fun i oi him hoi hdi=>hex ⟨i,oi,him,hoi,hdi⟩)]) (by rw[h2,hI.defers])
  refine l_ hW (ops.size-m+0) l c w (fun j hj=>hall j (xU htk hj)) ?_;refine hTL l c w hl (fun i hi=> ?_) (hs w hI.step (fun p hp=> ?_) ?_)
  ·by_cases him:i<m
   ·rw[hall i him];simp[him]
   ·rw[hm i hi (by omega)];simp[him]
  ·obtain⟨hlt,o,d,Sh,F,ho,hd,ht,hF,hw⟩:=h5 p hp;rw[hF];exact hI.fact p.1 o d (hD _ hlt) hlt ho hd (hw (hD _ hlt)) Sh F ht
  ·intro i j oi oj di dj _ _ hi hj;exact hI.pair i j oi oj di dj (hD i hi) (hD j hj) hi hj
 |succ n ih=>
  intro l a w hn hl hm hC hI;have hlf: ∀i,i<ops.size->l.getD i false=l.getD i true:=fun i hi=>by
   have h3:i<l.size:=by omega
   simp only[az,bT h3,bR]
  have hsz:ops.size-m+(n+1)=(ops.size-m+n)+1:=by omega
  rw[hsz]
  cases hft:jy ops pre l with
  |some i=>
   refine xq hft ?_;obtain⟨hit,hi⟩:=mY hft;obtain⟨h1,o',ho',h2⟩:=eQ.1 hi;have hilt:=(Array.getElem?_eq_some_iff.1 ho').1;have hdeps: ∀k,jV ops i k=true->l.getD k false=true:=fun k hk=>by
    obtain⟨e,he,hb,hon⟩:=(iI ho').1 hk;rw[<-hon];exact h2 e he hb
   have him:i<m:=xU htk hit;obtain⟨o,d,ho,hd,hdl,hsel,hdef,huniq,hlook⟩:=gY hok him;rw[ho]at ho';injection ho' with ho';subst ho';obtain⟨c,Φ,hs,g1,g2,g3,g4,g5⟩:=na hok hTr h hC hI i (by omega);have hlen:i<(ops.toList.take m).length:=by simp;omega
   have hget:(ops.toList.take m)[i]=o:=by
    have:=(Array.getElem?_eq_some_iff.1 ho).2;simp[this]
   rw[am hlen,hget]at hs;have same:fy ops o a c:=fun t ht=>by
    by_cases hex: ∃(k:Nat) (oi:Oper),k<m/\ops[k]? =some oi/\oi.dst=some t
    ·obtain⟨k,oi,hkm,hoi,hdi⟩:=hex;have hdir:=hlook k hkm oi t hoi hdi ht;have hik:k<i:=by
      obtain⟨e,he,hb,hon⟩:=(iI ho).1 hdir;have:=pR hok ho e he hb;omega
     exact(g4 k oi t hik (hdeps k hdir) hoi hdi).symm
    ·rw[hI.base t (fun i oi him hoi hdi=>hex ⟨i,oi,him,hoi,hdi⟩),g3 t (fun i oi him hoi hdi=>hex ⟨i,oi,him,hoi,hdi⟩)]
   have hz:a.tmps.size=c.tmps.size:=by rw[hI.size,g1]
   have hC':iv ops (fun j=>(l.setIfInBounds i true).getD j false=true):=fun j k hj hjk=>by
    have set: ∀j,(l.setIfInBounds i true).getD j false=if j=i then true else l.getD j false:=fun j=>by
     simp only[az,a_];by_cases h:i=j
     ·subst h;simp[hl,hilt]
     ·rw[if_neg h,if_neg (fun e=>h e.symm)]
    simp only[set]at hj⊢;by_cases hji:j=i
    ·subst hji;by_cases hki:k=j
     ·rw[if_pos hki]
     ·rw[if_neg hki];exact hdeps k hjk
    ·rw[if_neg hji]at hj;by_cases hki:k=i
     ·rw[if_pos hki]
     ·rw[if_neg hki];exact hC j k hj hjk
   -- the step: a value v in dn d
   have go: ∀v w',(if late=some i then U w w' else T w w')->Ar P ops tab U w0 i o d (a.put o.dst v)->(Region.wanted o (yielded ops a.tmps)=true-> ∀Sh F,tab i=some (Sh,F)->F v w')->(nw i=true-> ∀g,pB v=some g->w.heap.size<=g)->
     kQ P ops pre (U w0) WO N (ops.size-m+n) (l.setIfInBounds i true) (a.put o.dst v) w':=by
    intro v w' hstep0 hOk hFact hNew;have hstep:U w w':=by
     by_cases hl:late=some i
     ·rw[if_pos hl]at hstep0;exact hstep0
     ·rw[if_neg hl]at hstep0;exact hTU _ _ hstep0
    have hp: ∀t,dn (a.put o.dst v) t=if t=d then v else dn a t:=fun t=>by rw[hd];exact gd _ _ _ _ (by rw[hI.size];exact hdl)
    have other: ∀(j:Nat) (oj:Oper) (dj:Nat),(l.setIfInBounds i true).getD j false=true->j≠i->j<m->ops[j]? =some oj->oj.dst=some dj->l.getD j false=true/\dj≠d/\fy ops oj (a.put o.dst v) a:=by
     intro j oj dj hj hji hjm hoj hdj;have hj':l.getD j false=true:=by
      simp only[az,a_]at hj⊢;rw[if_neg (fun e=>hji e.symm)]at hj;exact hj
     refine⟨hj',fun e=>huniq j hjm hji oj hoj (by rw[hdj,e]),fun t ht=> ?_⟩;rw[hp];by_cases htd:t=d
     ·subst htd;obtain⟨oj2,dj2,hoj2,_,_,_,_,_,hlook2⟩:=gY hok hjm;rw[hoj]at hoj2;injection hoj2 with hoj2;subst hoj2;have:=hC j i hj' (hlook2 i him o t ho hd ht);simp only[]at this;rw[hlf i hilt,h1]at this
      cases this
     ·rw[if_neg htd]
    refine ih _ _ _ ?_ (by simpa using hl) ?_ hC' ⟨hTt _ _ _ hI.step hstep,?_,by rw[dN,hI.size],by rw[im,hI.defers],?_,?_,?_,?_⟩
    ·have:=uK l i h1 m;rw[if_pos him]at this;omega
    ·intro j hj hmj;rw[oA _ _ _ (by omega),if_neg (by omega)];exact hm j hj hmj
    ·intro hE;have hni:late≠some i:=fun e=>hE i e (by simp[az,hl,hilt]);rw[if_neg hni]at hstep0;refine hTT _ _ _ (hI.early fun x hx hDx=>hE x hx ?_) hstep0;simp only[az,a_]at hDx⊢;by_cases hxi:i=x
     ·subst hxi;simp[hl,hilt]
     ·rw[if_neg hxi];exact hDx
    ·intro t ht;rw[hp,if_neg (fun e=>ht i o him ho (by rw[hd,e]))];exact hI.base t ht
    ·intro j oj dj hj hjm hoj hdj;by_cases hji:j=i
     ·subst hji;rw[ho]at hoj;injection hoj with hoj;subst hoj;rw[hd]at hdj;injection hdj with hdj;subst hdj;exact hOk
     ·obtain⟨hj',hne,hsame⟩:=other j oj dj hj hji hjm hoj hdj;obtain⟨oj2,_,hoj2,_,_,hsel2,_,_⟩:=gY hok hjm;rw[hoj]at hoj2;injection hoj2 with hoj2;subst hoj2;have hok0:=hI.ok j oj dj hj' hjm hoj hdj;unfold Ar at hok0⊢;rw[hsame.wanted (dN _ _ _),hsame.exec hsel2,hp,if_neg hne];exact hok0
    ·intro j oj dj hj hjm hoj hdj hwj Sh F ht;rw[hp];by_cases hji:j=i
     ·subst hji;rw[ho]at hoj;injection hoj with hoj;subst hoj;rw[hd]at hdj;injection hdj with hdj;subst hdj;rw[if_pos rfl];have hself:fy ops o (a.put o.dst v) a:=fun t ht'=>by
       rw[hp,if_neg];intro e;subst e;have:=hdeps j (hlook j him o t ho hd ht');rw[hlf j hilt,h1]at this
       cases this
      exact hFact (by rw[<-hself.wanted (dN _ _ _)];exact hwj) Sh F ht
     ·obtain⟨hj',hne,hsame⟩:=other j oj dj hj hji hjm hoj hdj;rw[if_neg hne];have hF:=hI.fact j oj dj hj' hjm hoj hdj (by rw[<-hsame.wanted (dN _ _ _)];exact hwj) Sh F ht;by_cases hl:late=some i
      ·exact hUs j Sh F (fun e=>hji (by rw[hl]at e;injection e with e;exact e.symm)) ht _ _ _ hF hstep
      ·rw[if_neg hl]at hstep0;exact hTs j Sh F ht _ _ _ hF hstep0
    ·intro j k oj ok dj dk hj hk hjm hkm hoj hok' hdj hdk hnj hnk hne hwj hwk g hgj hgk;have old: ∀(k:Nat) (ok:Oper) (dk:Nat),(l.setIfInBounds i true).getD k false=true->k≠i->k<m->ops[k]? =some ok->ok.dst=some dk->nw k=true->Region.wanted ok (yielded ops (a.put o.dst v).tmps)=true->
       l.getD k false=true/\Region.wanted ok (yielded ops a.tmps)=true/\dn (a.put o.dst v) dk=dn a dk/\ ∀g,pB (dn a dk)=some g->g<w.heap.size:=fun k ok dk hk hki hkm hok hdk hnk hwk=>by
      obtain⟨hk',hne,hsame⟩:=other k ok dk hk hki hkm hok hdk;have hwk':Region.wanted ok (yielded ops a.tmps)=true:=by rw[<-hsame.wanted (dN _ _ _)];exact hwk
      refine⟨hk',hwk',by rw[hp,if_neg hne],fun g hg=> ?_⟩;obtain⟨Sh,F,ht,hold⟩:=hNw k hnk;exact hold _ _ (hI.fact k ok dk hk' hkm hok hdk hwk' Sh F ht) g hg
     by_cases hji:j=i
     ·subst hji;rw[ho]at hoj;injection hoj with hoj;subst hoj;rw[hd]at hdj;injection hdj with hdj;subst hdj;rw[hp,if_pos rfl]at hgj;obtain⟨_,_,e1,e2⟩:=old k ok dk hk (fun e=>hne e.symm) hkm hok' hdk hnk hwk;rw[e1]at hgk;have h1:=hNew hnj g hgj;have h2:=e2 g hgk;omega
     ·obtain⟨j1,j2,e1,e2⟩:=old j oj dj hj hji hjm hoj hdj hnj hwj;rw[e1]at hgj;by_cases hki:k=i
      ·subst hki;rw[ho]at hok';injection hok' with hok';subst hok';rw[hd]at hdk;injection hdk with hdk;subst hdk;rw[hp,if_pos rfl]at hgk;have h1:=hNew hnk g hgk;have h2:=e2 g hgj;omega
      ·obtain⟨k1,k2,e3,_⟩:=old k ok dk hk hki hkm hok' hdk hnk hwk;rw[e3]at hgk;exact hI.pair j k oj ok dj dk j1 k1 hjm hkm hoj hok' hdj hdk hnj hnk hne j2 k2 g hgj hgk
   have self: ∀v,fy ops o (a.put o.dst v) a:=fun v t ht'=>by
    have hp: ∀t,dn (a.put o.dst v) t=if t=d then v else dn a t:=fun t=>by rw[hd];exact gd _ _ _ _ (by rw[hI.size];exact hdl)
    rw[hp,if_neg];intro e;subst e;have:=hdeps i (hlook i him o t ho hd ht');rw[hlf i hilt,h1]at this
    cases this
   have own: ∀v,dn (a.put o.dst v) d=v:=fun v=>by rw[hd,gd _ _ _ _ (by rw[hI.size];exact hdl),if_pos rfl]
   obtain⟨_,hs1⟩:=hs
   cases hw:Region.wanted o (yielded ops a.tmps)with
   |true=>
    have hs1:=hs1 (by rw[<-same.wanted hz];exact hw);have ht:=htn i hit;rw[ht]at hs1;obtain⟨v,hv,_⟩:=hs1;refine⟨v,o,ho, .inl ⟨hw,fun w1 hw1=>by rw[same.exec hsel];exact hv w1 hw1⟩,go v w (by split;exact hTU _ _ (hT1 w);exact hT1 w) ⟨fun hf=> ?_,fun _=> ?_⟩ (fun _ Sh F h=>by rw[ht]at h;cases h) (fun hn=>by obtain⟨_,_,h,_⟩:=hNw i hn;rw[ht]at h;cases h)⟩
    ·rw[(self v).wanted (dN _ _ _),hw]at hf;cases hf
    ·rw[ht];intro w1 hw1;rw[(self v).exec hsel,same.exec hsel,own];exact hv w1 hw1
   |false=>
    have hwf:=hw;refine⟨undef,o,ho, .inr ⟨hw,rfl⟩,go undef w (by split;exact hTU _ _ (hT1 w);exact hT1 w) ⟨fun _=>own undef,fun hf=> ?_⟩ (fun h=>by rw[hwf]at h;cases h) (fun _ g hg=>by cases hg)⟩;rw[(self undef).wanted (dN _ _ _),hwf]at hf
    cases hf
  |none=>
   refine qa hft ⟨fun hnil=> ?_,fun i hi=> ?_⟩
   ·obtain⟨i,him,hi0,hib⟩:=uL m (l:=l) (by omega);obtain⟨o,d,ho,_⟩:=gY hok him
    have:i∈Region.ready .any ops l:=eQ.2 ⟨hi0,o,ho,fun e he hbe=>by
     have h1:=pR hok ho e he hbe;rw[hlf _ (by omega)]
     exact hib _ h1⟩
    rw[hnil]at this
    cases this
   ·skip
    obtain⟨h1,o',ho',h2⟩:=eQ.1 hi;have hilt:=(Array.getElem?_eq_some_iff.1 ho').1;have hdeps: ∀k,jV ops i k=true->l.getD k false=true:=fun k hk=>by
     obtain⟨e,he,hb,hon⟩:=(iI ho').1 hk;rw[<-hon];exact h2 e he hb
    have him:i<m:=by
     rcases eg i m with h3|h3
     ·exact h3
     ·exfalso
      obtain⟨j,hj,hj0,hjb⟩:=uL m (l:=l) (by omega);by_cases hjt:j∈pre
      ·obtain⟨oj,dj,hoj,_⟩:=gY hok hj
       have hjr:j∈Region.ready .any ops l:=eQ.2 ⟨hj0,oj,hoj,fun e he hbe=>by
        have h1:=pR hok hoj e he hbe;rw[hlf _ (by omega)]
        exact hjb _ h1⟩
       exact sE hft j hjt hjr
      ·have h4:=kr (D:=fun i=>l.getD i false=true) hC 4 i j hdeps (Bk hok h3 hilt j hj hjt);rw[hlf j (by omega)]at h4;rw[hj0]at h4
       cases h4
    obtain⟨o,d,ho,hd,hdl,hsel,hdef,huniq,hlook⟩:=gY hok him;rw[ho]at ho';injection ho' with ho';subst ho';obtain⟨c,Φ,hs,g1,g2,g3,g4,g5⟩:=na hok hTr h hC hI i (by omega);have hlen:i<(ops.toList.take m).length:=by simp;omega
    have hget:(ops.toList.take m)[i]=o:=by
     have:=(Array.getElem?_eq_some_iff.1 ho).2;simp[this]
    rw[am hlen,hget]at hs;have same:fy ops o a c:=fun t ht=>by
     by_cases hex: ∃(k:Nat) (oi:Oper),k<m/\ops[k]? =some oi/\oi.dst=some t
     ·obtain⟨k,oi,hkm,hoi,hdi⟩:=hex;have hdir:=hlook k hkm oi t hoi hdi ht;have hik:k<i:=by
       obtain⟨e,he,hb,hon⟩:=(iI ho).1 hdir;have:=pR hok ho e he hb;omega
      exact(g4 k oi t hik (hdeps k hdir) hoi hdi).symm
     ·rw[hI.base t (fun i oi him hoi hdi=>hex ⟨i,oi,him,hoi,hdi⟩),g3 t (fun i oi him hoi hdi=>hex ⟨i,oi,him,hoi,hdi⟩)]
    have hz:a.tmps.size=c.tmps.size:=by rw[hI.size,g1]
    have hC':iv ops (fun j=>(l.setIfInBounds i true).getD j false=true):=fun j k hj hjk=>by
     have set: ∀j,(l.setIfInBounds i true).getD j false=if j=i then true else l.getD j false:=fun j=>by
      simp only[az,a_];by_cases h:i=j
      ·subst h;simp[hl,hilt]
      ·rw[if_neg h,if_neg (fun e=>h e.symm)]
     simp only[set]at hj⊢;by_cases hji:j=i
     ·subst hji;by_cases hki:k=j
      ·rw[if_pos hki]
      ·rw[if_neg hki];exact hdeps k hjk
     ·rw[if_neg hji]at hj;by_cases hki:k=i
      ·rw[if_pos hki]
      ·rw[if_neg hki];exact hC j k hj hjk
    -- the step: a value v in dn d
    have go: ∀v w',(if late=some i then U w w' else T w w')->Ar P ops tab U w0 i o d (a.put o.dst v)->(Region.wanted o (yielded ops a.tmps)=true-> ∀Sh F,tab i=some (Sh,F)->F v w')->(nw i=true-> ∀g,pB v=some g->w.heap.size<=g)->
      kQ P ops pre (U w0) WO N (ops.size-m+n) (l.setIfInBounds i true) (a.put o.dst v) w':=by
     intro v w' hstep0 hOk hFact hNew;have hstep:U w w':=by
      by_cases hl:late=some i
      ·rw[if_pos hl]at hstep0;exact hstep0
      ·rw[if_neg hl]at hstep0;exact hTU _ _ hstep0
     have hp: ∀t,dn (a.put o.dst v) t=if t=d then v else dn a t:=fun t=>by rw[hd];exact gd _ _ _ _ (by rw[hI.size];exact hdl)
     have other: ∀(j:Nat) (oj:Oper) (dj:Nat),(l.setIfInBounds i true).getD j false=true->j≠i->j<m->ops[j]? =some oj->oj.dst=some dj->l.getD j false=true/\dj≠d/\fy ops oj (a.put o.dst v) a:=by
      intro j oj dj hj hji hjm hoj hdj;have hj':l.getD j false=true:=by
       simp only[az,a_]at hj⊢;rw[if_neg (fun e=>hji e.symm)]at hj;exact hj
      refine⟨hj',fun e=>huniq j hjm hji oj hoj (by rw[hdj,e]),fun t ht=> ?_⟩;rw[hp];by_cases htd:t=d
      ·subst htd;obtain⟨oj2,dj2,hoj2,_,_,_,_,_,hlook2⟩:=gY hok hjm;rw[hoj]at hoj2;injection hoj2 with hoj2;subst hoj2;have:=hC j i hj' (hlook2 i him o t ho hd ht);simp only[]at this;rw[hlf i hilt,h1]at this
       cases this
      ·rw[if_neg htd]
     refine ih _ _ _ ?_ (by simpa using hl) ?_ hC' ⟨hTt _ _ _ hI.step hstep,?_,by rw[dN,hI.size],by rw[im,hI.defers],?_,?_,?_,?_⟩
     ·have:=uK l i h1 m;rw[if_pos him]at this;omega
     ·intro j hj hmj;rw[oA _ _ _ (by omega),if_neg (by omega)];exact hm j hj hmj
     ·intro hE;have hni:late≠some i:=fun e=>hE i e (by simp[az,hl,hilt]);rw[if_neg hni]at hstep0;refine hTT _ _ _ (hI.early fun x hx hDx=>hE x hx ?_) hstep0;simp only[az,a_]at hDx⊢;by_cases hxi:i=x
      ·subst hxi;simp[hl,hilt]
      ·rw[if_neg hxi];exact hDx
     ·intro t ht;rw[hp,if_neg (fun e=>ht i o him ho (by rw[hd,e]))];exact hI.base t ht
     ·intro j oj dj hj hjm hoj hdj;by_cases hji:j=i
      ·subst hji;rw[ho]at hoj;injection hoj with hoj;subst hoj;rw[hd]at hdj;injection hdj with hdj;subst hdj;exact hOk
      ·obtain⟨hj',hne,hsame⟩:=other j oj dj hj hji hjm hoj hdj;obtain⟨oj2,_,hoj2,_,_,hsel2,_,_⟩:=gY hok hjm;rw[hoj]at hoj2;injection hoj2 with hoj2;subst hoj2;have hok0:=hI.ok j oj dj hj' hjm hoj hdj;unfold Ar at hok0⊢;rw[hsame.wanted (dN _ _ _),hsame.exec hsel2,hp,if_neg hne];exact hok0
     ·intro j oj dj hj hjm hoj hdj hwj Sh F ht;rw[hp];by_cases hji:j=i
      ·subst hji;rw[ho]at hoj;injection hoj with hoj;subst hoj;rw[hd]at hdj;injection hdj with hdj;subst hdj;rw[if_pos rfl];have hself:fy ops o (a.put o.dst v) a:=fun t ht'=>by
        rw[hp,if_neg];intro e;subst e;have:=hdeps j (hlook j him o t ho hd ht');rw[hlf j hilt,h1]at this
        cases this
       exact hFact (by rw[<-hself.wanted (dN _ _ _)];exact hwj) Sh F ht
      ·obtain⟨hj',hne,hsame⟩:=other j oj dj hj hji hjm hoj hdj;rw[if_neg hne];have hF:=hI.fact j oj dj hj' hjm hoj hdj (by rw[<-hsame.wanted (dN _ _ _)];exact hwj) Sh F ht;by_cases hl:late=some i
       ·exact hUs j Sh F (fun e=>hji (by rw[hl]at e;injection e with e;exact e.symm)) ht _ _ _ hF hstep
       ·rw[if_neg hl]at hstep0;exact hTs j Sh F ht _ _ _ hF hstep0
     ·intro j k oj ok dj dk hj hk hjm hkm hoj hok' hdj hdk hnj hnk hne hwj hwk g hgj hgk;have old: ∀(k:Nat) (ok:Oper) (dk:Nat),(l.setIfInBounds i true).getD k false=true->k≠i->k<m->ops[k]? =some ok->ok.dst=some dk->nw k=true->Region.wanted ok (yielded ops (a.put o.dst v).tmps)=true->
        l.getD k false=true/\Region.wanted ok (yielded ops a.tmps)=true/\dn (a.put o.dst v) dk=dn a dk/\ ∀g,pB (dn a dk)=some g->g<w.heap.size:=fun k ok dk hk hki hkm hok hdk hnk hwk=>by
       obtain⟨hk',hne,hsame⟩:=other k ok dk hk hki hkm hok hdk;have hwk':Region.wanted ok (yielded ops a.tmps)=true:=by rw[<-hsame.wanted (dN _ _ _)];exact hwk
       refine⟨hk',hwk',by rw[hp,if_neg hne],fun g hg=> ?_⟩;obtain⟨Sh,F,ht,hold⟩:=hNw k hnk;exact hold _ _ (hI.fact k ok dk hk' hkm hok hdk hwk' Sh F ht) g hg
      by_cases hji:j=i
      ·subst hji;rw[ho]at hoj;injection hoj with hoj;subst hoj;rw[hd]at hdj;injection hdj with hdj;subst hdj;rw[hp,if_pos rfl]at hgj;obtain⟨_,_,e1,e2⟩:=old k ok dk hk (fun e=>hne e.symm) hkm hok' hdk hnk hwk;rw[e1]at hgk;have h1:=hNew hnj g hgj;have h2:=e2 g hgk;omega
      ·obtain⟨j1,j2,e1,e2⟩:=old j oj dj hj hji hjm hoj hdj hnj hwj;rw[e1]at hgj;by_cases hki:k=i
       ·subst hki;rw[ho]at hok';injection hok' with hok';subst hok';rw[hd]at hdk;injection hdk with hdk;subst hdk;rw[hp,if_pos rfl]at hgk;have h1:=hNew hnk g hgk;have h2:=e2 g hgj;omega
       ·obtain⟨k1,k2,e3,_⟩:=old k ok dk hk hki hkm hok' hdk hnk hwk;rw[e3]at hgk;exact hI.pair j k oj ok dj dk j1 k1 hjm hkm hoj hok' hdj hdk hnj hnk hne j2 k2 g hgj hgk
    have self: ∀v,fy ops o (a.put o.dst v) a:=fun v t ht'=>by
     have hp: ∀t,dn (a.put o.dst v) t=if t=d then v else dn a t:=fun t=>by rw[hd];exact gd _ _ _ _ (by rw[hI.size];exact hdl)
     rw[hp,if_neg];intro e;subst e;have:=hdeps i (hlook i him o t ho hd ht');rw[hlf i hilt,h1]at this
     cases this
    have own: ∀v,dn (a.put o.dst v) d=v:=fun v=>by rw[hd,gd _ _ _ _ (by rw[hI.size];exact hdl),if_pos rfl]
    obtain⟨_,hs1⟩:=hs
    cases hw:Region.wanted o (yielded ops a.tmps)with
    |true=>
     have hs1:=hs1 (by rw[<-same.wanted hz];exact hw);refine hW.run ho hw hdef ?_
     cases ht:tab i with
     |none=>
      rw[ht]at hs1;obtain⟨v,hv,_⟩:=hs1;unfold Oper.wp;rw[same.exec hsel,hv w hI.step];simp only[Oper.upon];refine⟨hI.step,go v w (by split;exact hTU _ _ (hT1 w);exact hT1 w) ⟨fun hf=> ?_,fun _=> ?_⟩ (fun _ Sh F h=>by rw[ht]at h;cases h) (fun hn=>by obtain⟨_,_,h,_⟩:=hNw i hn;rw[ht]at h;cases h)⟩
      ·rw[(self v).wanted (dN _ _ _),hw]at hf;cases hf
      ·rw[ht];intro w1 hw1;rw[(self v).exec hsel,same.exec hsel,own];exact hv w1 hw1
     |some sf=>
      obtain⟨Sh,F⟩:=sf;rw[ht]at hs1;obtain⟨_,hy,_⟩:=hs1;refine Yl.to (c:=c) (by rw[hI.defers,g2]) hd (by rw[g1];exact hdl) (same.exec hsel) (hy w (by split;exact hI.early (fun x hx hDx=>by rename_i hli;rw[hli]at hx;injection hx with hx;subst hx;rw[hlf i hilt,h1]at hDx;cases hDx);exact hI.step) fun p hp ha=> ?_) ?_
      ·obtain⟨hlt,op,dp,Sh',F',hop,hdp,htp,hF,hwp⟩:=g5 p hp;have hDp:l.getD p.1 false=true:=kr (D:=fun i=>l.getD i false=true) hC f i p.1 hdeps ha;rw[hF,g4 p.1 op dp hlt hDp hop hdp];exact hI.fact p.1 op dp hDp (by omega) hop hdp (hwp hDp) Sh' F' htp
      ·rintro v w' ⟨hst,hSh,hF,hnew⟩;refine⟨(hTt _ _ _ hI.step (by by_cases hl:late=some i;rw[if_pos hl]at hst;exact hst;rw[if_neg hl]at hst;exact hTU _ _ hst)),go v w' hst ⟨fun hf=> ?_,fun _=> ?_⟩ (fun _ Sh' F' h=> ?_) hnew⟩
       ·rw[(self v).wanted (dN _ _ _),hw]at hf;cases hf
       ·rw[ht,own];exact hSh
       ·rw[ht]at h;injection h with h;injection h with e1 e2;subst e2;exact hF
    |false=>
     have hwf:=hw;refine hW.skip ho hw (hI.step) ?_;refine go undef w (by split;exact hTU _ _ (hT1 w);exact hT1 w) ⟨fun _=>own undef,fun hf=> ?_⟩ (fun h=>by rw[hwf]at h;cases h) (fun _ g hg=>by cases hg);rw[(self undef).wanted (dN _ _ _),hwf]at hf
     cases hf
theorem th {S':World->Prop} (hW:kM P QQ ops S' WO): ∀(fuel:Nat) (l:Array Bool) (a:Act) (w:World),kQ P ops [] S WO N fuel l a w->pA WO N ops fuel l a w
 |0,_,_,_,h=>h
 |fuel+1,l,a,w,h=>⟨h.1,fun i hi=>hW.mono (fun a w h'=>th hW fuel _ a w h') (h.2 i hi)⟩
theorem ti {TL:Act->World->Prop} (hW:oR P QQ ops WO) {a:Act} {w:World} (m f:Nat) (tab:Cf) (late:Option Nat) (nw:Nat->Bool) (T U:World->World->Prop) (hok:uW [] ops m a.tmps.size=true)
  (hTL: ∀(l:Array Bool) (a:Act) (w:World),l.size=ops.size->(∀i,i<ops.size->l.getD i true=decide (i<m))->TL a w->pA WO N ops (ops.size-m+0) l a w)
  (hTr: ∀w,T w w) (hTt: ∀a b c,U a b->U b c->U a c) (hTU: ∀a b,T a b->U a b) (hTT: ∀a b c,T a b->T b c->T a c) (hTs: ∀i Sh F,tab i=some (Sh,F)-> ∀v w w',F v w->T w w'->F v w')
  (hUs: ∀i Sh F,late≠some i->tab i=some (Sh,F)-> ∀v w w',F v w->U w w'->F v w')
  (hNw: ∀i,nw i=true-> ∃Sh F,tab i=some (Sh,F)/\ ∀v w,F v w-> ∀g,pB v=some g->g<w.heap.size)
  (h:eF P QQ ops f tab late nw T U w.drew (fun a Φ=> ∀w',U w.drew w'->(∀p∈Φ,p.2 w')->oU ops m nw (fun _=>True) a->TL a w') (ops.toList.take m) 0 a []):pA WO N ops ops.size (Array.replicate ops.size false) a w.drew:=by
 have hu:rF m (Array.replicate ops.size false)=m:=by
  have: ∀k,k<=ops.size->rF k (Array.replicate ops.size false)=k:=by
   intro k
   induction k with
   |zero=>intro _;rfl
   |succ k ih=>
    intro hk;rw[lB,ih (by omega),if_pos];simp[az,show k<ops.size from by omega]
  exact this m (pS hok)
 have:=pU (pre:=[]) (TL:=TL) rfl (fun j hj=>by cases hj) hTL (hW.toS (S:=U w.drew)) hok (hTU _ _ (hTr w.drew)) hTt hTU hTT hTs hUs hTr hNw h m (Array.replicate ops.size false) a w.drew hu.symm (by simp) (fun i hi _=>by simp[az,hi])
  (fun i j hi=>by
   simp only[az,dz]at hi
   split at hi<;>simp at hi)
  ⟨hTU _ _ (hTr _),fun _=>hTr _,rfl,rfl,fun _ _=>rfl,fun i o d hi=>by
   simp only[az,dz]at hi;split at hi<;>simp at hi,fun i o d hi=>by
   simp only[az,dz]at hi;split at hi<;>simp at hi,fun i j oi oj di dj hi=>by
   simp only[az,dz]at hi
   split at hi<;>simp at hi⟩
 rw[show ops.size-m+m=ops.size from by have:=pS hok;omega]at this;exact th (hW.toS (S:=U w.drew)) _ _ _ _ this
theorem eF.fin {P:Program} {ops:Array Oper} {f:Nat} {tab:Cf} {late:Option Nat} {nw:Nat->Bool} {T U:World->World->Prop} {w0:World} {Fin Fin':Act->List (Nat×(World->Prop))->Prop} (hF: ∀a Φ,Fin a Φ->Fin' a Φ):
  ∀(l:List Oper) (i:Nat) (a:Act) (Φ:List (Nat×(World->Prop))),eF P QQ ops f tab late nw T U w0 Fin l i a Φ->eF P QQ ops f tab late nw T U w0 Fin' l i a Φ
 | [],_,a,Φ,h=>hF a Φ h
 |o::rest,i,a,Φ,h=>by
  refine⟨fun hw=>eF.fin hF rest _ _ _ (h.1 hw),fun hw=> ?_⟩;have h2:=h.2 hw
  cases ht:tab i with
  |none=>
   rw[ht]at h2;obtain⟨v,h3,h4⟩:=h2;exact⟨v,h3,eF.fin hF rest _ _ _ h4⟩
  |some sf=>
   obtain⟨Sh,F⟩:=sf;rw[ht]at h2;obtain⟨h3,h4,h5⟩:=h2;exact⟨h3,h4,fun v hv=>eF.fin hF rest _ _ _ (h5 v hv)⟩
theorem tJ (hW:oR P QQ ops WO) (hok:EH ops m size=true) (l:Array Bool) (a:Act) (w:World) (hl:l.size=ops.size) (h: ∀i,i<ops.size->l.getD i true=decide (i<m)) (ht:mS WO N (List.range' m (ops.size-m)) a w):pA WO N ops (ops.size-m+0) l a w:=
 rJ (hW.toS (S:=fun _=>True)) (mW hok).1 (mW hok).2 (ops.size-m+0) m l a w (by omega) (ah _) (pS (mW hok).1) hl h ht
theorem jt {Q:Exit->Act->World->Prop}:oR P Q ops (wpOp P ops Q) where
 mono:=wpOp_mono
 skip:=fun ho hw h=>by unfold wpOp;simp only[ho,hw];exact h
 run:=fun ho hw _ h=>by
  unfold wpOp;simp only[ho,hw,if_true];refine .inl ?_;unfold Oper.wp at*;generalize (execOp _ _).run P _=r at*
  cases r with
  |ok x w'=>
   cases x<;>simp only[Oper.upon]at h⊢ <;>first
    |exact h
    |exact Calls.mono h (fun e w'' he=>by cases e<;>first|exact he|exact he _ rfl|exact(by obtain⟨x,y,hx⟩:=he;exact⟨x,y,hx x rfl⟩))
  |halt x w'=>cases x<;>simp only[Oper.upon]at h⊢;exact h _ rfl
theorem oP {Q:Exit->Act->World->Prop}: ∀(f:Nat) (l:Array Bool) (a:Act) (w:World),pA (wpOp P ops Q) (Q .normal) ops f l a w->wpAny P .any ops Q f l a w
 |0,_,_,_,h=>h
 |f+1,_,_,_,h=>⟨h.1,fun i hi=>wpOp_mono (fun a w=>oP f _ a w) (h.2 i hi)⟩
theorem pK {Q:Exit->Act->World->Prop}: ∀(l:List Nat),mS (wpOp P ops Q) (Q .normal) l=wpOps P ops Q l
 | []=>by funext a w;rfl
 |i::l=>by funext a w;rw[wpOps_cons,<-pK l];rfl
theorem rK {Q:Exit->Act->World->Prop} (m:Nat):mS (wpOp P ops Q) (Q .normal) (List.range' m (ops.size-m))=wpList P ops Q (ops.toList.drop m):=by
 rw[pK,<-wpOps_eq_wpList (P:=P) (ops:=ops) (Q:=Q) (ops.toList.drop m) m (fun j=>by simp),bK,Array.length_toList]
theorem h_ {id:Nat} {Q:Exit->Act->World->Prop} {a:Act} {w:World} (m f:Nat) (tab:Cf) (late:Option Nat) (T U:World->World->Prop) (hm:P.follows .mixedOrders=true) (hok:EH ops m a.tmps.size=true)
  (hTr: ∀w,T w w) (hTt: ∀a b c,U a b->U b c->U a c) (hTU: ∀a b,T a b->U a b) (hTT: ∀a b c,T a b->T b c->T a c) (hTs: ∀i Sh F,tab i=some (Sh,F)-> ∀v w w',F v w->T w w'->F v w')
  (hUs: ∀i Sh F,late≠some i->tab i=some (Sh,F)-> ∀v w w',F v w->U w w'->F v w')
  (h:eF P Q ops f tab late (fun _=>false) T U w.drew (fun a Φ=> ∀w',U w.drew w'->(∀p∈Φ,p.2 w')->wpList P ops Q (ops.toList.drop m) a w') (ops.toList.take m) 0 a []):(Code.region id ops true).wp P Q a w:=by
 refine wp_region_any hm (oP _ _ _ _ (ti jt m f tab late (fun _=>false) T U (mW hok).1 (tJ jt hok) hTr hTt hTU hTT hTs hUs (fun i h=>by cases h) ?_));rw[rK];exact eF.fin (fun a Φ h w' h1 h2 _=>h w' h1 h2) _ _ _ _ h
end
abbrev Au:=Nat×(Value->Prop)×(Value->World->Prop)
def fC:List Au->Cf
 | []=>fun _=>none
 |p::l=>fun i=>if i=p.1 then some p.2 else fC l i
def kV (T:World->World->Prop):List Au->Prop
 | []=>True
 |p::l=>(∀v w w',p.2.2 v w->T w w'->p.2.2 v w')/\kV T l
theorem kV.out {T:World->World->Prop}: ∀{l:List Au},kV T l-> ∀i Sh F,fC l i=some (Sh,F)-> ∀v w w',F v w->T w w'->F v w'
 | [],_,i,Sh,F,h=>by simp[fC]at h
 |p::l,hs,i,Sh,F,h=>by
  simp only[fC]at h;split at h
  ·injection h with h;intro v w w' hF hT;have:=hs.1 v w w';rw[h]at this;exact this hF hT
  ·exact kV.out hs.2 i Sh F h
section
variable {QQ:Exit->Act->World->Prop}
variable {f:Nat} {tab:Cf} {late:Option Nat} {nw:Nat->Bool} {T U:World->World->Prop} {w0:World} {Fin:Act->List (Nat×(World->Prop))->Prop} {o:Oper} {rest:List Oper} {i:Nat} {a:Act} {Φ:List (Nat×(World->Prop))}
theorem bM (hw:Region.wanted o (yielded ops a.tmps)=false) (h:eF P QQ ops f tab late nw T U w0 Fin rest (i+1) (a.put o.dst undef) Φ):eF P QQ ops f tab late nw T U w0 Fin (o::rest) i a Φ:=
 ⟨fun _=>h,fun h'=>by rw[hw]at h';cases h'⟩
theorem we (v:Value) (hw:Region.wanted o (yielded ops a.tmps)=true) (ht:tab i=none) (hr: ∀w,U w0 w->(execOp a.eval o).run P w= .ok (.value v) w)
  (h:eF P QQ ops f tab late nw T U w0 Fin rest (i+1) (a.put o.dst v) Φ):eF P QQ ops f tab late nw T U w0 Fin (o::rest) i a Φ:=
 ⟨fun h'=>(by rw[hw]at h';cases h'),fun _=>by rw[ht];exact⟨v,hr,h⟩⟩
theorem fg (Sh:Value->Prop) (F:Value->World->Prop) (hw:Region.wanted o (yielded ops a.tmps)=true) (ht:tab i=some (Sh,F)) (he: ∃v,Sh v) (hl:late≠some i)
  (hy: ∀w,U w0 w->(∀p∈Φ,ma ops f i p.1=true->p.2 w)-> ∀(K:Act->World->Prop),(∀v w',T w w'->Sh v->F v w'->K (a.put o.dst v) w')->o.wp P a w K (xC QQ))
  (h: ∀v,Sh v->eF P QQ ops f tab late nw T U w0 Fin rest (i+1) (a.put o.dst v) ((i,F v)::Φ)) (hn:nw i=false:=by rfl):eF P QQ ops f tab late nw T U w0 Fin (o::rest) i a Φ:=
 ⟨fun h'=>(by rw[hw]at h';cases h'),fun _=>by
  rw[ht]
  exact⟨he,fun w hU hp K hK=>hy w (by rw[if_neg hl]at hU;exact hU) hp K fun v w' h1 h2 h3=>hK v w' ⟨by rw[if_neg hl];exact h1,h2,h3,fun h'=>by rw[hn]at h';cases h'⟩,h⟩⟩
theorem uR (Sh:Value->Prop) (F:Value->World->Prop) (hw:Region.wanted o (yielded ops a.tmps)=true) (ht:tab i=some (Sh,F)) (he: ∃v,Sh v) (hl:late≠some i)
  (hy: ∀w,U w0 w->(∀p∈Φ,ma ops f i p.1=true->p.2 w)-> ∀(K:Act->World->Prop),(∀v w',T w w'->Sh v->F v w'->(∀g,pB v=some g->w.heap.size<=g)->K (a.put o.dst v) w')->o.wp P a w K (xC QQ))
  (h: ∀v,Sh v->eF P QQ ops f tab late nw T U w0 Fin rest (i+1) (a.put o.dst v) ((i,F v)::Φ)):eF P QQ ops f tab late nw T U w0 Fin (o::rest) i a Φ:=
 ⟨fun h'=>(by rw[hw]at h';cases h'),fun _=>by
  rw[ht]
  exact⟨he,fun w hU hp K hK=>hy w (by rw[if_neg hl]at hU;exact hU) hp K fun v w' h1 h2 h3 h4=>hK v w' ⟨by rw[if_neg hl];exact h1,h2,h3,fun _=>h4⟩,h⟩⟩
theorem sx (v:Value) (hr: ∀w,U w0 w->(execOp a.eval o).run P w= .ok (.value v) w) (h:eF P QQ ops f tab late nw T U w0 Fin rest (i+1) (a.put o.dst v) Φ)
  (hw:Region.wanted o (yielded ops a.tmps)=true:=by rfl) (ht:tab i=none:=by rfl):eF P QQ ops f tab late nw T U w0 Fin (o::rest) i a Φ:=we v hw ht hr h
theorem so {Sh:Value->Prop} {F:Value->World->Prop} (hy: ∀w,U w0 w->(∀p∈Φ,ma ops f i p.1=true->p.2 w)-> ∀(K:Act->World->Prop),(∀v w',T w w'->Sh v->F v w'->K (a.put o.dst v) w')->o.wp P a w K (xC QQ))
  (h: ∀v,Sh v->eF P QQ ops f tab late nw T U w0 Fin rest (i+1) (a.put o.dst v) ((i,F v)::Φ)) (hw:Region.wanted o (yielded ops a.tmps)=true:=by rfl) (ht:tab i=some (Sh,F):=by rfl) (he: ∃v,Sh v:=by exact⟨_,rfl⟩) (hl:late≠some i:=by simp) (hn:nw i=false:=by rfl):eF P QQ ops f tab late nw T U w0 Fin (o::rest) i a Φ:=fg Sh F hw ht he hl hy h hn
theorem kf (Sh:Value->Prop) (F:Value->World->Prop) (hw:Region.wanted o (yielded ops a.tmps)=true) (ht:tab i=some (Sh,F)) (he: ∃v,Sh v) (hl:late=some i)
  (hy: ∀w,T w0 w->(∀p∈Φ,ma ops f i p.1=true->p.2 w)-> ∀(K:Act->World->Prop),(∀v w',U w w'->Sh v->F v w'->K (a.put o.dst v) w')->o.wp P a w K (xC QQ))
  (h: ∀v,Sh v->eF P QQ ops f tab late nw T U w0 Fin rest (i+1) (a.put o.dst v) ((i,F v)::Φ)) (hn:nw i=false:=by rfl):eF P QQ ops f tab late nw T U w0 Fin (o::rest) i a Φ:=
 ⟨fun h'=>(by rw[hw]at h';cases h'),fun _=>by
  rw[ht]
  exact⟨he,fun w hU hp K hK=>hy w (by rw[if_pos hl]at hU;exact hU) hp K fun v w' h1 h2 h3=>hK v w' ⟨by rw[if_pos hl];exact h1,h2,h3,fun h'=>by rw[hn]at h';cases h'⟩,h⟩⟩
end
end
def au (w w':World):Prop:=RowKit.Below w.heap.size w w'
theorem au.refl (w:World):au w w:=RowKit.Below.refl _ _
theorem au.size {w w':World} (h:au w w'):w.heap.size<=w'.heap.size:=RowKit.Below.size h
theorem au.obj {w w':World} (h:au w w') {b:Nat} (hb:b<w.heap.size):w'.heap[b]? =w.heap[b]? :=RowKit.Below.block h b hb
theorem au.trans {a b c:World} (h:au a b) (k:au b c):au a c:=RowKit.Below.trans h (RowKit.Below.mono k h.size)
theorem au.un {w w':World} (h:au w.drew w'):au w w':=⟨h.os,h.tape,h.output,h.size,h.block⟩
theorem ay {P:Program} {ops:Array Oper} {id:Nat} {Q:Exit->Act->World->Prop} {a:Act} {w:World} (m f:Nat) (l:List Au) (hm:P.follows .mixedOrders=true) (hok:EH ops m a.tmps.size=true) (hs:kV au l)
  (h:eF P Q ops f (fC l) none (fun _=>false) au au w.drew (fun a Φ=> ∀w',au w.drew w'->(∀p∈Φ,p.2 w')->wpList P ops Q (ops.toList.drop m) a w') (ops.toList.take m) 0 a []):(Code.region id ops true).wp P Q a w:=
 h_ m f (fC l) none au au hm hok au.refl (fun _ _ _=>au.trans) (fun _ _ h=>h) (fun _ _ _=>au.trans) hs.out (fun i Sh F _=>hs.out i Sh F) h
def pN (x:Nat) (T:World->World->Prop):List Au->Prop
 | []=>True
 |p::l=>(p.1=x\/ ∀v w w',p.2.2 v w->T w w'->p.2.2 v w')/\pN x T l
theorem pN.out {x:Nat} {T:World->World->Prop}: ∀{l:List Au},pN x T l-> ∀i Sh F,some x≠some i->fC l i=some (Sh,F)-> ∀v w w',F v w->T w w'->F v w'
 | [],_,i,Sh,F,_,h=>by simp[fC]at h
 |p::l,hs,i,Sh,F,hx,h=>by
  simp only[fC]at h;split at h
  ·rename_i hi;injection h with h;intro v w w' hF hT;have:=(hs.1.resolve_left (fun e=>hx (by rw[hi,e]))) v w w';rw[h]at this;exact this hF hT
  ·exact pN.out hs.2 i Sh F hx h
theorem au.grownBy {w w':World} (he:au w w') (row:Option Nat):w.grownBy w' row:=⟨he.os,he.tape,he.output,he.size,fun k hk _=>he.obj hk⟩
theorem bm {a b c:World} {row:Option Nat} (h:a.grownBy b row) (k:b.grownBy c row):a.grownBy c row:=
 ⟨k.os.trans h.os,k.tape.trans h.tape,k.output.trans h.output,ax h.size k.size,fun i hi hn=>(k.block i (aA hi h.size) hn).trans (h.block i hi hn)⟩
theorem bA {w w':World} {row:Option Nat} (h:w.drew.grownBy w' row):w.grownBy w' row:=⟨h.os,h.tape,h.output,h.size,h.block⟩
theorem oZ {P:Program} {ops:Array Oper} {id:Nat} {Q:Exit->Act->World->Prop} {a:Act} {w:World} (m f:Nat) (l:List Au) (x:Nat) (row:Option Nat) (hm:P.follows .mixedOrders=true) (hok:EH ops m a.tmps.size=true)
  (hs:kV au l) (hx:pN x (fun w w'=>w.grownBy w' row) l)
  (h:eF P Q ops f (fC l) (some x) (fun _=>false) au (fun w w'=>w.grownBy w' row) w.drew (fun a Φ=> ∀w',w.drew.grownBy w' row->(∀p∈Φ,p.2 w')->wpList P ops Q (ops.toList.drop m) a w') (ops.toList.take m) 0 a []):(Code.region id ops true).wp P Q a w:=
 h_ m f (fC l) (some x) au (fun w w'=>w.grownBy w' row) hm hok au.refl (fun _ _ _=>bm) (fun _ _ h=>h.grownBy _) (fun _ _ _=>au.trans) hs.out hx.out h
def dL (Q:Exit->Act->World->Prop):Exit->Act->World->Prop:=fun e a w=>match e with
 | .normal=>Q .normal a w
 | _=>False
theorem dL.imp {Q:Exit->Act->World->Prop}: ∀(e:Exit) (a:Act) (w:World),dL Q e a w->Q e a w:=fun e a w h=>by
 cases e<;>first|exact h|exact(h:False).elim
section
variable {P:Program} {ops:Array Oper} {Q:Exit->Act->World->Prop} {S:World->Prop}
def Ee (P:Program) (ops:Array Oper) (Q:Exit->Act->World->Prop) (S:World->Prop) (i:Nat) (K:Act->World->Prop) (a:Act) (w:World):Prop:=wpOp P ops Q i (fun a' w'=>S w'/\K a' w') a w
theorem j':kM P Q ops S (Ee P ops Q S) where
 mono:=fun h=>wpOp_mono fun a w hk=>⟨hk.1,h a w hk.2⟩
 skip:=fun ho hw hs h=>by unfold Ee wpOp;simp only[ho,hw];exact⟨hs,h⟩
 run:=fun ho hw hd h=>by
  have:=jt (P:=P) (ops:=ops) (Q:=Q).run ho hw hd h;exact this
def mR (P:Program) (QQ:Exit->Act->World->Prop) (ops:Array Oper) (N:Act->World->Prop) (S:World->Prop):List Oper->Act->World->Prop
 | [],a,w=>N a w
 |o::l,a,w=>Region.wanted o (yielded ops a.tmps)=true/\(∀c,o.op≠ .defer c)/\o.wp P a w (fun a' w'=>S w'/\mR P QQ ops N S l a' w') (xC QQ)
theorem aH {QQ:Exit->Act->World->Prop} {N:Act->World->Prop} {o:Oper} {l:List Oper} {a:Act} {w:World} (hw:Region.wanted o (yielded ops a.tmps)=true) (hd: ∀c,o.op≠ .defer c)
  (h: ∀K:Act->World->Prop,(∀a' w',S w'->mR P QQ ops N S l a' w'->K a' w')->o.wp P a w K (xC QQ)):mR P QQ ops N S (o::l) a w:=⟨hw,hd,h _ fun _ _ h1 h2=>⟨h1,h2⟩⟩
theorem b_ {QQ Q:Exit->Act->World->Prop} {a:Act} {w:World} (h:wpList P ops Q [] a w):mR P QQ ops (Q .normal) S [] a w:=h
theorem nN {N:Act->World->Prop}: ∀(n k:Nat) (a:Act) (w:World),k+n=ops.size->mR P Q ops N S (ops.toList.drop k) a w->mS (Ee P ops Q S) N (List.range' k n) a w
 |0,k,a,w,hk,h=>by
  rw[aI (by simp;omega)]at h;exact h
 |n+1,k,a,w,hk,h=>by
  have hl:k<ops.toList.length:=by simp;omega
  rw[am hl]at h;obtain⟨h1,h2,h3⟩:=h;have ho:ops[k]? =some ops.toList[k]:=by simp
  show Ee P ops Q S k (mS (Ee P ops Q S) N (List.range' (k+1) n)) a w;refine j'.run ho h1 h2 ?_;refine stepOk_mono h3 fun a' w' hk'=>⟨hk'.1,nN n (k+1) a' w' (by omega) hk'.2⟩
where
 stepOk_mono {o:Oper} {a:Act} {w:World} {K K':Act->World->Prop} (h:o.wp P a w K (xC Q)) (hk: ∀a w,K a w->K' a w):o.wp P a w K' (xC Q):=Oper.wp_mono hk h
variable {m size:Nat} {pre:List Nat}
theorem mM {tk:List Nat} (hns:Region.noSelect ops=true) (htk:AJ ops tk m=true) (hQ: ∀c a w,¬Q (.panic c) a w): ∀(fuel:Nat) (l:Array Bool) (a:Act) (w:World),S w->iv ops (fun i=>l.getD i false=true)->l.size=ops.size->
  kQ P ops tk S (Ee P ops Q S) (Q .normal) fuel l a w->wpAnyH P .any ops Q S fuel l a w
 |0,_,_,_,_,_,_,h=>h
 |fuel+1,l,a,w,hS,hC,hl,h=>by
  have hset: ∀i,i∈Region.ready .any ops l->iv ops (fun j=>(l.setIfInBounds i true).getD j false=true):=fun i hi j k hj hjk=>by
   obtain⟨_,o,ho,h2⟩:=eQ.1 hi;have hilt:=(Array.getElem?_eq_some_iff.1 ho).1;have set: ∀j,(l.setIfInBounds i true).getD j false=if j=i then true else l.getD j false:=fun j=>by
    simp only[az,a_];by_cases h:i=j
    ·subst h;simp[hl,hilt]
    ·rw[if_neg h,if_neg (fun e=>h e.symm)]
   simp only[set]at hj⊢;by_cases hki:k=i
   ·rw[if_pos hki]
   ·rw[if_neg hki];by_cases hji:j=i
    ·subst hji;obtain⟨e,he,hb,hon⟩:=(iI ho).1 hjk;rw[<-hon];exact h2 e he hb
    ·rw[if_neg hji]at hj;exact hC j k hj hjk
  cases hft:jy ops tk l with
  |some i=>
   simp only[kQ,hft]at h;obtain⟨v,o,ho,hy,hr⟩:=h;obtain⟨hit,hi⟩:=mY hft;refine wpAnyH_first ho (Region.noSelect_spec hns) (fun c a w h=>absurd h (hQ c _ _)) fuel l a w ?_ hi hy hS (mM hns htk hQ fuel _ _ _ hS (hset i hi) (by simpa using hl) hr);intro j oj hoj hji hun hno;refine vW htk hit ho hoj hji ?_ ?_
   ·rw[Bool.eq_false_iff];intro hd;obtain⟨e,he,hb,hon⟩:=(iI hoj).1 hd;exact hno e he hb hon
   ·rw[Bool.eq_false_iff];intro ha;obtain⟨_,o',ho',h2⟩:=eQ.1 hi
    have hd:=kr (D:=fun i=>l.getD i false=true) hC 4 i j (fun k hk=>by
     obtain⟨e,he,hb,hon⟩:=(iI ho').1 hk
     rw[<-hon];exact h2 e he hb) ha
    have hjl:j<l.size:=by rw[hl];exact(Array.getElem?_eq_some_iff.1 hoj).1
    simp only[az,bT hjl,bR]at hd hun;rw[hd]at hun
    cases hun
  |none=>
   simp only[kQ,hft]at h;refine⟨h.1,fun i hi=>wpOp_mono (fun a' w' hk=>⟨hk.1,mM hns htk hQ fuel _ a' w' hk.1 (hset i hi) (by simpa using hl) hk.2⟩) (h.2 i hi)⟩
theorem jG (U:World->World->Prop) (hUr: ∀w,U w w) (hUt: ∀a b c,U a b->U b c->U a c) {id:Nat} {a:Act} {w:World} (m f:Nat) (l:List Au) (ns tk:List Nat) (hm:P.follows .mixedOrders=true) (hok:Ea tk ops m a.tmps.size=true) (htk:AJ ops tk m=true) (hns:Region.noSelect ops=true) (htn:(tk.all fun j=>(fC l j).isNone)=true) (hs:kV U l)
  (hn: ∀i,ns.contains i=true-> ∃Sh F,fC l i=some (Sh,F)/\ ∀v w,F v w-> ∀g,pB v=some g->g<w.heap.size)
  (h:eF P (dL Q) ops f (fC l) none (fun i=>ns.contains i) U U w.drew (fun a Φ=> ∀w',U w.drew w'->(∀p∈Φ,p.2 w')->oU ops m (fun i=>ns.contains i) (fun _=>True) a->mR P (dL Q) ops (Q .normal) (U w.drew) (ops.toList.drop m) a w') (ops.toList.take m) 0 a []):(Code.region id ops true).wp P Q a w:=by
 refine Code.wp_mono dL.imp (wp_region_held (S:=U w.drew) hm ?_);have hmle:=pS (mW hok).1;have h0: ∀i,(Array.replicate ops.size false).getD i false=false:=fun i=>by
  simp only[az,dz];split<;>rfl
 have h0': ∀i,¬(Array.replicate ops.size false).getD i false=true:=fun i h=>by rw[h0]at h;cases h
 have hC0:iv ops (fun i=>(Array.replicate ops.size false).getD i false=true):=fun i j hi=>absurd hi (h0' i);have hu:rF m (Array.replicate ops.size false)=m:=by
  have: ∀k,k<=ops.size->rF k (Array.replicate ops.size false)=k:=by
   intro k
   induction k with
   |zero=>intro _;rfl
   |succ k ih=>
    intro hk;rw[lB,ih (by omega),if_pos];simp[az,show k<ops.size from by omega]
  exact this m hmle
 refine mM (Q:=dL Q) hns htk (fun c a w h=>h) _ _ _ _ (hUr _) hC0 (by simp) ?_
 have:=pU (a0:=a) (pre:=tk) (f:=f) htk (fun j hj=>by
   have:=List.all_eq_true.1 htn j hj
   simpa using this) (rJ (S:=U w.drew) j' (mW hok).1 (mW hok).2 (ops.size-m+0) m · · · (by omega) (ah _) hmle · · ·) (j' (P:=P) (ops:=ops) (Q:=dL Q) (S:=U w.drew)) (mW hok).1 (T:=U) (U:=U) (w0:=w.drew) (tab:=fC l) (late:=none) (nw:=fun i=>ns.contains i) (N:=dL Q .normal) (hUr _) hUt (fun _ _ h=>h) hUt
   hs.out (fun i Sh F _=>hs.out i Sh F) hUr hn
   (eF.fin (fun a Φ h w' h1 h2 h3=>nN _ _ _ _ (by omega) (h w' h1 h2 h3)) _ _ _ _ h) m (Array.replicate ops.size false) a w.drew hu.symm (by simp) (fun i hi _=>by simp[az,hi]) hC0
   ⟨hUr _,fun _=>hUr _,rfl,rfl,fun _ _=>rfl,fun i o d hi=>absurd hi (h0' i),fun i o d hi=>absurd hi (h0' i),fun i j oi oj di dj hi=>absurd hi (h0' i)⟩
 rw[show ops.size-m+m=ops.size from by omega]at this;exact this
theorem cG {id:Nat} {a:Act} {w:World} (m f:Nat) (l:List Au) (ns tk:List Nat) (hm:P.follows .mixedOrders=true) (hok:Ea tk ops m a.tmps.size=true) (htk:AJ ops tk m=true) (hns:Region.noSelect ops=true) (htn:(tk.all fun j=>(fC l j).isNone)=true) (hs:kV au l)
  (hn: ∀i,ns.contains i=true-> ∃Sh F,fC l i=some (Sh,F)/\ ∀v w,F v w-> ∀g,pB v=some g->g<w.heap.size)
  (h:eF P (dL Q) ops f (fC l) none (fun i=>ns.contains i) au au w.drew (fun a Φ=> ∀w',au w.drew w'->(∀p∈Φ,p.2 w')->oU ops m (fun i=>ns.contains i) (fun _=>True) a->mR P (dL Q) ops (Q .normal) (au w.drew) (ops.toList.drop m) a w') (ops.toList.take m) 0 a []):(Code.region id ops true).wp P Q a w:=
 jG au au.refl (fun _ _ _=>au.trans) m f l ns tk hm hok htk hns htn hs hn h
theorem bY {id:Nat} {a:Act} {w:World} (U:World->World->Prop) (hUr: ∀w,U w w) (hUt: ∀a b c,U a b->U b c->U a c) (m f:Nat) (l:List Au) (tk:List Nat) (hm:P.follows .mixedOrders=true) (hok:Ea tk ops m a.tmps.size=true) (htk:AJ ops tk m=true) (hns:Region.noSelect ops=true) (htn:(tk.all fun j=>(fC l j).isNone)=true) (hs:kV U l)
  (h:eF P (dL Q) ops f (fC l) none (fun _=>false) U U w.drew (fun a Φ=> ∀w',U w.drew w'->(∀p∈Φ,p.2 w')->mR P (dL Q) ops (Q .normal) (U w.drew) (ops.toList.drop m) a w') (ops.toList.take m) 0 a []):(Code.region id ops true).wp P Q a w:=
 jG U hUr hUt m f l [] tk hm hok htk hns htn hs (fun i hi=>by cases hi) (eF.fin (fun a Φ h w' h1 h2 _=>h w' h1 h2) _ _ _ _ h)
end
def aG:=@au.refl
def fL:=@au.size
def qd:=@au.trans
end Go.Proofs.YtoedmpgicdekmaaGreatDoor

