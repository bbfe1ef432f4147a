/- Parts of the proof. -/
import Derived.KernelRfl
import Derived.Test.YtoedmpgicdekmaaGreatDoorProg
set_option maxRecDepth 100000
set_option maxHeartbeats 8000000
set_option linter.unusedVariables false
set_option linter.unusedSimpArgs false
set_option linter.defProp false
set_option linter.unusedSectionVars false
namespace Go.Proofs.YtoedmpgicdekmaaGreatDoor
theorem Qn {α:Type _} [BEq α] [LawfulBEq α] {a b:α}:(a==b)=false↔a≠b:=beq_eq_false_iff_ne
theorem Qa {p:Prop} (h:p:=by omega):p:=h
theorem Qb {p:Prop} (h:p:=by kernel_rfl):p:=h
theorem Qc {p:Prop} (h:p:=by simp[IntKind.wrap,IntKind.signed,IntKind.bits];omega):p:=h
theorem Qd {p:Prop} (h:p:=by decide):p:=h
theorem Qe {p:Prop} (h:p:=by simp):p:=h
theorem Qf {p:Prop} (h:p:=by rfl):p:=h
theorem Qg {p:Prop} (h:p:=by simp;omega):p:=h
theorem Qh {p:Prop} (h:p:=by simp only[maxLen];omega):p:=h
theorem Qi {p:Prop} (h:p:=by simp only;omega):p:=h
theorem Qj {p:Prop} (h:p:=by unfold maxLen;omega):p:=h
theorem Qk {p:Prop} (h:p:=by decide+kernel):p:=h
theorem Ql {p:Prop} (h:p:=by simp[Value.oneCell']):p:=h
theorem Qm {p:Prop} (h:p:=by simp[go_sem]):p:=h
def ab:=@Option.some.inj
def ac:=@List.length_append
def ae:=@List.drop_succ_cons
def ag:=@List.length_cons
def ah:=@Nat.le_refl
def ai:=@List.length_nil
def an:=@Bool.and_eq_true
def ap:=@List.drop_eq_getElem_cons
def aw:=@List.drop_zero
def ax:=@Nat.le_trans
def ay:=@List.getElem_mem
def az:=@Array.getD_eq_getD_getElem?
def aA:=@Nat.lt_of_lt_of_le
def aC:=@And.intro
def aD:=@Nat.zero_le
def aE:=@Nat.zero_add
def aF:=@List.getElem_cons_zero
def aH:=@Nat.le_of_lt
def aI:=@List.getElem?_eq_getElem
def aK:=@List.drop_of_length_le
def aL:=@List.append_assoc
def aN:=@Nat.le_of_add_right_le
def aP:=@List.getElem_cons_succ
def aQ:=@Bool.false_eq_true
def aT:=@List.take_succ_eq_append_getElem
def aU:=@List.drop_nil
def aW:=@Int.eq_ofNat_of_zero_le
def aX:=@List.eq_nil_of_length_eq_zero
def aY:=@Nat.zero_mul
def a8:=@List.setIfInBounds_toArray
def be:=@List.getElem?_append_left
def bm:=@Nat.add_zero
def bB:=@List.not_mem_nil
def bC:=@List.length_take
def bD:=@List.getElem?_append_right
def bF:=@Array.getElem?_setIfInBounds
def bG:=@List.flatMap_cons
def bH:=@List.length_drop
def bO:=@List.take_of_length_le
def bP:=@List.getD_eq_getElem?_getD
def bQ:=@List.drop_eq_nil_of_le
def bT:=@List.mem_cons
def bU:=@Nat.ne_of_gt
def bV:=@Array.getElem?_eq_getElem
def bW:=@Int.toNat_natCast
def bX:=@Option.getD_some
def bY:=@List.take_length
def bZ:=@List.set_cons_zero
def b6:=@List.set_cons_succ
def b7:=@List.map_cons
def b_:=@List.getElem?_take
def cC:=@List.all_eq_true
def cD:=@List.mem_of_getElem?
def cH:=@List.mem_singleton
def cK:=@List.getElem?_cons_zero
def cP:=@Nat.one_mul
def db:=@List.take_append_drop
def dg:=@List.getElem?_cons_succ
def dn:=@Bool.or_eq_true
def dt:=@List.map_toArray
def du:=@List.map_nil
def dw:=@List.getElem?_map
def dC:=@Option.isSome_some
def dH:=@Array.toList_push
def dM:=@List.cons.injEq
def dQ:=@Option.isSome_none
def dR:=@Nat.lt_succ_self
def dS:=@List.length_modify
def dU:=@Array.getElem?_replicate
def dX:=@Nat.le_succ
def dY:=@Nat.exists_eq_succ_of_ne_zero
def dZ:=@List.getElem?_modify
def d6:=@List.drop_drop
def ej:=@Array.toList_modify
def eC:=@UInt8.toNat_ofNat'
def eD:=@List.mem_range
def eE:=@Array.any_eq_true'
def eK:=@Ne.symm
def eL:=@List.getElem?_toArray
def eO:=@List.mem_of_find?_eq_some
def eP:=@List.append_nil
def eR:=@Value.slice.injEq
def eS:=@Nat.lt_or_ge
def eT:=@Array.all_eq_true_iff_forall_mem
def e_:=@Nat.add_assoc
def ff:=@List.flatMap_append
def fi:=@Option.getD_none
def fj:=@Option.bind_some
def fC:=@Nat.le_of_eq
def fD:=@Array.getElem?_eq_none
def fG:=@List.map_append
def fJ:=@List.sum_cons
def fQ:=@List.size_toArray
def fR:=@List.ext_getElem?
def fW:=@List.getElem?_append
def fX:=@Array.mk.injEq
def ge:=@Nat.ne_of_lt
def gu:=@Nat.mul_le_mul_left
def gF:=@Option.any_eq_true
def gG:=@List.pairwise_cons
def gH:=@List.mem_cons_self
def gI:=@List.getElem?_drop
def gJ:=@List.contains_cons
def gU:=@Option.some.injEq
def gV:=@Option.map_eq_some_iff
def gW:=@Iff.rfl
def ip:=@List.length_replicate
def iu:=@List.any_cons
def iv:=@Bool.and_true
def iD:=@List.mem_cons_of_mem
def iQ:=@Option.map_some
def iR:=@List.length_map
def iT:=@List.find?_cons
def iU:=@List.all_append
def iV:=@Bool.eq_iff_iff
def iZ:=@List.replicate_succ
def i6:=@List.length_flatMap
def jm:=@Int.tdiv_eq_ediv_of_nonneg
def jn:=@Array.ext'
def jG:=@List.pairwise_iff_getElem
def jI:=@UInt8.ofNat_toNat
def jJ:=@List.getElem_take
def jW:=@Prod.mk.injEq
def jX:=@Nat.lt_irrefl
def j6:=@List.getElem_set
def kv:=@List.range_succ_eq_map
def ky:=@List.head?_eq_getElem?
def kP:=@List.range_succ
def k9:=@List.set_append_right
def k_:=@List.getElem?_eq_none
def la:=@List.countP_singleton
def lr:=@Nat.mul_one
def lu:=@List.tail_drop
def lw:=@Bool.and_false
def mt:=@ByteArray.ext
def mu:=@Bool.or_false
def m_:=@Nat.sub_self
open Go.Proofs.Tryz
section
def mo (c:UInt8):Bool:=decide (97<=(c|||32).toNat/\(c|||32).toNat<=122)
def fF (c:UInt8):Bool:=decide (48<=c.toNat/\c.toNat<=57)
def fV (c:UInt8):Bool:=mo c||fF c||c==95
def E3 (c:UInt8):Bool:=c==32||c==9||c==10||c==13
def Jm:List (List UInt8):=[[118,97,114],[102,117,110,99],[105,102],[101,108,115,101],[119,104,105,108,101],[114,101,116,117,114,110]]
def yO (l:List UInt8):Bool:=Jm.contains l
def cJ (p:UInt8->Bool):List UInt8->Nat
 | []=>0
 |c::l=>if p c then cJ p l+1 else 0
theorem jr (p:UInt8->Bool): ∀l,cJ p l<=l.length
 | []=>ah _
 |c::l=>by
  simp only[cJ];split
  ·have:=jr p l;simp;omega
  ·simp
theorem p8 (p:UInt8->Bool): ∀(l:List UInt8) (j:Nat),j<=cJ p l->cJ p l=j+cJ p (l.drop j)
 |l,0,_=>by simp
 | [],j+1,h=>by simp[cJ]at h
 |c::l,j+1,h=>by
  simp only[cJ]at h⊢;split at h
  ·rename_i a;rw[if_pos a,ae,p8 p l j Qa];omega
  ·omega
theorem vU (p:UInt8->Bool) {l:List UInt8} {j:Nat} (a:j<l.length):cJ p (l.drop j)=if p l[j]then cJ p (l.drop (j+1))+1 else 0:=by
 rw[ap a];rfl
def dq:Bool->List UInt8->Nat
 | _,[]=>0
 |false,c::l=>if E3 c then dq false l+1 else if c=47/\l.head? =some 47 then dq true l+1 else 0
 |true,c::l=>if c=10 then dq false l+1 else dq true l+1
theorem lG: ∀(b:Bool) (l:List UInt8),dq b l<=l.length
 |b,[]=>by cases b<;>simp[dq]
 |false,c::l=>by
  simp only[dq];split
  ·have:=lG false l;simp;omega
  ·split
   ·have:=lG true l;simp;omega
   ·simp
 |true,c::l=>by
  simp only[dq];split
  ·have:=lG false l;simp;omega
  ·have:=lG true l;simp;omega
def f7:List UInt8->Nat:=cJ (λc=>c !=10)
theorem p_: ∀l,dq true l=f7 l+dq false (l.drop (f7 l))
 | []=>rfl
 |c::l=>by
  simp only[dq,f7,cJ];by_cases hc:c=10
  ·subst hc;have a:((10:UInt8) !=10)=false:=Qd
   have d:E3 10=true:=Qd
   rw[if_pos rfl,if_neg (by rw[a];simp)];simp[dq,d]
  ·have a:(c !=10)=true:=by simp[hc]
   rw[if_neg hc,if_pos a,p_ l,ae];simp only[f7];omega
theorem q_ {l:List UInt8} (h: ∃r,l=47::47::r):dq false l=f7 l+dq false (l.drop (f7 l)):=by
 obtain⟨r,rfl⟩:=h;rw[<-p_];have d:E3 47=false:=Qd
 have a: ¬(47:UInt8)=10:=Qd
 simp[dq,d,a]
def lN (c:UInt8):Option UInt8:=if c=110 then some 10 else if c=116 then some 9 else if c=48 then some 0 else if c=92 then some 92 else if c=39 then some 39 else if c=34 then some 34 else none
def cW:List UInt8->UInt8×Nat
 | []=>(0,0)
 |c::r=>if c.toNat<32\/126<c.toNat then(0,0)else if c≠92 then(c,1)else match r with
  | []=>(0,0)
  |d::_=>match lN d with
   |some v=>(v,2)
   |none=>(0,0)
theorem lP (l:List UInt8):(cW l).2<=l.length/\(cW l).2<=2:=by
 match l with
 | []=>exact⟨ah _,by decide⟩
 | [c]=>
  simp only[cW];split
  ·exact⟨by simp,by simp⟩
  ·split
   ·exact⟨by simp,by simp⟩
   ·exact⟨by simp,by simp⟩
 |c::d::r=>
  simp only[cW];split
  ·exact⟨by simp,by simp⟩
  ·split
   ·exact⟨by simp,by simp⟩
   ·split<;>exact⟨by simp,by simp⟩
def pD:Nat->List UInt8->Option (List UInt8×Nat)
 |0,_=>none
 |f+1,m=>match m with
  | []=>none
  |c::r=>if c=34 then some ([],1)else if(cW (c::r)).2=0 then none else(pD f ((c::r).drop (cW (c::r)).2)).map λx=>((cW (c::r)).1::x.1,(cW (c::r)).2+x.2)
theorem rI: ∀(f g:Nat) (m:List UInt8),m.length<=f->f<=g->pD g m=pD f m
 |0,g,m,h,_=>by
  have:m=[]:=aX Qa;subst this
  cases g<;>rfl
 |f+1,0,m,h,hg=>by omega
 |f+1,g+1,m,h,hg=>by
  cases m with
  |nil=>rfl
  |cons c r=>
   simp only[pD];split
   ·rfl
   ·split
    ·rfl
    ·rename_i a;rw[rI f g _ (by have:=lP (c::r);simp only[bH,ag]at h⊢;omega) Qa]
def kI (m:List UInt8):Option (List UInt8×Nat):=pD m.length m
theorem Bl (r:List UInt8):kI (34::r)=some ([],1):=by simp[kI,pD]
theorem Bm {c:UInt8} {r:List UInt8} (d:c≠34) (a:(cW (c::r)).2=0):kI (c::r)=none:=by
 simp only[kI,ag,pD];rw[if_neg d,if_pos a]
theorem yN {c:UInt8} {r:List UInt8} (d:c≠34) (a:(cW (c::r)).2≠0):kI (c::r)=(kI ((c::r).drop (cW (c::r)).2)).map λx=>((cW (c::r)).1::x.1,(cW (c::r)).2+x.2):=by
 have h:=lP (c::r);simp only[kI,ag,pD];rw[if_neg d,if_neg a,rI _ r.length _ (ah _) (by simp only[bH,ag];omega)]
def nO (l:List UInt8):Nat:=l.foldl (λv c=>v*10+(c.toNat-48)) 0
abbrev vq:=Except Int ((Int×List UInt8×Int)×Nat)
def kS (l:List UInt8):vq:=if yO (l.take (cJ fV l))then .ok ((2,l.take (cJ fV l),0),cJ fV l)else if 14<cJ fV l then .error 6 else .ok ((1,l.take (cJ fV l),0),cJ fV l)
def jv (l:List UInt8):vq:=
 if(l.drop (cJ fF l)).head?.any fV then .error 3
 else if 10<cJ fF l\/(1<cJ fF l/\l.head? =some 48)\/2147483647<nO (l.take (cJ fF l))then .error 2
 else .ok ((3,[],nO (l.take (cJ fF l))),cJ fF l)
def jT (l:List UInt8):vq:=
 if(cW (l.drop 1)).2=0\/(l.drop 1).head? =some 39\/(l.drop ((cW (l.drop 1)).2+1)).head? ≠some 39 then .error 3 else .ok ((3,[],((cW (l.drop 1)).1.toNat:Int)),(cW (l.drop 1)).2+2)
def j8 (l:List UInt8):vq:=match kI (l.drop 1)with
 |none=> .error 3
 |some (t,n)=>if 128<t.length then .error 6 else .ok ((4,t,0),n+1)
def two:List (List UInt8):=[[61,61],[33,61],[60,61],[62,61],[38,38],[124,124]]
def qf:List UInt8:=[40,41,123,125,91,93,44,59,61,43,45,42,47,37,60,62,33]
def jO (l:List UInt8):vq:=if two.contains (l.take 2)then .ok ((5,l.take 2,0),2)else if(l.head?.any λc=>qf.contains c)then .ok ((5,l.take 1,0),1)else .error 3
def lz (l:List UInt8):vq:=match l with
 | []=> .error 3
 |c::r=>if mo c then kS (c::r)else if fF c then jv (c::r)else if c=39 then jT (c::r)else if c=34 then j8 (c::r)else jO (c::r)
structure co where
 k:Int
 t:List UInt8
 v:Int
 f:Int
deriving DecidableEq
def iG:Nat->List UInt8->Nat->Except (Nat×Int) (List co)
 |0,_,_=> .ok []
 |f+1,m,at_=>
  match m.drop (dq false m)with
  | []=> .ok []
  |c::r=>match lz (c::r)with
   | .error e=> .error (at_+dq false m,e)
   | .ok ((k,t,v),n)=>match iG f ((c::r).drop n) (at_+dq false m+n)with
    | .error e=> .error e
    | .ok ts=> .ok (⟨k,t,v,(at_+dq false m:Nat)⟩::ts)
def pA (l:List UInt8):Except (Nat×Int) (List co):=iG (l.length+1) l 0
def gY (l:List UInt8):List co×Int×Int:=if 4000<l.length then([],4000,6)else match pA l with
 | .ok ts=>(ts,0,0)
 | .error (p,e)=>([],p,e)
inductive Ex where
 |mk (k:Int) (op nm tx:List UInt8) (v:Int) (args:List Ex)
inductive St where
 |mk (k:Int) (nm:List UInt8) (ex:List Ex) (body els:List St)
structure Vr where
 nm:List UInt8
 sz:Int
structure Fc where
 nm:List UInt8
 ps:List (List UInt8)
 body:List St
structure Pg where
 vs:List Vr
 fs:List Fc
def Ex.k:Ex->Int| .mk k _ _ _ _ _=>k
def Ex.op:Ex->List UInt8| .mk _ o _ _ _ _=>o
def Ex.nm:Ex->List UInt8| .mk _ _ n _ _ _=>n
def Ex.tx:Ex->List UInt8| .mk _ _ _ t _ _=>t
def Ex.v:Ex->Int| .mk _ _ _ _ v _=>v
def Ex.args:Ex->List Ex| .mk _ _ _ _ _ a=>a
def St.k:St->Int| .mk k _ _ _ _=>k
def St.nm:St->List UInt8| .mk _ n _ _ _=>n
def St.ex:St->List Ex| .mk _ _ e _ _=>e
def St.body:St->List St| .mk _ _ _ b _=>b
def St.els:St->List St| .mk _ _ _ _ e=>e
def zT:co:=⟨0,[],0,0⟩
def cV:List co->co
 | []=>zT
 |t::_=>t
def dB (s:List UInt8) (l:List co):Bool:=((cV l).k==5||(cV l).k==2)&&(cV l).t==s
theorem nE {s:List UInt8} {l:List co} (a:dB s l=true):l≠ []:=by
 intro e;subst e;simp[dB,cV,zT]at a
theorem bK {s:List UInt8} {l:List co} (a:dB s l=true):l.length=l.tail.length+1:=by
 cases l with
 |nil=>exact absurd rfl (nE a)
 |cons t r=>rfl
def Is (en:Int):List co->Int
 | []=>en
 |t::_=>t.f
def my (s:List UInt8):Int:=
 if s=[124,124]then 1 else if s=[38,38]then 2 else if s=[61,61]then 3 else if s=[33,61]then 3
 else if s=[60]then 4 else if s=[60,61]then 4 else if s=[62]then 4 else if s=[62,61]then 4
 else if s=[43]then 5 else if s=[45]then 5 else if s=[42]then 6 else if s=[47]then 6 else if s=[37]then 6 else 0
theorem F5 (s:List UInt8):0<=my s/\my s<=6:=by
 unfold my
 (repeat' split)<;>omega
abbrev PR (α:Type):=Except (List co×Int) (α×List co)
def PR.then {α β:Type} (x:PR α) (k:α->List co->PR β):PR β:=match x with
 | .error e=> .error e
 | .ok (a,r)=>k a r
def cF (s:List UInt8) (l:List co):PR Unit:=if dB s l then .ok ((),l.tail)else .error (l,3)
def jw (l:List co):PR (List UInt8):=if(cV l).k=1 then .ok ((cV l).t,l.tail)else .error (l,3)
def n_:List UInt8:=[40]
def l7:List UInt8:=[41]
def Hr:List UInt8:=[123]
def G6:List UInt8:=[125]
def sB:List UInt8:=[91]
def vx:List UInt8:=[93]
def AE:List UInt8:=[44]
def yr:List UInt8:=[59]
def E9:List UInt8:=[61]
def vy:List UInt8:=[45]
def xr:List UInt8:=[33]
def nj:List UInt8:=[118,97,114]
def lI:List UInt8:=[102,117,110,99]
def Hs:List UInt8:=[105,102]
def E_:List UInt8:=[101,108,115,101]
def v_:List UInt8:=[119,104,105,108,101]
def sA:List UInt8:=[114,101,116,117,114,110]
mutual
def cv:Nat->Int->List co->PR Ex
 |0,_,l=> .error (l,0)
 |f+1,n,l=>(dr f l).then λx r=>i7 f n x r
def i7:Nat->Int->Ex->List co->PR Ex
 |0,_,_,l=> .error (l,0)
 |f+1,n,x,l=>if(cV l).k=5/\n<=my (cV l).t then(cv f (my (cV l).t+1) l.tail).then λy r=>i7 f n (.mk 7 (cV l).t [] [] 0 [x,y]) r else .ok (x,l)
def dr:Nat->List co->PR Ex
 |0,l=> .error (l,0)
 |f+1,l=>
  if(cV l).k=3 then .ok (.mk 1 [] [] [] (cV l).v [],l.tail)
  else if(cV l).k=4 then .ok (.mk 2 [] [] (cV l).t 0 [],l.tail)
  else if(cV l).k=1 then cX f (cV l).t l.tail
  else if dB vy l||dB xr l then(dr f l.tail).then λx r=> .ok (.mk 6 (cV l).t [] [] 0 [x],r)
  else(cF n_ l).then λ_ r=>(cv f 1 r).then λx r=>(cF l7 r).then λ_ r=> .ok (x,r)
def cX:Nat->List UInt8->List co->PR Ex
 |0,_,l=> .error (l,0)
 |f+1,nm,l=>
  if dB sB l then(cv f 1 l.tail).then λx r=>(cF vx r).then λ_ r=> .ok (.mk 4 [] nm [] 0 [x],r)
  else if dB n_ l then(gq f l.tail).then λa r=> .ok (.mk 5 [] nm [] 0 a,r)
  else .ok (.mk 3 [] nm [] 0 [],l)
def gq:Nat->List co->PR (List Ex)
 |0,l=> .error (l,0)
 |f+1,l=>if dB l7 l then .ok ([],l.tail)else ie f [] l
def ie:Nat->List Ex->List co->PR (List Ex)
 |0,_,l=> .error (l,0)
 |f+1,acc,l=>(cv f 1 l).then λx r=>if dB l7 r then .ok (acc++[x],r.tail)else(cF AE r).then λ_ r=>ie f (acc++[x]) r
end
mutual
def d9:Nat->List co->PR (List St)
 |0,l=> .error (l,0)
 |f+1,l=>(cF Hr l).then λ_ r=>fh f [] r
def fh:Nat->List St->List co->PR (List St)
 |0,_,l=> .error (l,0)
 |f+1,acc,l=>if dB G6 l then .ok (acc,l.tail)else(d7 f l).then λs r=>fh f (acc++[s]) r
def pN:Nat->List co->PR St
 |0,l=> .error (l,0)
 |f+1,l=>(cv f 1 l).then λx r=>(d9 f r).then λb r=>
  if dB E_ r then
   if dB Hs r.tail then(pN f r.tail.tail).then λs r=> .ok (.mk 4 [] [x] b [s],r)
   else(d9 f r.tail).then λc r=> .ok (.mk 4 [] [x] b c,r)
  else .ok (.mk 4 [] [x] b [],r)
def d7:Nat->List co->PR St
 |0,l=> .error (l,0)
 |f+1,l=>
  if dB Hs l then pN f l.tail
  else if dB v_ l then(cv f 1 l.tail).then λx r=>(d9 f r).then λb r=> .ok (.mk 5 [] [x] b [],r)
  else if dB nj l then(jw l.tail).then λnm r=>
   (if dB E9 r then(cv f 1 r.tail).then λx r=> .ok ([x],r)else .ok ([],r)).then λex r=>(cF yr r).then λ_ r=> .ok (.mk 1 nm ex [] [],r)
  else if dB sA l then(if dB yr l.tail then .ok ([],l.tail)else(cv f 1 l.tail).then λx r=> .ok ([x],r)).then λex r=>(cF yr r).then λ_ r=> .ok (.mk 6 [] ex [] [],r)
  else(jw l).then λnm r=>
   (if dB n_ r then(cX f nm r).then λx r=> .ok (.mk 7 [] [x] [] [],r)
   else if dB sB r then(cv f 1 r.tail).then λi r=>(cF vx r).then λ_ r=>(cF E9 r).then λ_ r=>(cv f 1 r).then λx r=> .ok (.mk 3 nm [i,x] [] [],r)
   else(cF E9 r).then λ_ r=>(cv f 1 r).then λx r=> .ok (.mk 2 nm [x] [] [],r)).then λs r=>(cF yr r).then λ_ r=> .ok (s,r)
end
def kg (l:List co):PR Vr:=(jw l).then λnm r=>
 (if dB sB r then
  if(cV r.tail).k=3 then
   if(cV r.tail).v<1\/2000<(cV r.tail).v then .error (r.tail,2)else(cF vx r.tail.tail).then λ_ q=> .ok ((cV r.tail).v,q)
  else .error (r.tail,3)
 else .ok (0,r)).then λsz r=>(cF yr r).then λ_ r=> .ok (⟨nm,sz⟩,r)
def fT:Nat->List (List UInt8)->List co->PR (List (List UInt8))
 |0,_,l=> .error (l,0)
 |f+1,acc,l=>(jw l).then λx r=>if dB l7 r then .ok (acc++[x],r.tail)else(cF AE r).then λ_ r=>fT f (acc++[x]) r
def fY (f:Nat) (l:List co):PR (List (List UInt8)):=if dB l7 l then .ok ([],l.tail)else fT f [] l
def kV (f:Nat) (l:List co):PR Fc:=(jw l).then λnm r=>(cF n_ r).then λ_ r=>(fY f r).then λps r=>(d9 f r).then λb r=> .ok (⟨nm,ps,b⟩,r)
def dN:Nat->Pg->List co->PR Pg
 |0,_,l=> .error (l,0)
 |f+1,p,l=>if l=[]then .ok (p,[])
  else if dB nj l then(kg l.tail).then λv r=>dN f ⟨p.vs++[v],p.fs⟩ r
  else(cF lI l).then λ_ r=>(kV f r).then λc r=>dN f ⟨p.vs,p.fs++[c]⟩ r
theorem PR.then_ok {h d:Type} {x:PR h} {k:h->List co->PR d} {b:d} {r:List co} (a:x.then k= .ok (b,r)): ∃o q,x= .ok (o,q)/\k o q= .ok (b,r):=by
 unfold PR.then at a;split at a
 ·cases a
 ·exact⟨_,_,rfl,a⟩
theorem eG {s:List UInt8} {l r:List co} {h:Unit} (a:cF s l= .ok (h,r)):dB s l=true/\r=l.tail/\l.length=r.length+1:=by
 unfold cF at a;split at a
 ·rename_i d;injection a with a;injection a with _ a;subst a;exact⟨d,rfl,bK d⟩
 ·cases a
theorem jb {l:List co} (a:(cV l).k≠0):l.length=l.tail.length+1:=by
 cases l with
 |nil=>exact absurd rfl a
 |cons t r=>rfl
theorem lJ {l r:List co} {nm:List UInt8} (a:jw l= .ok (nm,r)):(cV l).k=1/\nm=(cV l).t/\r=l.tail/\l.length=r.length+1:=by
 unfold jw at a;split at a
 ·rename_i d;injection a with a;injection a with h a;subst a h;exact⟨d,rfl,rfl,jb (by rw[d];decide)⟩
 ·cases a
theorem bN {d:Type} {h b:d} {r q:List co} (a:(Except.ok (h,r):PR d)= .ok (b,q)):h=b/\r=q:=by
 injection a with a;injection a with u o;exact⟨u,o⟩
theorem jR: ∀(f:Nat),
  (∀n l x r,cv f n l= .ok (x,r)->r.length<l.length)/\(∀n F l x r,i7 f n F l= .ok (x,r)->r.length<=l.length)/\
  (∀l x r,dr f l= .ok (x,r)->r.length<l.length)/\(∀nm l x r,cX f nm l= .ok (x,r)->r.length<=l.length)/\
  (∀l x r,gq f l= .ok (x,r)->r.length<l.length)/\(∀K l x r,ie f K l= .ok (x,r)->r.length<l.length)
 |0=>by
  refine⟨?_,?_,?_,?_,?_,?_⟩;all_goals (intros;rename_i a;simp[cv,i7,dr,cX,gq,ie]at a)
 |f+1=>by
  obtain⟨A,I,H,R,V,J⟩:=jR f;refine⟨?_,?_,?_,?_,?_,?_⟩
  ·intro n l x r a;rw[cv]at a;obtain⟨y,q,o,h⟩:=PR.then_ok a;have:=H _ _ _ o;have:=I _ _ _ _ _ h;omega
  ·intro n F l x r a;rw[i7]at a;split at a
   ·rename_i d;obtain⟨y,q,o,h⟩:=PR.then_ok a;have:=A _ _ _ _ o;have:=I _ _ _ _ _ h;have:=jb (l:=l) (by rw[d.1];decide);omega
   ·rw[(bN a).2];exact ah _
  ·intro l x r a;rw[dr]at a;split at a
   ·rename_i d;have:=jb (l:=l) (by rw[d];decide);rw[<-(bN a).2];omega
   ·split at a
    ·rename_i d;have:=jb (l:=l) (by rw[d];decide);rw[<-(bN a).2];omega
    ·split at a
     ·rename_i d;have:=jb (l:=l) (by rw[d];decide);have:=R _ _ _ _ a;omega
     ·split at a
      ·rename_i d;obtain⟨y,q,o,h⟩:=PR.then_ok a;have:=H _ _ _ o;have w:=(bN h).2;have:l.length=l.tail.length+1:=by
        rw[dn]at d;rcases d with d|d<;>exact bK d
       subst w;omega
      ·obtain⟨y,q,o,h⟩:=PR.then_ok a;obtain⟨M,G,w,z⟩:=PR.then_ok h;obtain⟨ab,aa,Z,X⟩:=PR.then_ok z;have:=(eG o).2.2;have:=A _ _ _ _ w;have:=(eG Z).2.2;have u:=(bN X).2;subst u;omega
  ·intro nm l x r a;rw[cX]at a;split at a
   ·rename_i d;obtain⟨y,q,o,h⟩:=PR.then_ok a;obtain⟨M,G,w,z⟩:=PR.then_ok h;have:=bK d;have:=A _ _ _ _ o;have:=(eG w).2.2;have u:=(bN z).2;subst u;omega
   ·split at a
    ·rename_i d;obtain⟨y,q,o,h⟩:=PR.then_ok a;have:=bK d;have:=V _ _ _ o;have u:=(bN h).2;subst u;omega
    ·have:=(bN a).2;subst this;omega
  ·intro l x r a;rw[gq]at a;split at a
   ·rename_i d;have:=bK d;have u:=(bN a).2;subst u;omega
   ·exact J _ _ _ _ a
  ·intro K l x r a;rw[ie]at a;obtain⟨y,q,o,h⟩:=PR.then_ok a;have:=A _ _ _ _ o;split at h
   ·rename_i d;have:=bK d;have u:=(bN h).2;subst u;omega
   ·obtain⟨M,G,w,z⟩:=PR.then_ok h;have:=(eG w).2.2;have:=J _ _ _ _ z;omega
theorem pK: ∀(f:Nat),
  (∀l x r,d9 f l= .ok (x,r)->r.length<l.length)/\(∀ah l x r,fh f ah l= .ok (x,r)->r.length<l.length)/\
  (∀l x r,pN f l= .ok (x,r)->r.length<l.length)/\(∀l x r,d7 f l= .ok (x,r)->r.length<l.length)
 |0=>by
  refine⟨?_,?_,?_,?_⟩;all_goals (intros;rename_i a;simp[d9,fh,pN,d7]at a)
 |f+1=>by
  obtain⟨X,ag,af,al⟩:=pK f;obtain⟨G,_,_,am,_,_⟩:=jR f;refine⟨?_,?_,?_,?_⟩
  ·intro l x r a;rw[d9]at a;obtain⟨J,q,z,y⟩:=PR.then_ok a;have:=(eG z).2.2;have:=ag _ _ _ _ y;omega
  ·intro ah l x r a;rw[fh]at a;split at a
   ·rename_i o;have:=bK o;have h:=(bN a).2;subst h;omega
   ·obtain⟨J,q,z,y⟩:=PR.then_ok a;have:=al _ _ _ z;have:=ag _ _ _ _ y;omega
  ·intro l x r a;rw[pN]at a;obtain⟨J,q,z,y⟩:=PR.then_ok a;obtain⟨V,M,d,u⟩:=PR.then_ok y;have:=G _ _ _ _ z;have:=X _ _ _ d;split at u
   ·rename_i o;have:=bK o;split at u
    ·rename_i Z;have:=bK Z;obtain⟨R,K,F,A⟩:=PR.then_ok u;have:=af _ _ _ F;have h:=(bN A).2;subst h;omega
    ·obtain⟨R,K,F,A⟩:=PR.then_ok u;have:=X _ _ _ F;have h:=(bN A).2;subst h;omega
   ·have h:=(bN u).2;subst h;omega
  ·intro l x r a;rw[d7]at a;split at a
   ·rename_i o;have:=bK o;have:=af _ _ _ a;omega
   split at a
   ·rename_i o;have:=bK o;obtain⟨J,q,z,y⟩:=PR.then_ok a;obtain⟨V,M,d,u⟩:=PR.then_ok y;have:=G _ _ _ _ z;have:=X _ _ _ d;have h:=(bN u).2;subst h;omega
   split at a
   ·rename_i o;have:=bK o;obtain⟨J,q,z,y⟩:=PR.then_ok a;obtain⟨V,M,d,u⟩:=PR.then_ok y;obtain⟨R,K,F,A⟩:=PR.then_ok u;have:=(lJ z).2.2.2;have:=(eG F).2.2;have h:=(bN A).2;subst h;split at d
    ·rename_i Z;have:=bK Z;obtain⟨ai,ae,I,H⟩:=PR.then_ok d;have:=G _ _ _ _ I;have w:=(bN H).2;subst w;omega
    ·have w:=(bN d).2;subst w;omega
   split at a
   ·rename_i o;have:=bK o;obtain⟨V,M,d,u⟩:=PR.then_ok a;obtain⟨R,K,F,A⟩:=PR.then_ok u;have:=(eG F).2.2;have h:=(bN A).2;subst h;split at d
    ·have w:=(bN d).2;subst w;omega
    ·obtain⟨ai,ae,I,H⟩:=PR.then_ok d;have:=G _ _ _ _ I;have w:=(bN H).2;subst w;omega
   ·obtain⟨J,q,z,y⟩:=PR.then_ok a;obtain⟨V,M,d,u⟩:=PR.then_ok y;obtain⟨R,K,F,A⟩:=PR.then_ok u;have:=(lJ z).2.2.2;have:=(eG F).2.2;have h:=(bN A).2;subst h;split at d
    ·obtain⟨ai,ae,I,H⟩:=PR.then_ok d;have:=am _ _ _ _ I;have w:=(bN H).2;subst w;omega
    ·split at d
     ·rename_i o;have:=bK o;obtain⟨b1,ak,ad,ac⟩:=PR.then_ok d;obtain⟨b2,aj,ab,aa⟩:=PR.then_ok ac;obtain⟨b3,au,aq,ap⟩:=PR.then_ok aa;obtain⟨av,ar,ao,an⟩:=PR.then_ok ap;have:=G _ _ _ _ ad;have:=(eG ab).2.2;have:=(eG aq).2.2;have:=G _ _ _ _ ao;have w:=(bN an).2;subst w;omega
     ·obtain⟨b1,ak,ad,ac⟩:=PR.then_ok d;obtain⟨b2,aj,ab,aa⟩:=PR.then_ok ac;have:=(eG ad).2.2;have:=G _ _ _ _ ab;have w:=(bN aa).2;subst w;omega
end
section
def tw:List (List UInt8×Int×List UInt8):=
 [([101,120,105,116],0,[105]),
 ([107,105,108,108],4,[105]),
 ([103,114,111,119],6,[105]),
 ([99,108,111,115,101],8,[105]),
 ([115,101,114,118,101],16,[105]),
 ([100,105,97,108],17,[105]),
 ([115,108,101,101,112],19,[105]),
 ([102,111,114,107],1,[]),
 ([119,97,105,116],3,[]),
 ([115,101,108,102],5,[]),
 ([112,105,112,101],11,[]),
 ([116,105,109,101],18,[]),
 ([100,117,112],12,[105,105]),
 ([101,120,101,99],2,[115]),
 ([117,110,108,105,110,107],13,[115]),
 ([109,107,100,105,114],14,[115]),
 ([111,112,101,110],7,[115,105]),
 ([114,101,97,100],9,[105,97,105]),
 ([119,114,105,116,101],10,[105,98,105])]
abbrev Bi:=Option (Int×List UInt8)
def gh (s:List UInt8):Bi:=(tw.find? (λx=>x.1==s)).map (·.2)
def H' (s:List UInt8):Bool:=(gh s).isSome
def nF (b:Bi) (i:Nat):Bool:=match b with
 |none=>true
 |some (_,a)=>decide (a.length<=i)||a.getD i 0==105
def wC (op:List UInt8):Bool:=op==[38,38]||op==[124,124]
mutual
def eh:Ex->Nat
 | .mk k op nm tx v a=>if k=4\/k=6 then iH 1 a else if k=7 then f6 (wC op) 0 1 a else if k=5 then fZ (gh nm) 0 0 1 a else 1
def iH:Nat->List Ex->Nat
 |m,[]=>m
 |m,y::r=>iH (max m (eh y)) r
def f6 (lg:Bool):Nat->Nat->List Ex->Nat
 |i,m,[]=>m
 |i,m,y::r=>f6 lg (i+1) (max m (if 0<i/\lg=false then eh y+1 else eh y)) r
def fZ (b:Bi):Nat->Nat->Nat->List Ex->Nat
 |i,fr,m,[]=>m
 |i,fr,m,y::r=>if nF b i=true then fZ b (i+1) (fr+1) (max m (fr+eh y)) r else fZ b (i+1) fr m r
end
mutual
def oI:St->Nat
 | .mk k _ _ b e=>(if k=1 then 1 else 0)+(cN b+cN e)
def cN:List St->Nat
 | []=>0
 |s::r=>oI s+cN r
end
def jx (f:Fc):Nat:=4*(8+f.ps.length+cN f.body)
mutual
def Jl:St->Bool
 | .mk _ _ x b e=>x.any (λy=>decide (7<eh y))||(nB b||nB e)
def nB:List St->Bool
 | []=>false
 |s::r=>Jl s||nB r
end
abbrev Er:=List UInt8×Int
structure Gl where
 arr:List UInt8->Option Int
 int:List UInt8->Bool
 fn:List UInt8->Option Nat
abbrev Ls:=List UInt8->Bool
def gM:Ls:=λ_=>false
def Ls.add (l:Ls) (s:List UInt8):Ls:=λx=>x==s||l x
def Gl.known (g:Gl) (lo:Ls) (s:List UInt8):Bool:=(g.arr s).isSome||((g.fn s).isSome||(g.int s||(lo s||H' s)))
abbrev CR:=Except Er Unit
def CR.then {α:Type} (x:Except Er α) {β:Type} (k:α->Except Er β):Except Er β:=match x with
 | .error e=> .error e
 | .ok a=>k a
theorem gz {d a:Type} (e:Er) (k:d->Except Er a):CR.then (.error e) k= .error e:=rfl
theorem fI {a h:Type} (d:a) (k:a->Except Er h):CR.then (.ok d) k=k d:=rfl
def rT (g:Gl) (lo:Ls) (s:List UInt8):CR:=if(lo s||g.int s)=true then .ok ()else if g.known lo s=true then .error (s,16)else .error (s,15)
def mC (g:Gl) (lo:Ls) (s:List UInt8):CR:=if(g.arr s).isSome=true then .ok ()else if g.known lo s=true then .error (s,16)else .error (s,15)
def tA (c:UInt8) (k:Int):Bool:=(c==115&&k !=2)||((c==97&&k !=3)||(c==98&&(k !=3&&k !=2)))
def DG (b:Bi) (i:Nat):UInt8:=match b with
 |none=>0
 |some (_,a)=>a.getD i 0
def Cr (g:Gl) (nm:List UInt8):Option Nat:=match gh nm with
 |some (_,a)=>some a.length
 |none=>g.fn nm
mutual
def tK (g:Gl) (lo:Ls):Ex->CR
 | .mk k op nm tx v a=>
  if k=3 then rT g lo nm
  else if k=4 then CR.then (mC g lo nm) λ_=>tn g lo a
  else if k=2 then .error ([],16)
  else if k=5 then match Cr g nm with
   |none=> .error (nm,15)
   |some n=>if n=a.length then wP g lo nm (gh nm) 0 a else .error (nm,16)
  else if k=6\/k=7 then tn g lo a
  else .ok ()
def tn (g:Gl) (lo:Ls):List Ex->CR
 | []=> .ok ()
 |y::r=>CR.then (tK g lo y) λ_=>tn g lo r
def wP (g:Gl) (lo:Ls) (nm:List UInt8) (b:Bi):Nat->List Ex->CR
 | _,[]=> .ok ()
 |i,y::r=>CR.then (if nF b i=true then tK g lo y else if tA (DG b i) y.k=true then .error (nm,16)else if y.k=3 then mC g lo y.nm else .ok ()) λ_=>wP g lo nm b (i+1) r
end
abbrev SR:=Except Er Ls
mutual
def GR (g:Gl):Ls->St->SR
 |lo, .mk k nm ex bd el=>
  CR.then (if k=2 then rT g lo nm else if k=3 then mC g lo nm else .ok ()) λ_=>
  CR.then (tn g lo ex) λ_=>
  CR.then (if k=1 then(if g.known lo nm=true then .error (nm,9)else .ok (lo.add nm))else .ok lo) λlo1=>
  CR.then (iX g lo1 bd) λlo2=>iX g lo2 el
def iX (g:Gl):Ls->List St->SR
 |lo,[]=> .ok lo
 |lo,s::r=>CR.then (GR g lo s) λlo1=>iX g lo1 r
end
def Gl.addV (g:Gl) (v:Vr):Gl:=if 0<v.sz then{g with arr:=λx=>if x=v.nm then some v.sz else g.arr x}else{g with int:=λx=>x==v.nm||g.int x}
def Gl.addF (g:Gl) (f:Fc):Gl:={g with fn:=λx=>if x=f.nm then some f.ps.length else g.fn x}
def yJ:Gl:=⟨λ_=>none,λ_=>false,λ_=>none⟩
def dv:List UInt8:=[109,97,105,110]
def qV:Gl->List Vr->Except Er Gl
 |g,[]=> .ok g
 |g,v::r=>if g.known gM v.nm=true then .error (v.nm,9)else qV (g.addV v) r
def pz:Gl->List Fc->Except Er Gl
 |g,[]=> .ok g
 |g,f::r=>if g.known gM f.nm=true then .error (f.nm,9)else pz (g.addF f) r
def zR (p:Pg):Except Er Gl:=
 CR.then (qV yJ p.vs) λg=>CR.then (pz g p.fs) λg=>match g.fn dv with
  |none=> .error (dv,8)
  |some n=>if 0<n then .error (dv,16)else .ok g
def qD (g:Gl):Ls->List (List UInt8)->SR
 |lo,[]=> .ok lo
 |lo,p::r=>if g.known lo p=true then .error (p,9)else qD g (lo.add p) r
def oK (g:Gl):List Fc->CR
 | []=> .ok ()
 |f::r=>CR.then (qD g gM f.ps) λlo=>CR.then (iX g lo f.body) λ_=>oK g r
def i_:List Fc->CR
 | []=> .ok ()
 |f::r=>if 20<f.ps.length+cN f.body\/nB f.body=true then .error (f.nm,6)else i_ r
def uV (p:Pg):CR:=CR.then (zR p) λg=>CR.then (oK g p.fs) λ_=>i_ p.fs
end
section
def vE (v:Int):Int:=IntKind.wrap .i32 v
def JS (b:Bool):Int:=if b=true then 1 else 0
structure Ms where
 ints:List UInt8->Int
 arrs:List UInt8->List UInt8
 left:Nat
 stk:Nat
 used:Nat
structure Oc where
 kind:Int
 call:Int
 a0:Int
 a1:Int
 a2:Int
 data:List UInt8
 used:Nat
abbrev Rs:=List (Int×List UInt8)
abbrev Lo:=List UInt8->Option Int
inductive Dt where
 |no
 |txt (t:List UInt8)
 |arr (nm:List UInt8)
structure Cx where
 fn:List UInt8->Fc
 R:Rs
def aS:=@PR.then_ok
end
end Go.Proofs.YtoedmpgicdekmaaGreatDoor
