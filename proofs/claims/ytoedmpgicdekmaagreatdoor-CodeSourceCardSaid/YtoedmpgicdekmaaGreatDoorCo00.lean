/- Parts of the proof. -/
import Derived.KernelRfl
import Derived.Test.YtoedmpgicdekmaaGreatDoorProg
set_option maxRecDepth 100000
set_option maxHeartbeats 8000000
set_option linter.all false
namespace Go.Proofs.YtoedmpgicdekmaaGreatDoor
theorem Qn {α:Type _} [BEq α] [LawfulBEq α] {a b:α}:(a==b)=false↔a≠b:=beq_eq_false_iff_ne
theorem J {p:Prop} (h:p:=by omega):p:=h
theorem Qb {p:Prop} (h:p:=by kernel_rfl):p:=h
theorem Qc {p:Prop} (h:p:=by simp[IntKind.wrap,IntKind.signed,IntKind.bits];omega):p:=h
theorem Qd {p:Prop} (h:p:=by decide):p:=h
theorem Qe {p:Prop} (h:p:=by simp):p:=h
theorem Qf {p:Prop} (h:p:=by rfl):p:=h
theorem Qg {p:Prop} (h:p:=by simp;omega):p:=h
theorem Qh {p:Prop} (h:p:=by simp only[maxLen];omega):p:=h
theorem Qi {p:Prop} (h:p:=by simp only;omega):p:=h
theorem Qj {p:Prop} (h:p:=by unfold maxLen;omega):p:=h
theorem Qk {p:Prop} (h:p:=by simp[Value.oneCell']):p:=h
theorem Ql {p:Prop} (h:p:=by decide+kernel):p:=h
theorem Qm {p:Prop} (h:p:=by simp[go_sem]):p:=h
def I:=@Option.some.inj
def H:=@List.length_append
def ae:=@List.drop_succ_cons
def ag:=@List.length_cons
def ah:=@Nat.le_refl
def ai:=@List.length_nil
def am:=@Bool.and_eq_true
def ap:=@List.drop_eq_getElem_cons
def aw:=@List.drop_zero
def ax:=@List.getElem_mem
def ay:=@Nat.le_trans
def az:=@Array.getD_eq_getD_getElem?
def aA:=@Nat.lt_of_lt_of_le
def aC:=@And.intro
def aD:=@Nat.zero_le
def aE:=@Nat.zero_add
def aF:=@List.getElem_cons_zero
def aG:=@Nat.le_of_lt
def aH:=@List.getElem?_eq_getElem
def aK:=@List.drop_of_length_le
def aL:=@List.append_assoc
def aM:=@Nat.le_of_add_right_le
def aP:=@List.getElem_cons_succ
def aR:=@Bool.false_eq_true
def aT:=@List.take_succ_eq_append_getElem
def aV:=@List.drop_nil
def aX:=@List.eq_nil_of_length_eq_zero
def aY:=@Nat.zero_mul
def a8:=@List.setIfInBounds_toArray
def a_:=@Int.eq_ofNat_of_zero_le
def br:=@List.getElem?_append_left
def bx:=@Nat.add_zero
def bF:=@List.not_mem_nil
def bG:=@List.length_take
def bH:=@List.getElem?_append_right
def bI:=@Array.getElem?_setIfInBounds
def bJ:=@List.flatMap_cons
def bK:=@List.length_drop
def bL:=@List.map_cons
def bN:=@List.getD_eq_getElem?_getD
def bQ:=@List.take_of_length_le
def bR:=@List.mem_singleton
def bS:=@List.drop_eq_nil_of_le
def bV:=@List.mem_cons
def bW:=@Nat.ne_of_gt
def bX:=@Array.getElem?_eq_getElem
def bY:=@Int.toNat_natCast
def bZ:=@Option.getD_some
def b6:=@List.take_length
def b7:=@List.set_cons_zero
def b_:=@List.set_cons_succ
def cg:=@List.all_eq_true
def ch:=@List.getElem?_take
def cE:=@Nat.one_mul
def cI:=@List.mem_of_getElem?
def cP:=@List.getElem?_cons_zero
def df:=@List.take_append_drop
def dh:=@List.getElem?_cons_succ
def du:=@Bool.or_eq_true
def dx:=@List.map_toArray
def dz:=@List.map_nil
def dA:=@List.mem_of_find?_eq_some
def dC:=@List.getElem?_map
def dF:=@List.sum_cons
def dK:=@Option.isSome_some
def dP:=@Array.toList_push
def dT:=@List.cons.injEq
def dY:=@Option.isSome_none
def dZ:=@Nat.lt_succ_self
def d6:=@List.length_modify
def d_:=@Array.getElem?_replicate
def ed:=@Nat.le_succ
def ee:=@Nat.exists_eq_succ_of_ne_zero
def ef:=@Nat.add_mul
def eg:=@List.getElem?_modify
def eh:=@List.drop_drop
def eB:=@Array.toList_modify
def eL:=@UInt8.toNat_ofNat'
def eM:=@List.mem_range
def eN:=@Array.any_eq_true'
def eS:=@Ne.symm
def eT:=@List.getElem?_toArray
def fd:=@List.append_nil
def ff:=@Value.slice.injEq
def fg:=@Nat.lt_or_ge
def fh:=@Array.all_eq_true_iff_forall_mem
def fw:=@Nat.add_assoc
def fB:=@List.flatMap_append
def fE:=@Option.getD_none
def fF:=@Option.bind_some
def fP:=@Option.map_eq_some_iff
def fQ:=@Nat.le_of_eq
def fR:=@Array.getElem?_eq_none
def fU:=@List.mem_append
def fV:=@List.map_append
def gd:=@List.size_toArray
def ge:=@List.ext_getElem?
def gt:=@List.getElem?_append
def gu:=@Array.mk.injEq
def gD:=@Nat.ne_of_lt
def gI:=@Nat.mul_le_mul_left
def gP:=@Bool.true_and
def gQ:=@Bool.and_true
def gY:=@Option.any_eq_true
def gZ:=@List.pairwise_cons
def g_:=@List.mem_cons_self
def h_:=@List.getElem?_drop
def ib:=@List.contains_cons
def io:=@Option.some.injEq
def ip:=@Iff.rfl
def iQ:=@List.length_singleton
def iR:=@List.length_replicate
def iY:=@List.any_cons
def i_:=@List.mem_cons_of_mem
def ji:=@Option.map_some
def jj:=@List.length_map
def jk:=@List.find?_cons
def jl:=@List.all_append
def jm:=@Bool.eq_iff_iff
def jp:=@List.take_succ_cons
def jq:=@List.replicate_succ
def jr:=@List.length_flatMap
def jD:=@List.tail_drop
def jE:=@Int.tdiv_eq_ediv_of_nonneg
def jF:=@Array.ext'
def jZ:=@List.pairwise_iff_getElem
def j4:=@UInt8.ofNat_toNat
def j5:=@List.getElem_take
def kk:=@Prod.mk.injEq
def km:=@Nat.lt_irrefl
def kt:=@List.getElem_set
def kP:=@List.range_succ_eq_map
def kQ:=@List.head?_eq_getElem?
def ll:=@List.range_succ
def lm:=@List.head?_drop
def lD:=@List.set_append_right
def lE:=@List.getElem?_eq_none
def lF:=@List.countP_singleton
def lP:=@Nat.mul_one
def lQ:=@Bool.and_false
def mT:=@ByteArray.ext
def mU:=@Bool.or_false
def nQ:=@Nat.sub_self
def nS:=@Int.le_trans
open Go.Proofs.Tryz
section
def mN (c:UInt8):Bool:=decide (97<=(c|||32).toNat/\(c|||32).toNat<=122)
def fT (c:UInt8):Bool:=decide (48<=c.toNat/\c.toNat<=57)
def gq (c:UInt8):Bool:=mN c||fT c||c==95
def Fy (c:UInt8):Bool:=c==32||c==9||c==10||c==13
def JF:List (List UInt8):=[[118,97,114],[102,117,110,99],[105,102],[101,108,115,101],[119,104,105,108,101],[114,101,116,117,114,110]]
def zC (l:List UInt8):Bool:=JF.contains l
def cN (p:UInt8->Bool):List UInt8->Nat
 | []=>0
 |c::l=>if p c then cN p l+1 else 0
theorem jK (p:UInt8->Bool): ∀l,cN p l<=l.length
 | []=>ah _
 |c::l=>by
  simp only[cN];split
  ·have:=jK p l;simp;omega
  ·simp
theorem qy (p:UInt8->Bool): ∀(l:List UInt8) (j:Nat),j<=cN p l->cN p l=j+cN p (l.drop j)
 |l,0,_=>by simp
 | [],j+1,h=>by simp[cN]at h
 |c::l,j+1,h=>by
  simp only[cN]at h⊢;split at h
  ·rename_i a;rw[if_pos a,ae,qy p l j J];omega
  ·omega
theorem wN (p:UInt8->Bool) {l:List UInt8} {j:Nat} (a:j<l.length):cN p (l.drop j)=if p l[j]then cN p (l.drop (j+1))+1 else 0:=by
 rw[ap a];rfl
def dv:Bool->List UInt8->Nat
 | _,[]=>0
 |false,c::l=>if Fy c then dv false l+1 else if c=47/\l.head? =some 47 then dv true l+1 else 0
 |true,c::l=>if c=10 then dv false l+1 else dv true l+1
theorem lZ: ∀(b:Bool) (l:List UInt8),dv b l<=l.length
 |b,[]=>by cases b<;>simp[dv]
 |false,c::l=>by
  simp only[dv];split
  ·have:=lZ false l;simp;omega
  ·split
   ·have:=lZ true l;simp;omega
   ·simp
 |true,c::l=>by
  simp only[dv];split
  ·have:=lZ false l;simp;omega
  ·have:=lZ true l;simp;omega
def gz:List UInt8->Nat:=cN (λc=>c !=10)
theorem qA: ∀l,dv true l=gz l+dv false (l.drop (gz l))
 | []=>rfl
 |c::l=>by
  simp only[dv,gz,cN];by_cases hc:c=10
  ·subst hc;have a:((10:UInt8) !=10)=false:=Qd
   have d:Fy 10=true:=Qd
   rw[if_pos rfl,if_neg (by rw[a];simp)];simp[dv,d]
  ·have a:(c !=10)=true:=by simp[hc]
   rw[if_neg hc,if_pos a,qA l,ae];simp only[gz];omega
theorem rH {l:List UInt8} (h: ∃r,l=47::47::r):dv false l=gz l+dv false (l.drop (gz l)):=by
 obtain⟨r,rfl⟩:=h;rw[<-qA];have d:Fy 47=false:=Qd
 have a: ¬(47:UInt8)=10:=Qd
 simp[dv,d,a]
def ma (c:UInt8):Option UInt8:=if c=110 then some 10 else if c=116 then some 9 else if c=48 then some 0 else if c=92 then some 92 else if c=39 then some 39 else if c=34 then some 34 else none
def cY:List UInt8->UInt8×Nat
 | []=>(0,0)
 |c::r=>if c.toNat<32\/126<c.toNat then(0,0)else if c≠92 then(c,1)else match r with
  | []=>(0,0)
  |d::_=>match ma d with
   |some v=>(v,2)
   |none=>(0,0)
theorem md (l:List UInt8):(cY l).2<=l.length/\(cY l).2<=2:=by
 match l with
 | []=>exact⟨ah _,by decide⟩
 | [c]=>
  simp only[cY];split
  ·exact⟨by simp,by simp⟩
  ·split
   ·exact⟨by simp,by simp⟩
   ·exact⟨by simp,by simp⟩
 |c::d::r=>
  simp only[cY];split
  ·exact⟨by simp,by simp⟩
  ·split
   ·exact⟨by simp,by simp⟩
   ·split<;>exact⟨by simp,by simp⟩
def p5:Nat->List UInt8->Option (List UInt8×Nat)
 |0,_=>none
 |f+1,m=>match m with
  | []=>none
  |c::r=>if c=34 then some ([],1)else if(cY (c::r)).2=0 then none else(p5 f ((c::r).drop (cY (c::r)).2)).map λx=>((cY (c::r)).1::x.1,(cY (c::r)).2+x.2)
theorem se: ∀(f g:Nat) (m:List UInt8),m.length<=f->f<=g->p5 g m=p5 f m
 |0,g,m,h,_=>by
  have:m=[]:=aX J;subst this
  cases g<;>rfl
 |f+1,0,m,h,hg=>by omega
 |f+1,g+1,m,h,hg=>by
  cases m with
  |nil=>rfl
  |cons c r=>
   simp only[p5];split
   ·rfl
   ·split
    ·rfl
    ·rename_i a;rw[se f g _ (by have:=md (c::r);simp only[bK,ag]at h⊢;omega) J]
def k9 (m:List UInt8):Option (List UInt8×Nat):=p5 m.length m
theorem Ca (r:List UInt8):k9 (34::r)=some ([],1):=by simp[k9,p5]
theorem Cb {c:UInt8} {r:List UInt8} (d:c≠34) (a:(cY (c::r)).2=0):k9 (c::r)=none:=by
 simp only[k9,ag,p5];rw[if_neg d,if_pos a]
theorem zB {c:UInt8} {r:List UInt8} (d:c≠34) (a:(cY (c::r)).2≠0):k9 (c::r)=(k9 ((c::r).drop (cY (c::r)).2)).map λx=>((cY (c::r)).1::x.1,(cY (c::r)).2+x.2):=by
 have h:=md (c::r);simp only[k9,ag,p5];rw[if_neg d,if_neg a,se _ r.length _ (ah _) (by simp only[bK,ag];omega)]
def oK (l:List UInt8):Nat:=l.foldl (λv c=>v*10+(c.toNat-48)) 0
abbrev v6:=Except Int ((Int×List UInt8×Int)×Nat)
def lu (l:List UInt8):v6:=if zC (l.take (cN gq l))then .ok ((2,l.take (cN gq l),0),cN gq l)else if 14<cN gq l then .error 6 else .ok ((1,l.take (cN gq l),0),cN gq l)
def jO (l:List UInt8):v6:=
 if(l.drop (cN fT l)).head?.any gq then .error 3
 else if 10<cN fT l\/(1<cN fT l/\l.head? =some 48)\/2147483647<oK (l.take (cN fT l))then .error 2
 else .ok ((3,[],oK (l.take (cN fT l))),cN fT l)
def kg (l:List UInt8):v6:=
 if(cY (l.drop 1)).2=0\/(l.drop 1).head? =some 39\/(l.drop ((cY (l.drop 1)).2+1)).head? ≠some 39 then .error 3 else .ok ((3,[],((cY (l.drop 1)).1.toNat:Int)),(cY (l.drop 1)).2+2)
def ky (l:List UInt8):v6:=match k9 (l.drop 1)with
 |none=> .error 3
 |some (t,n)=>if 128<t.length then .error 6 else .ok ((4,t,0),n+1)
def two:List (List UInt8):=[[61,61],[33,61],[60,61],[62,61],[38,38],[124,124]]
def qH:List UInt8:=[40,41,123,125,91,93,44,59,61,43,45,42,47,37,60,62,33]
def j_ (l:List UInt8):v6:=if two.contains (l.take 2)then .ok ((5,l.take 2,0),2)else if(l.head?.any λc=>qH.contains c)then .ok ((5,l.take 1,0),1)else .error 3
def lT (l:List UInt8):v6:=match l with
 | []=> .error 3
 |c::r=>if mN c then lu (c::r)else if fT c then jO (c::r)else if c=39 then kg (c::r)else if c=34 then ky (c::r)else j_ (c::r)
structure cB where
 k:Int
 t:List UInt8
 v:Int
 f:Int
deriving DecidableEq
def jb:Nat->List UInt8->Nat->Except (Nat×Int) (List cB)
 |0,_,_=> .ok []
 |f+1,m,at_=>
  match m.drop (dv false m)with
  | []=> .ok []
  |c::r=>match lT (c::r)with
   | .error e=> .error (at_+dv false m,e)
   | .ok ((k,t,v),n)=>match jb f ((c::r).drop n) (at_+dv false m+n)with
    | .error e=> .error e
    | .ok ts=> .ok (⟨k,t,v,(at_+dv false m:Nat)⟩::ts)
def pZ (l:List UInt8):Except (Nat×Int) (List cB):=jb (l.length+1) l 0
def ja (l:List UInt8):List cB×Int×Int:=if 4000<l.length then([],4000,6)else match pZ l with
 | .ok ts=>(ts,0,0)
 | .error (p,e)=>([],p,e)
inductive Ex where
 |mk (k:Int) (op nm tx:List UInt8) (v:Int) (args:List Ex)
inductive St where
 |mk (k:Int) (nm:List UInt8) (ex:List Ex) (body els:List St)
structure Vr where
 nm:List UInt8
 sz:Int
structure Fc where
 nm:List UInt8
 ps:List (List UInt8)
 body:List St
structure Pg where
 vs:List Vr
 fs:List Fc
def Ex.k:Ex->Int| .mk k _ _ _ _ _=>k
def Ex.op:Ex->List UInt8| .mk _ o _ _ _ _=>o
def Ex.nm:Ex->List UInt8| .mk _ _ n _ _ _=>n
def Ex.tx:Ex->List UInt8| .mk _ _ _ t _ _=>t
def Ex.v:Ex->Int| .mk _ _ _ _ v _=>v
def Ex.args:Ex->List Ex| .mk _ _ _ _ _ a=>a
def St.k:St->Int| .mk k _ _ _ _=>k
def St.nm:St->List UInt8| .mk _ n _ _ _=>n
def St.ex:St->List Ex| .mk _ _ e _ _=>e
def St.body:St->List St| .mk _ _ _ b _=>b
def St.els:St->List St| .mk _ _ _ _ e=>e
def zT:cB:=⟨0,[],0,0⟩
def cX:List cB->cB
 | []=>zT
 |t::_=>t
def dJ (s:List UInt8) (l:List cB):Bool:=((cX l).k==5||(cX l).k==2)&&(cX l).t==s
theorem oA {s:List UInt8} {l:List cB} (a:dJ s l=true):l≠ []:=by
 intro e;subst e;simp[dJ,cX,zT]at a
theorem bO {s:List UInt8} {l:List cB} (a:dJ s l=true):l.length=l.tail.length+1:=by
 cases l with
 |nil=>exact absurd rfl (oA a)
 |cons t r=>rfl
def IE (en:Int):List cB->Int
 | []=>en
 |t::_=>t.f
def mX (s:List UInt8):Int:=
 if s=[124,124]then 1 else if s=[38,38]then 2 else if s=[61,61]then 3 else if s=[33,61]then 3
 else if s=[60]then 4 else if s=[60,61]then 4 else if s=[62]then 4 else if s=[62,61]then 4
 else if s=[43]then 5 else if s=[45]then 5 else if s=[42]then 6 else if s=[47]then 6 else if s=[37]then 6 else 0
theorem GM (s:List UInt8):0<=mX s/\mX s<=6:=by
 unfold mX
 (repeat' split)<;>omega
abbrev PR (α:Type):=Except (List cB×Int) (α×List cB)
def PR.then {α β:Type} (x:PR α) (k:α->List cB->PR β):PR β:=match x with
 | .error e=> .error e
 | .ok (a,r)=>k a r
def cJ (s:List UInt8) (l:List cB):PR Unit:=if dJ s l then .ok ((),l.tail)else .error (l,3)
def jP (l:List cB):PR (List UInt8):=if(cX l).k=1 then .ok ((cX l).t,l.tail)else .error (l,3)
def oT:List UInt8:=[40]
def mA:List UInt8:=[41]
def Ib:List UInt8:=[123]
def Hj:List UInt8:=[125]
def tg:List UInt8:=[91]
def we:List UInt8:=[93]
def Bv:List UInt8:=[44]
def zg:List UInt8:=[59]
def FG:List UInt8:=[61]
def wf:List UInt8:=[45]
def ya:List UInt8:=[33]
def nZ:List UInt8:=[118,97,114]
def l6:List UInt8:=[102,117,110,99]
def Ic:List UInt8:=[105,102]
def FH:List UInt8:=[101,108,115,101]
def wV:List UInt8:=[119,104,105,108,101]
def td:List UInt8:=[114,101,116,117,114,110]
mutual
def cF:Nat->Int->List cB->PR Ex
 |0,_,l=> .error (l,0)
 |f+1,n,l=>(dw f l).then λx r=>js f n x r
def js:Nat->Int->Ex->List cB->PR Ex
 |0,_,_,l=> .error (l,0)
 |f+1,n,x,l=>if(cX l).k=5/\n<=mX (cX l).t then(cF f (mX (cX l).t+1) l.tail).then λy r=>js f n (.mk 7 (cX l).t [] [] 0 [x,y]) r else .ok (x,l)
def dw:Nat->List cB->PR Ex
 |0,l=> .error (l,0)
 |f+1,l=>
  if(cX l).k=3 then .ok (.mk 1 [] [] [] (cX l).v [],l.tail)
  else if(cX l).k=4 then .ok (.mk 2 [] [] (cX l).t 0 [],l.tail)
  else if(cX l).k=1 then cZ f (cX l).t l.tail
  else if dJ wf l||dJ ya l then(dw f l.tail).then λx r=> .ok (.mk 6 (cX l).t [] [] 0 [x],r)
  else(cJ oT l).then λ_ r=>(cF f 1 r).then λx r=>(cJ mA r).then λ_ r=> .ok (x,r)
def cZ:Nat->List UInt8->List cB->PR Ex
 |0,_,l=> .error (l,0)
 |f+1,nm,l=>
  if dJ tg l then(cF f 1 l.tail).then λx r=>(cJ we r).then λ_ r=> .ok (.mk 4 [] nm [] 0 [x],r)
  else if dJ oT l then(gH f l.tail).then λa r=> .ok (.mk 5 [] nm [] 0 a,r)
  else .ok (.mk 3 [] nm [] 0 [],l)
def gH:Nat->List cB->PR (List Ex)
 |0,l=> .error (l,0)
 |f+1,l=>if dJ mA l then .ok ([],l.tail)else iz f [] l
def iz:Nat->List Ex->List cB->PR (List Ex)
 |0,_,l=> .error (l,0)
 |f+1,acc,l=>(cF f 1 l).then λx r=>if dJ mA r then .ok (acc++[x],r.tail)else(cJ Bv r).then λ_ r=>iz f (acc++[x]) r
end
mutual
def ej:Nat->List cB->PR (List St)
 |0,l=> .error (l,0)
 |f+1,l=>(cJ Ib l).then λ_ r=>fD f [] r
def fD:Nat->List St->List cB->PR (List St)
 |0,_,l=> .error (l,0)
 |f+1,acc,l=>if dJ Hj l then .ok (acc,l.tail)else(ei f l).then λs r=>fD f (acc++[s]) r
def qg:Nat->List cB->PR St
 |0,l=> .error (l,0)
 |f+1,l=>(cF f 1 l).then λx r=>(ej f r).then λb r=>
  if dJ FH r then
   if dJ Ic r.tail then(qg f r.tail.tail).then λs r=> .ok (.mk 4 [] [x] b [s],r)
   else(ej f r.tail).then λc r=> .ok (.mk 4 [] [x] b c,r)
  else .ok (.mk 4 [] [x] b [],r)
def ei:Nat->List cB->PR St
 |0,l=> .error (l,0)
 |f+1,l=>
  if dJ Ic l then qg f l.tail
  else if dJ wV l then(cF f 1 l.tail).then λx r=>(ej f r).then λb r=> .ok (.mk 5 [] [x] b [],r)
  else if dJ nZ l then(jP l.tail).then λnm r=>
   (if dJ FG r then(cF f 1 r.tail).then λx r=> .ok ([x],r)else .ok ([],r)).then λex r=>(cJ zg r).then λ_ r=> .ok (.mk 1 nm ex [] [],r)
  else if dJ td l then(if dJ zg l.tail then .ok ([],l.tail)else(cF f 1 l.tail).then λx r=> .ok ([x],r)).then λex r=>(cJ zg r).then λ_ r=> .ok (.mk 6 [] ex [] [],r)
  else(jP l).then λnm r=>
   (if dJ oT r then(cZ f nm r).then λx r=> .ok (.mk 7 [] [x] [] [],r)
   else if dJ tg r then(cF f 1 r.tail).then λi r=>(cJ we r).then λ_ r=>(cJ FG r).then λ_ r=>(cF f 1 r).then λx r=> .ok (.mk 3 nm [i,x] [] [],r)
   else(cJ FG r).then λ_ r=>(cF f 1 r).then λx r=> .ok (.mk 2 nm [x] [] [],r)).then λs r=>(cJ zg r).then λ_ r=> .ok (s,r)
end
def kF (l:List cB):PR Vr:=(jP l).then λnm r=>
 (if dJ tg r then
  if(cX r.tail).k=3 then
   if(cX r.tail).v<1\/2000<(cX r.tail).v then .error (r.tail,2)else(cJ we r.tail.tail).then λ_ q=> .ok ((cX r.tail).v,q)
  else .error (r.tail,3)
 else .ok (0,r)).then λsz r=>(cJ zg r).then λ_ r=> .ok (⟨nm,sz⟩,r)
def gh:Nat->List (List UInt8)->List cB->PR (List (List UInt8))
 |0,_,l=> .error (l,0)
 |f+1,acc,l=>(jP l).then λx r=>if dJ mA r then .ok (acc++[x],r.tail)else(cJ Bv r).then λ_ r=>gh f (acc++[x]) r
def gv (f:Nat) (l:List cB):PR (List (List UInt8)):=if dJ mA l then .ok ([],l.tail)else gh f [] l
def ly (f:Nat) (l:List cB):PR Fc:=(jP l).then λnm r=>(cJ oT r).then λ_ r=>(gv f r).then λps r=>(ej f r).then λb r=> .ok (⟨nm,ps,b⟩,r)
def d9:Nat->Pg->List cB->PR Pg
 |0,_,l=> .error (l,0)
 |f+1,p,l=>if l=[]then .ok (p,[])
  else if dJ nZ l then(kF l.tail).then λv r=>d9 f ⟨p.vs++[v],p.fs⟩ r
  else(cJ l6 l).then λ_ r=>(ly f r).then λc r=>d9 f ⟨p.vs,p.fs++[c]⟩ r
theorem PR.then_ok {h d:Type} {x:PR h} {k:h->List cB->PR d} {b:d} {r:List cB} (a:x.then k=.ok (b,r)): ∃o q,x=.ok (o,q)/\k o q=.ok (b,r):=by
 unfold PR.then at a;split at a
 ·cases a
 ·exact⟨_,_,rfl,a⟩
theorem eP {s:List UInt8} {l r:List cB} {h:Unit} (a:cJ s l=.ok (h,r)):dJ s l=true/\r=l.tail/\l.length=r.length+1:=by
 unfold cJ at a;split at a
 ·rename_i d;injection a with a;injection a with _ a;subst a;exact⟨d,rfl,bO d⟩
 ·cases a
theorem jv {l:List cB} (a:(cX l).k≠0):l.length=l.tail.length+1:=by
 cases l with
 |nil=>exact absurd rfl a
 |cons t r=>rfl
theorem l7 {l r:List cB} {nm:List UInt8} (a:jP l=.ok (nm,r)):(cX l).k=1/\nm=(cX l).t/\r=l.tail/\l.length=r.length+1:=by
 unfold jP at a;split at a
 ·rename_i d;injection a with a;injection a with h a;subst a h;exact⟨d,rfl,rfl,jv (by rw[d];decide)⟩
 ·cases a
theorem bP {d:Type} {h b:d} {r q:List cB} (a:(Except.ok (h,r):PR d)=.ok (b,q)):h=b/\r=q:=by
 injection a with a;injection a with u o;exact⟨u,o⟩
theorem ke: ∀(f:Nat),
  (∀n l x r,cF f n l=.ok (x,r)->r.length<l.length)/\(∀n F l x r,js f n F l=.ok (x,r)->r.length<=l.length)/\
  (∀l x r,dw f l=.ok (x,r)->r.length<l.length)/\(∀nm l x r,cZ f nm l=.ok (x,r)->r.length<=l.length)/\
  (∀l x r,gH f l=.ok (x,r)->r.length<l.length)/\(∀aa l x r,iz f aa l=.ok (x,r)->r.length<l.length)
 |0=>by
  refine⟨?_,?_,?_,?_,?_,?_⟩;all_goals (intros;rename_i a;simp[cF,js,dw,cZ,gH,iz]at a)
 |f+1=>by
  obtain⟨A,V,R,H,ad,X⟩:=ke f;refine⟨?_,?_,?_,?_,?_,?_⟩
  ·intro n l x r a;rw[cF]at a;obtain⟨y,q,o,h⟩:=PR.then_ok a;have:=R _ _ _ o;have:=V _ _ _ _ _ h;omega
  ·intro n F l x r a;rw[js]at a;split at a
   ·rename_i d;obtain⟨y,q,o,h⟩:=PR.then_ok a;have:=A _ _ _ _ o;have:=V _ _ _ _ _ h;have:=jv (l:=l) (by rw[d.1];decide);omega
   ·rw[(bP a).2];exact ah _
  ·intro l x r a;rw[dw]at a;split at a
   ·rename_i d;have:=jv (l:=l) (by rw[d];decide);rw[<-(bP a).2];omega
   ·split at a
    ·rename_i d;have:=jv (l:=l) (by rw[d];decide);rw[<-(bP a).2];omega
    ·split at a
     ·rename_i d;have:=jv (l:=l) (by rw[d];decide);have:=H _ _ _ _ a;omega
     ·split at a
      ·rename_i d;obtain⟨y,q,o,h⟩:=PR.then_ok a;have:=R _ _ _ o;have w:=(bP h).2;have:l.length=l.tail.length+1:=by
        rw[du]at d;rcases d with d|d<;>exact bO d
       subst w;omega
      ·obtain⟨y,q,o,h⟩:=PR.then_ok a;obtain⟨I,G,w,z⟩:=PR.then_ok h;obtain⟨ai,ag,af,ae⟩:=PR.then_ok z;have:=(eP o).2.2;have:=A _ _ _ _ w;have:=(eP af).2.2;have u:=(bP ae).2;subst u;omega
  ·intro nm l x r a;rw[cZ]at a;split at a
   ·rename_i d;obtain⟨y,q,o,h⟩:=PR.then_ok a;obtain⟨I,G,w,z⟩:=PR.then_ok h;have:=bO d;have:=A _ _ _ _ o;have:=(eP w).2.2;have u:=(bP z).2;subst u;omega
   ·split at a
    ·rename_i d;obtain⟨y,q,o,h⟩:=PR.then_ok a;have:=bO d;have:=ad _ _ _ o;have u:=(bP h).2;subst u;omega
    ·have:=(bP a).2;subst this;omega
  ·intro l x r a;rw[gH]at a;split at a
   ·rename_i d;have:=bO d;have u:=(bP a).2;subst u;omega
   ·exact X _ _ _ _ a
  ·intro aa l x r a;rw[iz]at a;obtain⟨y,q,o,h⟩:=PR.then_ok a;have:=A _ _ _ _ o;split at h
   ·rename_i d;have:=bO d;have u:=(bP h).2;subst u;omega
   ·obtain⟨I,G,w,z⟩:=PR.then_ok h;have:=(eP w).2.2;have:=X _ _ _ _ z;omega
theorem qc: ∀(f:Nat),
  (∀l x r,ej f l=.ok (x,r)->r.length<l.length)/\(∀an l x r,fD f an l=.ok (x,r)->r.length<l.length)/\
  (∀l x r,qg f l=.ok (x,r)->r.length<l.length)/\(∀l x r,ei f l=.ok (x,r)->r.length<l.length)
 |0=>by
  refine⟨?_,?_,?_,?_⟩;all_goals (intros;rename_i a;simp[ej,fD,qg,ei]at a)
 |f+1=>by
  obtain⟨ae,am,al,ar⟩:=qc f;obtain⟨G,_,_,au,_,_⟩:=ke f;refine⟨?_,?_,?_,?_⟩
  ·intro l x r a;rw[ej]at a;obtain⟨X,q,z,y⟩:=PR.then_ok a;have:=(eP z).2.2;have:=am _ _ _ _ y;omega
  ·intro an l x r a;rw[fD]at a;split at a
   ·rename_i o;have:=bO o;have h:=(bP a).2;subst h;omega
   ·obtain⟨X,q,z,y⟩:=PR.then_ok a;have:=ar _ _ _ z;have:=am _ _ _ _ y;omega
  ·intro l x r a;rw[qg]at a;obtain⟨X,q,z,y⟩:=PR.then_ok a;obtain⟨ad,I,d,u⟩:=PR.then_ok y;have:=G _ _ _ _ z;have:=ae _ _ _ d;split at u
   ·rename_i o;have:=bO o;split at u
    ·rename_i af;have:=bO af;obtain⟨H,aa,F,A⟩:=PR.then_ok u;have:=al _ _ _ F;have h:=(bP A).2;subst h;omega
    ·obtain⟨H,aa,F,A⟩:=PR.then_ok u;have:=ae _ _ _ F;have h:=(bP A).2;subst h;omega
   ·have h:=(bP u).2;subst h;omega
  ·intro l x r a;rw[ei]at a;split at a
   ·rename_i o;have:=bO o;have:=al _ _ _ a;omega
   split at a
   ·rename_i o;have:=bO o;obtain⟨X,q,z,y⟩:=PR.then_ok a;obtain⟨ad,I,d,u⟩:=PR.then_ok y;have:=G _ _ _ _ z;have:=ae _ _ _ d;have h:=(bP u).2;subst h;omega
   split at a
   ·rename_i o;have:=bO o;obtain⟨X,q,z,y⟩:=PR.then_ok a;obtain⟨ad,I,d,u⟩:=PR.then_ok y;obtain⟨H,aa,F,A⟩:=PR.then_ok u;have:=(l7 z).2.2.2;have:=(eP F).2.2;have h:=(bP A).2;subst h;split at d
    ·rename_i af;have:=bO af;obtain⟨ao,Z,V,R⟩:=PR.then_ok d;have:=G _ _ _ _ V;have w:=(bP R).2;subst w;omega
    ·have w:=(bP d).2;subst w;omega
   split at a
   ·rename_i o;have:=bO o;obtain⟨ad,I,d,u⟩:=PR.then_ok a;obtain⟨H,aa,F,A⟩:=PR.then_ok u;have:=(eP F).2.2;have h:=(bP A).2;subst h;split at d
    ·have w:=(bP d).2;subst w;omega
    ·obtain⟨ao,Z,V,R⟩:=PR.then_ok d;have:=G _ _ _ _ V;have w:=(bP R).2;subst w;omega
   ·obtain⟨X,q,z,y⟩:=PR.then_ok a;obtain⟨ad,I,d,u⟩:=PR.then_ok y;obtain⟨H,aa,F,A⟩:=PR.then_ok u;have:=(l7 z).2.2.2;have:=(eP F).2.2;have h:=(bP A).2;subst h;split at d
    ·obtain⟨ao,Z,V,R⟩:=PR.then_ok d;have:=au _ _ _ _ V;have w:=(bP R).2;subst w;omega
    ·split at d
     ·rename_i o;have:=bO o;obtain⟨b1,aq,aj,ai⟩:=PR.then_ok d;obtain⟨b2,ap,ah,ag⟩:=PR.then_ok ai;obtain⟨b3,aA,ay,ax⟩:=PR.then_ok ag;obtain⟨aB,az,aw,av⟩:=PR.then_ok ax;have:=G _ _ _ _ aj;have:=(eP ah).2.2;have:=(eP ay).2.2;have:=G _ _ _ _ aw;have w:=(bP av).2;subst w;omega
     ·obtain⟨b1,aq,aj,ai⟩:=PR.then_ok d;obtain⟨b2,ap,ah,ag⟩:=PR.then_ok ai;have:=(eP aj).2.2;have:=G _ _ _ _ ah;have w:=(bP ag).2;subst w;omega
end
section
def sD:List (List UInt8×Int×List UInt8):=
 [([101,120,105,116],0,[105]),
 ([107,105,108,108],4,[105]),
 ([103,114,111,119],6,[105]),
 ([99,108,111,115,101],8,[105]),
 ([115,101,114,118,101],16,[105]),
 ([100,105,97,108],17,[105]),
 ([115,108,101,101,112],19,[105]),
 ([102,111,114,107],1,[]),
 ([119,97,105,116],3,[]),
 ([115,101,108,102],5,[]),
 ([112,105,112,101],11,[]),
 ([116,105,109,101],18,[]),
 ([100,117,112],12,[105,105]),
 ([101,120,101,99],2,[115]),
 ([117,110,108,105,110,107],13,[115]),
 ([109,107,100,105,114],14,[115]),
 ([111,112,101,110],7,[115,105]),
 ([114,101,97,100],9,[105,97,105]),
 ([119,114,105,116,101],10,[105,98,105])]
abbrev Bi:=Option (Int×List UInt8)
def fX (s:List UInt8):Bi:=(sD.find? (λx=>x.1==s)).map (·.2)
def Ip (s:List UInt8):Bool:=(fX s).isSome
def nB (b:Bi) (i:Nat):Bool:=match b with
 |none=>true
 |some (_,a)=>decide (a.length<=i)||a.getD i 0==105
def xr (op:List UInt8):Bool:=op==[38,38]||op==[124,124]
mutual
def ek:Ex->Nat
 | .mk k op nm tx v a=>if k=4\/k=6 then jc 1 a else if k=7 then gy (xr op) 0 1 a else if k=5 then gx (fX nm) 0 0 1 a else 1
def jc:Nat->List Ex->Nat
 |m,[]=>m
 |m,y::r=>jc (max m (ek y)) r
def gy (lg:Bool):Nat->Nat->List Ex->Nat
 |i,m,[]=>m
 |i,m,y::r=>gy lg (i+1) (max m (if 0<i/\lg=false then ek y+1 else ek y)) r
def gx (b:Bi):Nat->Nat->Nat->List Ex->Nat
 |i,fr,m,[]=>m
 |i,fr,m,y::r=>if nB b i=true then gx b (i+1) (fr+1) (max m (fr+ek y)) r else gx b (i+1) fr m r
end
mutual
def mO:St->Nat
 | .mk k _ _ b e=>(if k=1 then 1 else 0)+(cK b+cK e)
def cK:List St->Nat
 | []=>0
 |s::r=>mO s+cK r
end
def e_ (f:Fc):Nat:=4*(8+f.ps.length+cK f.body)
mutual
def IY:St->Bool
 | .mk _ _ x b e=>x.any (λy=>decide (7<ek y))||(nO b||nO e)
def nO:List St->Bool
 | []=>false
 |s::r=>IY s||nO r
end
abbrev Er:=List UInt8×Int
structure Gl where
 arr:List UInt8->Option Int
 int:List UInt8->Bool
 fn:List UInt8->Option Nat
abbrev Ls:=List UInt8->Bool
def gK:Ls:=λ_=>false
def Ls.add (l:Ls) (s:List UInt8):Ls:=λx=>x==s||l x
def Gl.known (g:Gl) (lo:Ls) (s:List UInt8):Bool:=(g.arr s).isSome||((g.fn s).isSome||(g.int s||(lo s||Ip s)))
abbrev CR:=Except Er Unit
def CR.then {α:Type} (x:Except Er α) {β:Type} (k:α->Except Er β):Except Er β:=match x with
 | .error e=> .error e
 | .ok a=>k a
theorem gN {d a:Type} (e:Er) (k:d->Except Er a):CR.then (.error e) k=.error e:=rfl
theorem fA {a h:Type} (d:a) (k:a->Except Er h):CR.then (.ok d) k=k d:=rfl
def rj (g:Gl) (lo:Ls) (s:List UInt8):CR:=if(lo s||g.int s)=true then .ok ()else if g.known lo s=true then .error (s,16)else .error (s,15)
def mg (g:Gl) (lo:Ls) (s:List UInt8):CR:=if(g.arr s).isSome=true then .ok ()else if g.known lo s=true then .error (s,16)else .error (s,15)
def uc (c:UInt8) (k:Int):Bool:=(c==115&&k !=2)||((c==97&&k !=3)||(c==98&&(k !=3&&k !=2)))
def Ez (b:Bi) (i:Nat):UInt8:=match b with
 |none=>0
 |some (_,a)=>a.getD i 0
def yD (g:Gl) (nm:List UInt8):Option Nat:=match fX nm with
 |some (_,a)=>some a.length
 |none=>g.fn nm
mutual
def qj (g:Gl) (lo:Ls):Ex->CR
 | .mk k op nm tx v a=>
  if k=3 then rj g lo nm
  else if k=4 then CR.then (mg g lo nm) λ_=>p8 g lo a
  else if k=2 then .error ([],16)
  else if k=5 then match yD g nm with
   |none=> .error (nm,15)
   |some n=>if n=a.length then rK g lo nm (fX nm) 0 a else .error (nm,16)
  else if k=6\/k=7 then p8 g lo a
  else .ok ()
def p8 (g:Gl) (lo:Ls):List Ex->CR
 | []=> .ok ()
 |y::r=>CR.then (qj g lo y) λ_=>p8 g lo r
def rK (g:Gl) (lo:Ls) (nm:List UInt8) (b:Bi):Nat->List Ex->CR
 | _,[]=> .ok ()
 |i,y::r=>CR.then (if nB b i=true then qj g lo y else if uc (Ez b i) y.k=true then .error (nm,16)else if y.k=3 then mg g lo y.nm else .ok ()) λ_=>rK g lo nm b (i+1) r
end
abbrev SR:=Except Er Ls
mutual
def vO (g:Gl):Ls->St->SR
 |lo,.mk k nm ex bd el=>
  CR.then (if k=2 then rj g lo nm else if k=3 then mg g lo nm else .ok ()) λ_=>
  CR.then (p8 g lo ex) λ_=>
  CR.then (if k=1 then(if g.known lo nm=true then .error (nm,9)else .ok (lo.add nm))else .ok lo) λlo1=>
  CR.then (gV g lo1 bd) λlo2=>gV g lo2 el
def gV (g:Gl):Ls->List St->SR
 |lo,[]=> .ok lo
 |lo,s::r=>CR.then (vO g lo s) λlo1=>gV g lo1 r
end
def Gl.addV (g:Gl) (v:Vr):Gl:=if 0<v.sz then{g with arr:=λx=>if x=v.nm then some v.sz else g.arr x}else{g with int:=λx=>x==v.nm||g.int x}
def Gl.addF (g:Gl) (f:Fc):Gl:={g with fn:=λx=>if x=f.nm then some f.ps.length else g.fn x}
def tE:Gl:=⟨λ_=>none,λ_=>false,λ_=>none⟩
def dH:List UInt8:=[109,97,105,110]
def oW:Gl->List Vr->Except Er Gl
 |g,[]=> .ok g
 |g,v::r=>if g.known gK v.nm=true then .error (v.nm,9)else oW (g.addV v) r
def nf:Gl->List Fc->Except Er Gl
 |g,[]=> .ok g
 |g,f::r=>if g.known gK f.nm=true then .error (f.nm,9)else nf (g.addF f) r
def sT (p:Pg):Except Er Gl:=
 CR.then (oW tE p.vs) λg=>CR.then (nf g p.fs) λg=>match g.fn dH with
  |none=> .error (dH,8)
  |some n=>if 0<n then .error (dH,16)else .ok g
def pt (g:Gl):Ls->List (List UInt8)->SR
 |lo,[]=> .ok lo
 |lo,p::r=>if g.known lo p=true then .error (p,9)else pt g (lo.add p) r
def ks (g:Gl):List Fc->CR
 | []=> .ok ()
 |f::r=>CR.then (pt g gK f.ps) λlo=>CR.then (gV g lo f.body) λ_=>ks g r
def gk:List Fc->CR
 | []=> .ok ()
 |f::r=>if 20<f.ps.length+cK f.body\/nO f.body=true then .error (f.nm,6)else gk r
def lB (p:Pg):CR:=CR.then (sT p) λg=>CR.then (ks g p.fs) λ_=>gk p.fs
end
section
def wm (v:Int):Int:=IntKind.wrap .i32 v
def Ke (b:Bool):Int:=if b=true then 1 else 0
structure Ms where
 ints:List UInt8->Int
 arrs:List UInt8->List UInt8
 left:Nat
 stk:Nat
 used:Nat
structure Oc where
 kind:Int
 call:Int
 a0:Int
 a1:Int
 a2:Int
 data:List UInt8
 used:Nat
abbrev Rs:=List (Int×List UInt8)
abbrev Lo:=List UInt8->Option Int
inductive Dt where
 |no
 |txt (t:List UInt8)
 |arr (nm:List UInt8)
structure Cx where
 fn:List UInt8->Fc
 R:Rs
def aS:=@PR.then_ok
end
end Go.Proofs.YtoedmpgicdekmaaGreatDoor
