/-
  Parts of the proof: LexP ParP TyP TyR.
-/
import Derived.Test.YtddomeddabfinaaGreatDoorProg
set_option maxRecDepth 100000
set_option maxHeartbeats 8000000
set_option linter.unusedVariables false
set_option linter.unusedSimpArgs false
set_option linter.defProp false
set_option linter.unusedSectionVars false
namespace Go.Proofs.YtddomeddabfinaaGreatDoor
def Z:=@Option.some.inj
def aa:=@List.length_append
def ac:=@List.drop_succ_cons
def ae:=@List.length_cons
def ag:=@List.length_nil
def ah:=@Nat.le_refl
def ak:=@Bool.and_eq_true
def an:=@List.drop_zero
def aq:=@List.getElem_mem
def aw:=@Array.getD_eq_getD_getElem?
def ax:=@List.drop_eq_getElem_cons
def ay:=@And.intro
def aA:=@Nat.lt_of_lt_of_le
def aB:=@Nat.zero_le
def aD:=@Nat.zero_add
def aE:=@List.eq_nil_of_length_eq_zero
def aG:=@List.getElem_cons_zero
def aH:=@List.drop_of_length_le
def aJ:=@Nat.le_of_lt
def aK:=@List.getElem?_eq_getElem
def aL:=@List.drop_nil
def aM:=@Nat.le_trans
def aO:=@Bool.false_eq_true
def aP:=@List.getElem_cons_succ
def aR:=@List.append_assoc
def aT:=@List.take_succ_eq_append_getElem
def a_:=@Nat.zero_mul
def bh:=@List.setIfInBounds_toArray
def bm:=@List.length_take
def bq:=@Array.getElem?_setIfInBounds
def br:=@List.take_of_length_le
def bw:=@List.length_drop
def bA:=@Nat.add_zero
def bC:=@Option.getD_some
def bD:=@List.map_cons
def bE:=@Nat.ne_of_gt
def bF:=@Array.getElem?_eq_getElem
def bG:=@List.getElem?_take
def bK:=@List.take_length
def bL:=@List.flatMap_cons
def bN:=@Bool.or_eq_true
def bT:=@List.set_cons_zero
def bU:=@List.getD_eq_getElem?_getD
def bX:=@List.mem_of_find?_eq_some
def cd:=@List.set_cons_succ
def cg:=@List.getElem?_append_right
def ch:=@List.all_eq_true
def co:=@Nat.one_mul
def cr:=@List.mem_singleton
def cK:=@Option.isSome_some
def cP:=@List.getElem?_append_left
def cR:=@List.take_append_drop
def cU:=@List.map_nil
def cW:=@Option.isSome_none
def cX:=@List.not_mem_nil
def cY:=@Int.eq_ofNat_of_zero_le
def dx:=@List.map_map
def dz:=@Array.getElem?_replicate
def dH:=@Value.slice.injEq
def dJ:=@List.cons.injEq
def dK:=@List.append_nil
def dQ:=@List.mem_cons
def dT:=@Option.getD_none
def dU:=@List.map_toArray
def dY:=@List.mem_range
def dZ:=@List.drop_drop
def d5:=@Array.any_eq_true'
def eb:=@List.map_append
def ed:=@Int.toNat_natCast
def ee:=@Array.all_eq_true_iff_forall_mem
def eo:=@Nat.add_assoc
def ep:=@List.sum_cons
def eD:=@Array.mk.injEq
def eM:=@Option.map_eq_some_iff
def eN:=@Array.getElem?_eq_none
def eS:=@List.length_map
def eW:=@List.getElem_take
def fx:=@Option.bind_some
def fA:=@Ne.symm
def fB:=@Nat.lt_succ_self
def fC:=@Nat.lt_or_ge
def fJ:=@Nat.mul_le_mul_left
def fK:=@List.flatMap_append
def fQ:=@Bool.eq_iff_iff
def fT:=@UInt8.toNat_ofNat'
def fU:=@Option.any_eq_true
def fV:=@List.mem_cons_self
def fW:=@List.contains_cons
def fY:=@List.getElem?_cons_zero
def fZ:=@List.getElem?_cons_succ
def gC:=@Bool.and_true
def gE:=@List.mem_cons_of_mem
def gQ:=@Option.map_some
def gR:=@Nat.not_lt_zero
def gX:=@List.replicate_succ
def gY:=@List.length_flatMap
def iQ:=@UInt8.ofNat_toNat
def iR:=@List.getElem?_map
def iT:=@Array.toList_push
def jc:=@List.any_cons
def jd:=@ByteArray.ext
def je:=@Bool.false_or
def jl:=@List.getElem_set
def jm:=@List.cons_append
def jD:=@List.range_succ_eq_map
def jE:=@List.head?_eq_getElem?
def jF:=@Bool.or_comm
def jG:=@Array.ext'
def jW:=@List.nil_append
def jX:=@List.find?_cons
def jY:=@List.all_append
def j':=@List.length_replicate
def ka:=@List.getElem?_toArray
def kb:=@List.getElem?_eq_none
def kd:=@List.countP_singleton
def kq:=@Nat.mul_one
def kr:=@Nat.le_succ
def li:=@Bool.or_false
def lk:=@Bool.or_assoc
def lM:=@Nat.ne_of_lt
open Go.Proofs.Tryz
section
def k9 (c:UInt8):Bool:=decide (97<=(c|||32).toNat/\(c|||32).toNat<=122)
def eR (c:UInt8):Bool:=decide (48<=c.toNat/\c.toNat<=57)
def eZ (c:UInt8):Bool:=k9 c||eR c||c==95
def BJ (c:UInt8):Bool:=c==32||c==9||c==10||c==13
def ES:List (List UInt8):=[[118,97,114],[102,117,110,99],[105,102],[101,108,115,101],[119,104,105,108,101],[114,101,116,117,114,110]]
def v7 (l:List UInt8):Bool:=ES.contains l
def cf (p:UInt8->Bool):List UInt8->Nat
 | []=>0
 |c::l=>if p c then cf p l+1 else 0
theorem iq (p:UInt8->Bool): ∀l,cf p l<=l.length
 | []=>ah _
 |c::l=>by
  simp only[cf];split
  ·have:=iq p l;simp;omega
  ·simp
theorem nX (p:UInt8->Bool): ∀(l:List UInt8) (j:Nat),j<=cf p l->cf p l=j+cf p (l.drop j)
 |l,0,_=>by simp
 | [],j+1,h=>by simp[cf]at h
 |c::l,j+1,h=>by
  simp only[cf]at h⊢;split at h
  ·rename_i hc;rw[if_pos hc,ac,nX p l j (by omega)];omega
  ·omega
theorem sP (p:UInt8->Bool) {l:List UInt8} {j:Nat} (h:j<l.length):cf p (l.drop j)=if p l[j]then cf p (l.drop (j+1))+1 else 0:=by
 rw[ax h];rfl
def cM:Bool->List UInt8->Nat
 | _,[]=>0
 |false,c::l=>if BJ c then cM false l+1 else if c=47/\l.head? =some 47 then cM true l+1 else 0
 |true,c::l=>if c=10 then cM false l+1 else cM true l+1
theorem kA: ∀(b:Bool) (l:List UInt8),cM b l<=l.length
 |b,[]=>by cases b<;>simp[cM]
 |false,c::l=>by
  simp only[cM];split
  ·have:=kA false l;simp;omega
  ·split
   ·have:=kA true l;simp;omega
   ·simp
 |true,c::l=>by
  simp only[cM];split
  ·have:=kA false l;simp;omega
  ·have:=kA true l;simp;omega
def fp:List UInt8->Nat:=cf (fun c=>c !=10)
theorem nY: ∀l,cM true l=fp l+cM false (l.drop (fp l))
 | []=>rfl
 |c::l=>by
  simp only[cM,fp,cf];by_cases hc:c=10
  ·subst hc;have hb:((10:UInt8) !=10)=false:=by decide
   have hw:BJ 10=true:=by decide
   rw[if_pos rfl,if_neg (by rw[hb];simp)];simp[cM,hw]
  ·have hb:(c !=10)=true:=by simp[hc]
   rw[if_neg hc,if_pos hb,nY l,ac];simp only[fp];omega
theorem oY {l:List UInt8} (h: ∃r,l=47::47::r):cM false l=fp l+cM false (l.drop (fp l)):=by
 obtain⟨r,rfl⟩:=h;rw[<-nY];have h1:BJ 47=false:=by decide
 have h2: ¬(47:UInt8)=10:=by decide
 simp[cM,h1,h2]
def kH (c:UInt8):Option UInt8:=if c=110 then some 10 else if c=116 then some 9 else if c=48 then some 0 else if c=92 then some 92 else if c=39 then some 39 else if c=34 then some 34 else none
def cv:List UInt8->UInt8×Nat
 | []=>(0,0)
 |c::r=>if c.toNat<32\/126<c.toNat then(0,0)else if c≠92 then(c,1)else match r with
  | []=>(0,0)
  |d::_=>match kH d with
   |some v=>(v,2)
   |none=>(0,0)
theorem kI (l:List UInt8):(cv l).2<=l.length/\(cv l).2<=2:=by
 match l with
 | []=>exact⟨ah _,by decide⟩
 | [c]=>
  simp only[cv];split
  ·exact⟨by simp,by simp⟩
  ·split
   ·exact⟨by simp,by simp⟩
   ·exact⟨by simp,by simp⟩
 |c::d::r=>
  simp only[cv];split
  ·exact⟨by simp,by simp⟩
  ·split
   ·exact⟨by simp,by simp⟩
   ·split<;>exact⟨by simp,by simp⟩
def nr:Nat->List UInt8->Option (List UInt8×Nat)
 |0,_=>none
 |f+1,m=>match m with
  | []=>none
  |c::r=>if c=34 then some ([],1)else if(cv (c::r)).2=0 then none else(nr f ((c::r).drop (cv (c::r)).2)).map fun x=>((cv (c::r)).1::x.1,(cv (c::r)).2+x.2)
theorem pI: ∀(f g:Nat) (m:List UInt8),m.length<=f->f<=g->nr g m=nr f m
 |0,g,m,h,_=>by
  have:m=[]:=aE (by omega);subst this
  cases g<;>rfl
 |f+1,0,m,h,hg=>by omega
 |f+1,g+1,m,h,hg=>by
  cases m with
  |nil=>rfl
  |cons c r=>
   simp only[nr];split
   ·rfl
   ·split
    ·rfl
    ·rename_i h0;rw[pI f g _ (by have:=kI (c::r);simp only[bw,ae]at h⊢;omega) (by omega)]
def jQ (m:List UInt8):Option (List UInt8×Nat):=nr m.length m
theorem yz (r:List UInt8):jQ (34::r)=some ([],1):=by simp[jQ,nr]
theorem yA {c:UInt8} {r:List UInt8} (h:c≠34) (h0:(cv (c::r)).2=0):jQ (c::r)=none:=by
 simp only[jQ,ae,nr];rw[if_neg h,if_pos h0]
theorem v6 {c:UInt8} {r:List UInt8} (h:c≠34) (h0:(cv (c::r)).2≠0):jQ (c::r)=(jQ ((c::r).drop (cv (c::r)).2)).map fun x=>((cv (c::r)).1::x.1,(cv (c::r)).2+x.2):=by
 have hl:=kI (c::r);simp only[jQ,ae,nr];rw[if_neg h,if_neg h0,pI _ r.length _ (ah _) (by simp only[bw,ae];omega)]
def mg (l:List UInt8):Nat:=l.foldl (fun v c=>v*10+(c.toNat-48)) 0
abbrev sg:=Except Int ((Int×List UInt8×Int)×Nat)
def j7 (l:List UInt8):sg:=if v7 (l.take (cf eZ l))then .ok ((2,l.take (cf eZ l),0),cf eZ l)else if 14<cf eZ l then .error 6 else .ok ((1,l.take (cf eZ l),0),cf eZ l)
def iu (l:List UInt8):sg:=
 if(l.drop (cf eR l)).head?.any eZ then .error 3
 else if 10<cf eR l\/(1<cf eR l/\l.head? =some 48)\/2147483647<mg (l.take (cf eR l))then .error 2
 else .ok ((3,[],mg (l.take (cf eR l))),cf eR l)
def i' (l:List UInt8):sg:=
 if(cv (l.drop 1)).2=0\/(l.drop 1).head? =some 39\/(l.drop ((cv (l.drop 1)).2+1)).head? ≠some 39 then .error 3 else .ok ((3,[],((cv (l.drop 1)).1.toNat:Int)),(cv (l.drop 1)).2+2)
def jp (l:List UInt8):sg:=match jQ (l.drop 1)with
 |none=> .error 3
 |some (t,n)=>if 128<t.length then .error 6 else .ok ((4,t,0),n+1)
def two:List (List UInt8):=[[61,61],[33,61],[60,61],[62,61],[38,38],[124,124]]
def oh:List UInt8:=[40,41,123,125,91,93,44,59,61,43,45,42,47,37,60,62,33]
def iX (l:List UInt8):sg:=if two.contains (l.take 2)then .ok ((5,l.take 2,0),2)else if(l.head?.any fun c=>oh.contains c)then .ok ((5,l.take 1,0),1)else .error 3
def kt (l:List UInt8):sg:=match l with
 | []=> .error 3
 |c::r=>if k9 c then j7 (c::r)else if eR c then iu (c::r)else if c=39 then i' (c::r)else if c=34 then jp (c::r)else iX (c::r)
structure bS where
 k:Int
 t:List UInt8
 v:Int
 f:Int
deriving DecidableEq
def gG:Nat->List UInt8->Nat->Except (Nat×Int) (List bS)
 |0,_,_=> .ok []
 |f+1,m,at_=>
  match m.drop (cM false m)with
  | []=> .ok []
  |c::r=>match kt (c::r)with
   | .error e=> .error (at_+cM false m,e)
   | .ok ((k,t,v),n)=>match gG f ((c::r).drop n) (at_+cM false m+n)with
    | .error e=> .error e
    | .ok ts=> .ok (⟨k,t,v,(at_+cM false m:Nat)⟩::ts)
def nq (l:List UInt8):Except (Nat×Int) (List bS):=gG (l.length+1) l 0
def gp (l:List UInt8):List bS×Int×Int:=if 4000<l.length then([],4000,6)else match nq l with
 | .ok ts=>(ts,0,0)
 | .error (p,e)=>([],p,e)
end
section
inductive Ex where
 |mk (k:Int) (op nm tx:List UInt8) (v:Int) (args:List Ex)
inductive St where
 |mk (k:Int) (nm:List UInt8) (ex:List Ex) (body els:List St)
structure Vr where
 nm:List UInt8
 sz:Int
structure Fc where
 nm:List UInt8
 ps:List (List UInt8)
 body:List St
structure Pg where
 vs:List Vr
 fs:List Fc
def Ex.k:Ex->Int| .mk k _ _ _ _ _=>k
def Ex.op:Ex->List UInt8| .mk _ o _ _ _ _=>o
def Ex.nm:Ex->List UInt8| .mk _ _ n _ _ _=>n
def Ex.tx:Ex->List UInt8| .mk _ _ _ t _ _=>t
def Ex.v:Ex->Int| .mk _ _ _ _ v _=>v
def Ex.args:Ex->List Ex| .mk _ _ _ _ _ a=>a
def St.k:St->Int| .mk k _ _ _ _=>k
def St.nm:St->List UInt8| .mk _ n _ _ _=>n
def St.ex:St->List Ex| .mk _ _ e _ _=>e
def St.body:St->List St| .mk _ _ _ b _=>b
def St.els:St->List St| .mk _ _ _ _ e=>e
def zT:bS:=⟨0,[],0,0⟩
def cu:List bS->bS
 | []=>zT
 |t::_=>t
def cV (s:List UInt8) (l:List bS):Bool:=((cu l).k==5||(cu l).k==2)&&(cu l).t==s
theorem l7 {s:List UInt8} {l:List bS} (h:cV s l=true):l≠ []:=by
 intro e;subst e;simp[cV,cu,zT]at h
theorem bx {s:List UInt8} {l:List bS} (h:cV s l=true):l.length=l.tail.length+1:=by
 cases l with
 |nil=>exact absurd rfl (l7 h)
 |cons t r=>rfl
def DX (en:Int):List bS->Int
 | []=>en
 |t::_=>t.f
def lq (s:List UInt8):Int:=
 if s=[124,124]then 1 else if s=[38,38]then 2 else if s=[61,61]then 3 else if s=[33,61]then 3
 else if s=[60]then 4 else if s=[60,61]then 4 else if s=[62]then 4 else if s=[62,61]then 4
 else if s=[43]then 5 else if s=[45]then 5 else if s=[42]then 6 else if s=[47]then 6 else if s=[37]then 6 else 0
theorem CH (s:List UInt8):0<=lq s/\lq s<=6:=by
 unfold lq
 (repeat' split)<;>omega
abbrev PR (α:Type):=Except (List bS×Int) (α×List bS)
def PR.then {α β:Type} (x:PR α) (k:α->List bS->PR β):PR β:=match x with
 | .error e=> .error e
 | .ok (a,r)=>k a r
def b7 (s:List UInt8) (l:List bS):PR Unit:=if cV s l then .ok ((),l.tail)else .error (l,3)
def iv (l:List bS):PR (List UInt8):=if(cu l).k=1 then .ok ((cu l).t,l.tail)else .error (l,3)
def mw:List UInt8:=[40]
def kS:List UInt8:=[41]
def DC:List UInt8:=[123]
def De:List UInt8:=[125]
def qm:List UInt8:=[91]
def sm:List UInt8:=[93]
def xH:List UInt8:=[44]
def vF:List UInt8:=[59]
def BM:List UInt8:=[61]
def sq:List UInt8:=[45]
def uj:List UInt8:=[33]
def lU:List UInt8:=[118,97,114]
def kB:List UInt8:=[102,117,110,99]
def DD:List UInt8:=[105,102]
def BN:List UInt8:=[101,108,115,101]
def sX:List UInt8:=[119,104,105,108,101]
def ql:List UInt8:=[114,101,116,117,114,110]
mutual
def bV:Nat->Int->List bS->PR Ex
 |0,_,l=> .error (l,0)
 |f+1,n,l=>(cO f l).then fun x r=>gZ f n x r
def gZ:Nat->Int->Ex->List bS->PR Ex
 |0,_,_,l=> .error (l,0)
 |f+1,n,x,l=>if(cu l).k=5/\n<=lq (cu l).t then(bV f (lq (cu l).t+1) l.tail).then fun y r=>gZ f n (.mk 7 (cu l).t [] [] 0 [x,y]) r else .ok (x,l)
def cO:Nat->List bS->PR Ex
 |0,l=> .error (l,0)
 |f+1,l=>
  if(cu l).k=3 then .ok (.mk 1 [] [] [] (cu l).v [],l.tail)
  else if(cu l).k=4 then .ok (.mk 2 [] [] (cu l).t 0 [],l.tail)
  else if(cu l).k=1 then cC f (cu l).t l.tail
  else if cV sq l||cV uj l then(cO f l.tail).then fun x r=> .ok (.mk 6 (cu l).t [] [] 0 [x],r)
  else(b7 mw l).then fun _ r=>(bV f 1 r).then fun x r=>(b7 kS r).then fun _ r=> .ok (x,r)
def cC:Nat->List UInt8->List bS->PR Ex
 |0,_,l=> .error (l,0)
 |f+1,nm,l=>
  if cV qm l then(bV f 1 l.tail).then fun x r=>(b7 sm r).then fun _ r=> .ok (.mk 4 [] nm [] 0 [x],r)
  else if cV mw l then(fI f l.tail).then fun a r=> .ok (.mk 5 [] nm [] 0 a,r)
  else .ok (.mk 3 [] nm [] 0 [],l)
def fI:Nat->List bS->PR (List Ex)
 |0,l=> .error (l,0)
 |f+1,l=>if cV kS l then .ok ([],l.tail)else ge f [] l
def ge:Nat->List Ex->List bS->PR (List Ex)
 |0,_,l=> .error (l,0)
 |f+1,acc,l=>(bV f 1 l).then fun x r=>if cV kS r then .ok (acc++[x],r.tail)else(b7 xH r).then fun _ r=>ge f (acc++[x]) r
end
mutual
def dE:Nat->List bS->PR (List St)
 |0,l=> .error (l,0)
 |f+1,l=>(b7 DC l).then fun _ r=>eC f [] r
def eC:Nat->List St->List bS->PR (List St)
 |0,_,l=> .error (l,0)
 |f+1,acc,l=>if cV De l then .ok (acc,l.tail)else(dD f l).then fun s r=>eC f (acc++[s]) r
def nG:Nat->List bS->PR St
 |0,l=> .error (l,0)
 |f+1,l=>(bV f 1 l).then fun x r=>(dE f r).then fun b r=>
  if cV BN r then
   if cV DD r.tail then(nG f r.tail.tail).then fun s r=> .ok (.mk 4 [] [x] b [s],r)
   else(dE f r.tail).then fun c r=> .ok (.mk 4 [] [x] b c,r)
  else .ok (.mk 4 [] [x] b [],r)
def dD:Nat->List bS->PR St
 |0,l=> .error (l,0)
 |f+1,l=>
  if cV DD l then nG f l.tail
  else if cV sX l then(bV f 1 l.tail).then fun x r=>(dE f r).then fun b r=> .ok (.mk 5 [] [x] b [],r)
  else if cV lU l then(iv l.tail).then fun nm r=>
   (if cV BM r then(bV f 1 r.tail).then fun x r=> .ok ([x],r)else .ok ([],r)).then fun ex r=>(b7 vF r).then fun _ r=> .ok (.mk 1 nm ex [] [],r)
  else if cV ql l then(if cV vF l.tail then .ok ([],l.tail)else(bV f 1 l.tail).then fun x r=> .ok ([x],r)).then fun ex r=>(b7 vF r).then fun _ r=> .ok (.mk 6 [] ex [] [],r)
  else(iv l).then fun nm r=>
   (if cV mw r then(cC f nm r).then fun x r=> .ok (.mk 7 [] [x] [] [],r)
   else if cV qm r then(bV f 1 r.tail).then fun i r=>(b7 sm r).then fun _ r=>(b7 BM r).then fun _ r=>(bV f 1 r).then fun x r=> .ok (.mk 3 nm [i,x] [] [],r)
   else(b7 BM r).then fun _ r=>(bV f 1 r).then fun x r=> .ok (.mk 2 nm [x] [] [],r)).then fun s r=>(b7 vF r).then fun _ r=> .ok (s,r)
end
def ju (l:List bS):PR Vr:=(iv l).then fun nm r=>
 (if cV qm r then
  if(cu r.tail).k=3 then
   if(cu r.tail).v<1\/2000<(cu r.tail).v then .error (r.tail,2)else(b7 sm r.tail.tail).then fun _ q=> .ok ((cu r.tail).v,q)
  else .error (r.tail,3)
 else .ok (0,r)).then fun sz r=>(b7 vF r).then fun _ r=> .ok (⟨nm,sz⟩,r)
def eX:Nat->List (List UInt8)->List bS->PR (List (List UInt8))
 |0,_,l=> .error (l,0)
 |f+1,acc,l=>(iv l).then fun x r=>if cV kS r then .ok (acc++[x],r.tail)else(b7 xH r).then fun _ r=>eX f (acc++[x]) r
def fe (f:Nat) (l:List bS):PR (List (List UInt8)):=if cV kS l then .ok ([],l.tail)else eX f [] l
def j9 (f:Nat) (l:List bS):PR Fc:=(iv l).then fun nm r=>(b7 mw r).then fun _ r=>(fe f r).then fun ps r=>(dE f r).then fun b r=> .ok (⟨nm,ps,b⟩,r)
def dh:Nat->Pg->List bS->PR Pg
 |0,_,l=> .error (l,0)
 |f+1,p,l=>if l=[]then .ok (p,[])
  else if cV lU l then(ju l.tail).then fun v r=>dh f ⟨p.vs++[v],p.fs⟩ r
  else(b7 kB l).then fun _ r=>(j9 f r).then fun c r=>dh f ⟨p.vs,p.fs++[c]⟩ r
theorem PR.then_ok {α β:Type} {x:PR α} {k:α->List bS->PR β} {b:β} {r:List bS} (h:x.then k= .ok (b,r)): ∃a q,x= .ok (a,q)/\k a q= .ok (b,r):=by
 unfold PR.then at h;split at h
 ·cases h
 ·exact⟨_,_,rfl,h⟩
theorem d6 {s:List UInt8} {l r:List bS} {u:Unit} (h:b7 s l= .ok (u,r)):cV s l=true/\r=l.tail/\l.length=r.length+1:=by
 unfold b7 at h;split at h
 ·rename_i h1;injection h with h;injection h with _ h;subst h;exact⟨h1,rfl,bx h1⟩
 ·cases h
theorem h_ {l:List bS} (h:(cu l).k≠0):l.length=l.tail.length+1:=by
 cases l with
 |nil=>exact absurd rfl h
 |cons t r=>rfl
theorem kC {l r:List bS} {nm:List UInt8} (h:iv l= .ok (nm,r)):(cu l).k=1/\nm=(cu l).t/\r=l.tail/\l.length=r.length+1:=by
 unfold iv at h;split at h
 ·rename_i h1;injection h with h;injection h with h2 h;subst h h2;exact⟨h1,rfl,rfl,h_ (by rw[h1];decide)⟩
 ·cases h
theorem bB {α:Type} {a b:α} {r q:List bS} (h:(Except.ok (a,r):PR α)= .ok (b,q)):a=b/\r=q:=by
 injection h with h;injection h with h1 h2;exact⟨h1,h2⟩
theorem i6: ∀(f:Nat),
  (∀n l x r,bV f n l= .ok (x,r)->r.length<l.length)/\(∀n y l x r,gZ f n y l= .ok (x,r)->r.length<=l.length)/\
  (∀l x r,cO f l= .ok (x,r)->r.length<l.length)/\(∀nm l x r,cC f nm l= .ok (x,r)->r.length<=l.length)/\
  (∀l x r,fI f l= .ok (x,r)->r.length<l.length)/\(∀acc l x r,ge f acc l= .ok (x,r)->r.length<l.length)
 |0=>by
  refine⟨?_,?_,?_,?_,?_,?_⟩;all_goals (intros;rename_i h;simp[bV,gZ,cO,cC,fI,ge]at h)
 |f+1=>by
  obtain⟨iE,iL,iP,iN,iA,iB⟩:=i6 f;refine⟨?_,?_,?_,?_,?_,?_⟩
  ·intro n l x r h;rw[bV]at h;obtain⟨a,q,h1,h2⟩:=PR.then_ok h;have:=iP _ _ _ h1;have:=iL _ _ _ _ _ h2;omega
  ·intro n y l x r h;rw[gZ]at h;split at h
   ·rename_i hk;obtain⟨a,q,h1,h2⟩:=PR.then_ok h;have:=iE _ _ _ _ h1;have:=iL _ _ _ _ _ h2;have:=h_ (l:=l) (by rw[hk.1];decide);omega
   ·rw[(bB h).2];exact ah _
  ·intro l x r h;rw[cO]at h;split at h
   ·rename_i hk;have:=h_ (l:=l) (by rw[hk];decide);rw[<-(bB h).2];omega
   ·split at h
    ·rename_i hk;have:=h_ (l:=l) (by rw[hk];decide);rw[<-(bB h).2];omega
    ·split at h
     ·rename_i hk;have:=h_ (l:=l) (by rw[hk];decide);have:=iN _ _ _ _ h;omega
     ·split at h
      ·rename_i hk;obtain⟨a,q,h1,h2⟩:=PR.then_ok h;have:=iP _ _ _ h1;have h3:=(bB h2).2;have:l.length=l.tail.length+1:=by
        rw[bN]at hk;rcases hk with hk|hk<;>exact bx hk
       subst h3;omega
      ·obtain⟨a,q,h1,h2⟩:=PR.then_ok h;obtain⟨a',q',h3,h4⟩:=PR.then_ok h2;obtain⟨a'',q'',h5,h6⟩:=PR.then_ok h4;have:=(d6 h1).2.2;have:=iE _ _ _ _ h3;have:=(d6 h5).2.2;have h7:=(bB h6).2;subst h7;omega
  ·intro nm l x r h;rw[cC]at h;split at h
   ·rename_i hk;obtain⟨a,q,h1,h2⟩:=PR.then_ok h;obtain⟨a',q',h3,h4⟩:=PR.then_ok h2;have:=bx hk;have:=iE _ _ _ _ h1;have:=(d6 h3).2.2;have h7:=(bB h4).2;subst h7;omega
   ·split at h
    ·rename_i hk;obtain⟨a,q,h1,h2⟩:=PR.then_ok h;have:=bx hk;have:=iA _ _ _ h1;have h7:=(bB h2).2;subst h7;omega
    ·have:=(bB h).2;subst this;omega
  ·intro l x r h;rw[fI]at h;split at h
   ·rename_i hk;have:=bx hk;have h7:=(bB h).2;subst h7;omega
   ·exact iB _ _ _ _ h
  ·intro acc l x r h;rw[ge]at h;obtain⟨a,q,h1,h2⟩:=PR.then_ok h;have:=iE _ _ _ _ h1;split at h2
   ·rename_i hk;have:=bx hk;have h7:=(bB h2).2;subst h7;omega
   ·obtain⟨a',q',h3,h4⟩:=PR.then_ok h2;have:=(d6 h3).2.2;have:=iB _ _ _ _ h4;omega
theorem nz: ∀(f:Nat),
  (∀l x r,dE f l= .ok (x,r)->r.length<l.length)/\(∀acc l x r,eC f acc l= .ok (x,r)->r.length<l.length)/\
  (∀l x r,nG f l= .ok (x,r)->r.length<l.length)/\(∀l x r,dD f l= .ok (x,r)->r.length<l.length)
 |0=>by
  refine⟨?_,?_,?_,?_⟩;all_goals (intros;rename_i h;simp[dE,eC,nG,dD]at h)
 |f+1=>by
  obtain⟨iB,iC,iI,iS⟩:=nz f;obtain⟨iE,_,_,iN,_,_⟩:=i6 f;refine⟨?_,?_,?_,?_⟩
  ·intro l x r h;rw[dE]at h;obtain⟨a,q,h1,h2⟩:=PR.then_ok h;have:=(d6 h1).2.2;have:=iC _ _ _ _ h2;omega
  ·intro acc l x r h;rw[eC]at h;split at h
   ·rename_i hk;have:=bx hk;have h7:=(bB h).2;subst h7;omega
   ·obtain⟨a,q,h1,h2⟩:=PR.then_ok h;have:=iS _ _ _ h1;have:=iC _ _ _ _ h2;omega
  ·intro l x r h;rw[nG]at h;obtain⟨a,q,h1,h2⟩:=PR.then_ok h;obtain⟨a',q',h3,h4⟩:=PR.then_ok h2;have:=iE _ _ _ _ h1;have:=iB _ _ _ h3;split at h4
   ·rename_i hk;have:=bx hk;split at h4
    ·rename_i hk2;have:=bx hk2;obtain⟨a2,q2,h5,h6⟩:=PR.then_ok h4;have:=iI _ _ _ h5;have h7:=(bB h6).2;subst h7;omega
    ·obtain⟨a2,q2,h5,h6⟩:=PR.then_ok h4;have:=iB _ _ _ h5;have h7:=(bB h6).2;subst h7;omega
   ·have h7:=(bB h4).2;subst h7;omega
  ·intro l x r h;rw[dD]at h;split at h
   ·rename_i hk;have:=bx hk;have:=iI _ _ _ h;omega
   split at h
   ·rename_i hk;have:=bx hk;obtain⟨a,q,h1,h2⟩:=PR.then_ok h;obtain⟨a',q',h3,h4⟩:=PR.then_ok h2;have:=iE _ _ _ _ h1;have:=iB _ _ _ h3;have h7:=(bB h4).2;subst h7;omega
   split at h
   ·rename_i hk;have:=bx hk;obtain⟨a,q,h1,h2⟩:=PR.then_ok h;obtain⟨a',q',h3,h4⟩:=PR.then_ok h2;obtain⟨a2,q2,h5,h6⟩:=PR.then_ok h4;have:=(kC h1).2.2.2;have:=(d6 h5).2.2;have h7:=(bB h6).2;subst h7;split at h3
    ·rename_i hk2;have:=bx hk2;obtain⟨a3,q3,h8,h9⟩:=PR.then_ok h3;have:=iE _ _ _ _ h8;have h10:=(bB h9).2;subst h10;omega
    ·have h10:=(bB h3).2;subst h10;omega
   split at h
   ·rename_i hk;have:=bx hk;obtain⟨a',q',h3,h4⟩:=PR.then_ok h;obtain⟨a2,q2,h5,h6⟩:=PR.then_ok h4;have:=(d6 h5).2.2;have h7:=(bB h6).2;subst h7;split at h3
    ·have h10:=(bB h3).2;subst h10;omega
    ·obtain⟨a3,q3,h8,h9⟩:=PR.then_ok h3;have:=iE _ _ _ _ h8;have h10:=(bB h9).2;subst h10;omega
   ·obtain⟨a,q,h1,h2⟩:=PR.then_ok h;obtain⟨a',q',h3,h4⟩:=PR.then_ok h2;obtain⟨a2,q2,h5,h6⟩:=PR.then_ok h4;have:=(kC h1).2.2.2;have:=(d6 h5).2.2;have h7:=(bB h6).2;subst h7;split at h3
    ·obtain⟨a3,q3,h8,h9⟩:=PR.then_ok h3;have:=iN _ _ _ _ h8;have h10:=(bB h9).2;subst h10;omega
    ·split at h3
     ·rename_i hk;have:=bx hk;obtain⟨b1,r1,g1,g2⟩:=PR.then_ok h3;obtain⟨b2,r2,g3,g4⟩:=PR.then_ok g2;obtain⟨b3,r3,g5,g6⟩:=PR.then_ok g4;obtain⟨b4,r4,g7,g8⟩:=PR.then_ok g6;have:=iE _ _ _ _ g1;have:=(d6 g3).2.2;have:=(d6 g5).2.2;have:=iE _ _ _ _ g7;have h10:=(bB g8).2;subst h10;omega
     ·obtain⟨b1,r1,g1,g2⟩:=PR.then_ok h3;obtain⟨b2,r2,g3,g4⟩:=PR.then_ok g2;have:=(d6 g1).2.2;have:=iE _ _ _ _ g3;have h10:=(bB g4).2;subst h10;omega
end
section
def pT:List (List UInt8×Int×List UInt8):=
 [([101,120,105,116],0,[105]),
 ([107,105,108,108],4,[105]),
 ([103,114,111,119],6,[105]),
 ([99,108,111,115,101],8,[105]),
 ([115,101,114,118,101],16,[105]),
 ([100,105,97,108],17,[105]),
 ([115,108,101,101,112],19,[105]),
 ([102,111,114,107],1,[]),
 ([119,97,105,116],3,[]),
 ([115,101,108,102],5,[]),
 ([112,105,112,101],11,[]),
 ([116,105,109,101],18,[]),
 ([100,117,112],12,[105,105]),
 ([101,120,101,99],2,[115]),
 ([117,110,108,105,110,107],13,[115]),
 ([109,107,100,105,114],14,[115]),
 ([111,112,101,110],7,[115,105]),
 ([114,101,97,100],9,[105,97,105]),
 ([119,114,105,116,101],10,[105,98,105])]
abbrev Bi:=Option (Int×List UInt8)
def ew (s:List UInt8):Bi:=(pT.find? (fun x=>x.1==s)).map (·.2)
def zJ (s:List UInt8):Bool:=(ew s).isSome
def kh (b:Bi) (i:Nat):Bool:=match b with
 |none=>true
 |some (_,a)=>decide (a.length<=i)||a.getD i 0==105
def tu (op:List UInt8):Bool:=op==[38,38]||op==[124,124]
mutual
def dF:Ex->Nat
 | .mk k op nm tx v a=>if k=4\/k=6 then gH 1 a else if k=7 then fj (tu op) 0 1 a else if k=5 then fh (ew nm) 0 0 1 a else 1
def gH:Nat->List Ex->Nat
 |m,[]=>m
 |m,y::r=>gH (max m (dF y)) r
def fj (lg:Bool):Nat->Nat->List Ex->Nat
 |i,m,[]=>m
 |i,m,y::r=>fj lg (i+1) (max m (if 0<i/\lg=false then dF y+1 else dF y)) r
def fh (b:Bi):Nat->Nat->Nat->List Ex->Nat
 |i,fr,m,[]=>m
 |i,fr,m,y::r=>if kh b i=true then fh b (i+1) (fr+1) (max m (fr+dF y)) r else fh b (i+1) fr m r
end
mutual
def tE:St->Nat
 | .mk k _ _ b e=>(if k=1 then 1 else 0)+(fu b+fu e)
def fu:List St->Nat
 | []=>0
 |s::r=>tE s+fu r
end
def gu (f:Fc):Nat:=4*(8+f.ps.length+fu f.body)
mutual
def Ea:St->Bool
 | .mk _ _ x b e=>x.any (fun y=>decide (7<dF y))||(lL b||lL e)
def lL:List St->Bool
 | []=>false
 |s::r=>Ea s||lL r
end
abbrev Er:=List UInt8×Int
structure Gl where
 arr:List UInt8->Option Int
 int:List UInt8->Bool
 fn:List UInt8->Option Nat
abbrev Ls:=List UInt8->Bool
def ff:Ls:=fun _=>false
def Ls.add (l:Ls) (s:List UInt8):Ls:=fun x=>x==s||l x
def Gl.known (g:Gl) (lo:Ls) (s:List UInt8):Bool:=(g.arr s).isSome||((g.fn s).isSome||(g.int s||(lo s||zJ s)))
abbrev CR:=Except Er Unit
def CR.then {α:Type} (x:Except Er α) {β:Type} (k:α->Except Er β):Except Er β:=match x with
 | .error e=> .error e
 | .ok a=>k a
theorem fL {α β:Type} (e:Er) (k:α->Except Er β):CR.then (.error e) k= .error e:=rfl
theorem em {α β:Type} (a:α) (k:α->Except Er β):CR.then (.ok a) k=k a:=rfl
def oE (g:Gl) (lo:Ls) (s:List UInt8):CR:=if(lo s||g.int s)=true then .ok ()else if g.known lo s=true then .error (s,16)else .error (s,15)
def kK (g:Gl) (lo:Ls) (s:List UInt8):CR:=if(g.arr s).isSome=true then .ok ()else if g.known lo s=true then .error (s,16)else .error (s,15)
def ph (c:UInt8) (k:Int):Bool:=(c==115&&k !=2)||((c==97&&k !=3)||(c==98&&(k !=3&&k !=2)))
def yC (b:Bi) (i:Nat):UInt8:=match b with
 |none=>0
 |some (_,a)=>a.getD i 0
def uJ (g:Gl) (nm:List UInt8):Option Nat:=match ew nm with
 |some (_,a)=>some a.length
 |none=>g.fn nm
mutual
def nc (g:Gl) (lo:Ls):Ex->CR
 | .mk k op nm tx v a=>
  if k=3 then oE g lo nm
  else if k=4 then CR.then (kK g lo nm) fun _=>na g lo a
  else if k=2 then .error ([],16)
  else if k=5 then match uJ g nm with
   |none=> .error (nm,15)
   |some n=>if n=a.length then nt g lo nm (ew nm) 0 a else .error (nm,16)
  else if k=6\/k=7 then na g lo a
  else .ok ()
def na (g:Gl) (lo:Ls):List Ex->CR
 | []=> .ok ()
 |y::r=>CR.then (nc g lo y) fun _=>na g lo r
def nt (g:Gl) (lo:Ls) (nm:List UInt8) (b:Bi):Nat->List Ex->CR
 | _,[]=> .ok ()
 |i,y::r=>CR.then (if kh b i=true then nc g lo y else if ph (yC b i) y.k=true then .error (nm,16)else if y.k=3 then kK g lo y.nm else .ok ()) fun _=>nt g lo nm b (i+1) r
end
abbrev SR:=Except Er Ls
mutual
def qG (g:Gl):Ls->St->SR
 |lo, .mk k nm ex bd el=>
  CR.then (if k=2 then oE g lo nm else if k=3 then kK g lo nm else .ok ()) fun _=>
  CR.then (na g lo ex) fun _=>
  CR.then (if k=1 then(if g.known lo nm=true then .error (nm,9)else .ok (lo.add nm))else .ok lo) fun lo1=>
  CR.then (fw g lo1 bd) fun lo2=>fw g lo2 el
def fw (g:Gl):Ls->List St->SR
 |lo,[]=> .ok lo
 |lo,s::r=>CR.then (qG g lo s) fun lo1=>fw g lo1 r
end
def Gl.addV (g:Gl) (v:Vr):Gl:=if 0<v.sz then{g with arr:=fun x=>if x=v.nm then some v.sz else g.arr x}else{g with int:=fun x=>x==v.nm||g.int x}
def Gl.addF (g:Gl) (f:Fc):Gl:={g with fn:=fun x=>if x=f.nm then some f.ps.length else g.fn x}
def mD:Gl:=⟨fun _=>none,fun _=>false,fun _=>none⟩
def bH:List UInt8:=[109,97,105,110]
def jK:Gl->List Vr->Except Er Gl
 |g,[]=> .ok g
 |g,v::r=>if g.known ff v.nm=true then .error (v.nm,9)else jK (g.addV v) r
def il:Gl->List Fc->Except Er Gl
 |g,[]=> .ok g
 |g,f::r=>if g.known ff f.nm=true then .error (f.nm,9)else il (g.addF f) r
def lO (p:Pg):Except Er Gl:=
 CR.then (jK mD p.vs) fun g=>CR.then (il g p.fs) fun g=>match g.fn bH with
  |none=> .error (bH,8)
  |some n=>if 0<n then .error (bH,16)else .ok g
def mN (g:Gl):Ls->List (List UInt8)->SR
 |lo,[]=> .ok lo
 |lo,p::r=>if g.known lo p=true then .error (p,9)else mN g (lo.add p) r
def jy (g:Gl):List Fc->CR
 | []=> .ok ()
 |f::r=>CR.then (mN g ff f.ps) fun lo=>CR.then (fw g lo f.body) fun _=>jy g r
def fP:List Fc->CR
 | []=> .ok ()
 |f::r=>if 20<f.ps.length+fu f.body\/lL f.body=true then .error (f.nm,6)else fP r
def gk (p:Pg):CR:=CR.then (lO p) fun g=>CR.then (jy g p.fs) fun _=>fP p.fs
end
section
def lK (v:Int):Int:=IntKind.wrap .i32 v
def my (b:Bool):Int:=if b=true then 1 else 0
structure Ms where
 ints:List UInt8->Int
 arrs:List UInt8->List UInt8
 left:Nat
 stk:Nat
 used:Nat
structure Oc where
 kind:Int
 call:Int
 a0:Int
 a1:Int
 a2:Int
 data:List UInt8
 used:Nat
abbrev ER (α:Type):=Except Oc (α×Ms)
def ER.then {α β:Type} (x:ER α) (k:α->Ms->ER β):ER β:=match x with
 | .error e=> .error e
 | .ok (a,s)=>k a s
theorem et {α β:Type} (e:Oc) (k:α->Ms->ER β):ER.then (.error e) k= .error e:=rfl
theorem fq {α β:Type} (a:α) (s:Ms) (k:α->Ms->ER β):ER.then (.ok (a,s)) k=k a s:=rfl
def Ms.fails (s:Ms):Oc:=⟨2,0,0,0,0,[],s.used⟩
def Ms.long (s:Ms):Oc:=⟨3,0,0,0,0,[],s.used⟩
abbrev Rs:=List (Int×List UInt8)
def eQ (R:Rs) (s:Ms) (call a0 a1 a2:Int) (data:List UInt8):ER (Int×List UInt8):=match R[s.used]? with
 |none=> .error ⟨1,call,a0,a1,a2,data,s.used⟩
 |some r=> .ok (r,{s with used:=s.used+1})
abbrev Lo:=List UInt8->Option Int
def Lo.upd (l:Lo) (s:List UInt8) (v:Int):Lo:=fun x=>if x=s then some v else l x
def Ms.setI (s:Ms) (nm:List UInt8) (v:Int):Ms:={s with ints:=fun x=>if x=nm then v else s.ints x}
def Ms.setA (s:Ms) (nm:List UInt8) (a:List UInt8):Ms:={s with arrs:=fun x=>if x=nm then a else s.arrs x}
inductive Dt where
 |no
 |txt (t:List UInt8)
 |arr (nm:List UInt8)
def Dt.rd (s:Ms):Dt->List UInt8
 | .no=>[]
 | .txt t=>t
 | .arr nm=>s.arrs nm
def Dt.put (s:Ms) (n:Nat) (r:List UInt8):Dt->Ms
 | .no=>s
 | .txt _=>s
 | .arr nm=>s.setA nm (r.take n++(s.arrs nm).drop (min n r.length))
def dG (E:Ms->Ex->ER Int):List UInt8->List Ex->List Int->Int->Dt->Ms->ER (List Int×Int×Dt)
 |c::ls,y::ys,vs,la,d,s=>if c=105 then(E s y).then fun v s=>dG E ls ys (vs++[v]) v d s else if y.k=2 then dG E ls ys vs la (.txt y.tx) s else dG E ls ys vs la (.arr y.nm) s
 | _,_,vs,la,d,s=> .ok ((vs,la,d),s)
def mP (R:Rs) (call:Int) (vs:List Int) (la:Int) (d:Dt) (s:Ms):ER Int:=
 if call≠9/\call≠10 then(eQ R s call (vs.getD 0 0) (vs.getD 1 0) (vs.getD 2 0) (d.rd s)).then fun r s=> .ok (lK r.1,s)
 else if la<0\/(d.rd s).length<la\/128<la then .error s.fails
 else if call=10 then(eQ R s call (vs.getD 0 0) 0 0 ((d.rd s).take la.toNat)).then fun r s=> .ok (lK r.1,s)
 else(eQ R s call (vs.getD 0 0) (vs.getD 1 0) (vs.getD 2 0) []).then fun r s=> .ok (lK r.1,d.put s la.toNat r.2)
def mh (R:Rs) (E:Ms->Ex->ER Int) (s:Ms) (call:Int) (ls:List UInt8) (a:List Ex):ER Int:=(dG E ls a [] 0 .no s).then fun p s=>mP R call p.1 p.2.1 p.2.2 s
def qS (E:Ms->Ex->ER Int):List Int->Ms->List Ex->ER (List Int)
 |vs,s,[]=> .ok (vs,s)
 |vs,s,y::r=>(E s y).then fun v s=>qS E (vs++[v]) s r
def sw:Lo->List (List UInt8)->List Int->Lo
 |l,p::ps,v::vs=>sw (l.upd p v) ps vs
 |l,_,_=>l
mutual
def wm:Lo->St->Lo
 |l, .mk k nm _ b e=>gx (gx (if k=1 then l.upd nm 0 else l) b) e
def gx:Lo->List St->Lo
 |l,[]=>l
 |l,s::r=>gx (wm l s) r
end
abbrev kN:=ER (Option Int×Lo)
def ln (S:Ms->Lo->St->kN):Ms->Lo->List St->kN
 |s,l,[]=> .ok ((none,l),s)
 |s,l,x::r=>(S s l x).then fun p s=>match p.1 with
  |some v=> .ok ((some v,p.2),s)
  |none=>ln S s p.2 r
def eK (S:Ms->Lo->St->kN) (f:Fc) (vs:List Int) (s:Ms):ER Int:=
 if 1024<s.stk+gu f then .error s.fails
 else(ln S {s with stk:=s.stk+gu f} (gx (sw (fun _=>none) f.ps vs) f.body) f.body).then fun p s=> .ok (p.1.getD 0,{s with stk:=s.stk-gu f})
def iD (op:List UInt8) (a b:Int) (s:Ms):ER Int:=
 if op=[43]then .ok (lK (a+b),s)else if op=[45]then .ok (lK (a-b),s)else if op=[42]then .ok (lK (a*b),s)
 else if op=[47]\/op=[37]then(if b=0 then .error s.fails else if op=[47]then .ok (lK (a.tdiv b),s)else .ok (lK (a.tmod b),s))
 else if op=[61,61]then .ok (my (a==b),s)else if op=[33,61]then .ok (my (a !=b),s)else if op=[60]then .ok (my (decide (a<b)),s)
 else if op=[60,61]then .ok (my (decide (a<=b)),s)else if op=[62]then .ok (my (decide (b<a)),s)else .ok (my (decide (b<=a)),s)
structure Cx where
 fn:List UInt8->Fc
 R:Rs
def np:Ex:= .mk 0 [] [] [] 0 []
def Ms.step (s:Ms):Ms:={s with left:=s.left-1}
def ow (op:List UInt8):Bool:=op==[38,38]
def tA (op:List UInt8):Bool:=op==[124,124]
mutual
def ev (C:Cx):Nat->Ms->Lo->Ex->ER Int
 |0,s,_,_=> .error s.long
 |n+1,s,l,x=>
  if s.left=0 then .error s.long
  else if x.k=1 then .ok (lK x.v,s.step)
  else if x.k=3 then .ok ((l x.nm).getD (s.ints x.nm),s.step)
  else if x.k=4 then(ev C n s.step l (x.args.getD 0 np)).then fun i s=>if 0<=i/\i<(s.arrs x.nm).length then .ok ((((s.arrs x.nm).getD i.toNat 0).toNat:Int),s)else .error s.fails
  else if x.k=5 then(match ew x.nm with
   |some (c,ls)=>mh C.R (fun s y=>ev C n s l y) s.step c ls x.args
   |none=>(qS (fun s y=>ev C n s l y) [] s.step x.args).then fun vs s=>eK (fun s l y=>st C n s l y) (C.fn x.nm) vs s)
  else if x.k=6 then(ev C n s.step l (x.args.getD 0 np)).then fun a s=>if x.op=[33]then .ok (my (a==0),s)else .ok (lK (-a),s)
  else(ev C n s.step l (x.args.getD 0 np)).then fun a s=>
   if ow x.op=true/\a=0 then .ok (0,s)else if tA x.op=true/\a≠0 then .ok (1,s)
   else(ev C n s l (x.args.getD 1 np)).then fun b s=>if(ow x.op||tA x.op)=true then .ok (my (b !=0),s)else iD x.op a b s
def st (C:Cx):Nat->Ms->Lo->St->kN
 |0,s,_,_=> .error s.long
 |n+1,s,l,x=>
  if s.left=0 then .error s.long
  else if x.k=5 then wh C n s.step l (x.ex.getD 0 np) x.body
  else(if x.ex=[]then .ok (0,s.step)else ev C n s.step l (x.ex.getD 0 np):ER Int).then fun v s=>
   if x.k=1 then .ok ((none,l.upd x.nm v),s)
   else if x.k=2 then(if(l x.nm).isSome=true then .ok ((none,l.upd x.nm v),s)else .ok ((none,l),s.setI x.nm v))
   else if x.k=3 then(ev C n s l (x.ex.getD 1 np)).then fun u s=>if 0<=v/\v<(s.arrs x.nm).length then .ok ((none,l),s.setA x.nm ((s.arrs x.nm).set v.toNat (UInt8.ofNat (u%256).toNat)))else .error s.fails
   else if x.k=4 then ln (fun s l y=>st C n s l y) s l (if v≠0 then x.body else x.els)
   else if x.k=6 then .ok ((some v,l),s)
   else .ok ((none,l),s)
def wh (C:Cx):Nat->Ms->Lo->Ex->List St->kN
 |0,s,_,_,_=> .error s.long
 |n+1,s,l,c,b=>(ev C n s l c).then fun v s=>if v=0 then .ok ((none,l),s)else(ln (fun s l y=>st C n s l y) s l b).then fun p s=>match p.1 with
  |some v=> .ok ((some v,p.2),s)
  |none=>wh C n s p.2 c b
end
section
variable {C:Cx} {n:Nat} {s:Ms} {l:Lo} {op nm tx:List UInt8} {v:Int} {a:List Ex} {e:List Ex} {b c:List St}
theorem BY (h:s.left≠0):ev C (n+1) s l (.mk 1 op nm tx v a)= .ok (lK v,s.step):=by rw[ev,if_neg h];rfl
theorem DU (h:s.left≠0):ev C (n+1) s l (.mk 3 op nm tx v a)= .ok ((l nm).getD (s.ints nm),s.step):=by rw[ev,if_neg h];rfl
theorem DT (h:s.left≠0):ev C (n+1) s l (.mk 4 op nm tx v a)=(ev C n s.step l (a.getD 0 np)).then fun i s=>if 0<=i/\i<(s.arrs nm).length then .ok ((((s.arrs nm).getD i.toNat 0).toNat:Int),s)else .error s.fails:=by rw[ev,if_neg h];rfl
theorem DS (h:s.left≠0):ev C (n+1) s l (.mk 5 op nm tx v a)=match ew nm with
  |some (c,ls)=>mh C.R (fun s y=>ev C n s l y) s.step c ls a
  |none=>(qS (fun s y=>ev C n s l y) [] s.step a).then fun vs s=>eK (fun s l y=>st C n s l y) (C.fn nm) vs s:=by rw[ev,if_neg h];rfl
theorem DR (h:s.left≠0):ev C (n+1) s l (.mk 6 op nm tx v a)=(ev C n s.step l (a.getD 0 np)).then fun a s=>if op=[33]then .ok (my (a==0),s)else .ok (lK (-a),s):=by rw[ev,if_neg h];rfl
theorem DP (h:s.left≠0):ev C (n+1) s l (.mk 7 op nm tx v a)=(ev C n s.step l (a.getD 0 np)).then fun x s=>
   if ow op=true/\x=0 then .ok (0,s)else if tA op=true/\x≠0 then .ok (1,s)
   else(ev C n s l (a.getD 1 np)).then fun b s=>if(ow op||tA op)=true then .ok (my (b !=0),s)else iD op x b s:=by rw[ev,if_neg h];rfl
def val (C:Cx) (n:Nat) (s:Ms) (l:Lo) (e:List Ex):ER Int:=if e=[]then .ok (0,s)else ev C n s l (e.getD 0 np)
theorem Dx (h:s.left≠0):st C (n+1) s l (.mk 1 nm e b c)=(val C n s.step l e).then fun v s=> .ok ((none,l.upd nm v),s):=by rw[st,if_neg h];rfl
theorem Dw (h:s.left≠0):st C (n+1) s l (.mk 2 nm e b c)=(val C n s.step l e).then fun v s=>if(l nm).isSome=true then .ok ((none,l.upd nm v),s)else .ok ((none,l),s.setI nm v):=by rw[st,if_neg h];rfl
theorem Dv (h:s.left≠0):st C (n+1) s l (.mk 3 nm e b c)=(val C n s.step l e).then fun v s=>(ev C n s l (e.getD 1 np)).then fun u s=>if 0<=v/\v<(s.arrs nm).length then .ok ((none,l),s.setA nm ((s.arrs nm).set v.toNat (UInt8.ofNat (u%256).toNat)))else .error s.fails:=by rw[st,if_neg h];rfl
theorem Du (h:s.left≠0):st C (n+1) s l (.mk 4 nm e b c)=(val C n s.step l e).then fun v s=>ln (fun s l y=>st C n s l y) s l (if v≠0 then b else c):=by rw[st,if_neg h];rfl
theorem Ds (h:s.left≠0):st C (n+1) s l (.mk 5 nm e b c)=wh C n s.step l (e.getD 0 np) b:=by rw[st,if_neg h];rfl
theorem xw (h:s.left≠0):st C (n+1) s l (.mk 6 nm e b c)=(val C n s.step l e).then fun v s=> .ok ((some v,l),s):=by rw[st,if_neg h];rfl
theorem Dr (h:s.left≠0):st C (n+1) s l (.mk 7 nm e b c)=(val C n s.step l e).then fun v s=> .ok ((none,l),s):=by rw[st,if_neg h];rfl
end
def gA:List Vr->List UInt8->List UInt8
 | [],_=>[]
 |v::r,s=>if s=v.nm/\0<v.sz then List.replicate v.sz.toNat 0 else gA r s
def gL:List Fc->List UInt8->Fc
 | [],_=>⟨[],[],[]⟩
 |f::r,s=>if s=f.nm then f else gL r s
def cx (p:Pg) (R:Rs):Cx:=⟨gL p.fs,R⟩
def AQ (p:Pg) (n:Nat):Ms:=⟨fun _=>0,gA p.vs,n,0,0⟩
def xK (p:Pg) (R:Rs) (k n:Nat):Oc:=
 match ((eK (fun s l y=>st (cx p R) k s l y) (gL p.fs bH) [] (AQ p n)).then fun v s=>(eQ R s 0 (v%256) 0 0 []).then fun _ s=> .error s.long:ER Unit)with
 | .error o=>o
 | .ok (_,s)=>s.long
def ic (p:Pg) (R:Rs) (n:Nat):Oc:=xK p R (2*n) n
def aQ:=@PR.then_ok
end
end Go.Proofs.YtddomeddabfinaaGreatDoor
