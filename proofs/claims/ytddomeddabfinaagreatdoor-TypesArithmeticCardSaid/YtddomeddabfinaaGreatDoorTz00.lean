/-
  Parts of the proof: LexP ParP TyP TyR.
-/
import Derived.Test.YtddomeddabfinaaGreatDoorProg
set_option maxRecDepth 100000
set_option maxHeartbeats 8000000
set_option linter.unusedVariables false
set_option linter.unusedSimpArgs false
set_option linter.defProp false
set_option linter.unusedSectionVars false
namespace Go.Proofs.YtddomeddabfinaaGreatDoor
def Z:=@Option.some.inj
def aa:=@List.length_append
def ac:=@List.drop_succ_cons
def ae:=@List.length_cons
def ag:=@List.length_nil
def ah:=@Nat.le_refl
def ak:=@Bool.and_eq_true
def ap:=@List.drop_zero
def au:=@List.getElem_mem
def aw:=@Array.getD_eq_getD_getElem?
def ax:=@And.intro
def ay:=@List.drop_eq_getElem_cons
def aA:=@Nat.lt_of_lt_of_le
def aD:=@Nat.zero_add
def aE:=@List.getElem_cons_zero
def aF:=@List.drop_of_length_le
def aG:=@Nat.zero_le
def aH:=@Nat.le_of_lt
def aI:=@List.getElem?_eq_getElem
def aJ:=@List.eq_nil_of_length_eq_zero
def aM:=@List.drop_nil
def aN:=@Bool.false_eq_true
def aP:=@List.append_assoc
def aQ:=@List.getElem_cons_succ
def aZ:=@Nat.le_trans
def a8:=@Nat.zero_mul
def be:=@List.setIfInBounds_toArray
def bh:=@Array.getElem?_setIfInBounds
def bm:=@List.length_drop
def bp:=@List.take_succ_eq_append_getElem
def br:=@Nat.add_zero
def bx:=@Option.getD_some
def bz:=@Nat.ne_of_gt
def bA:=@Array.getElem?_eq_getElem
def bB:=@List.getD_eq_getElem?_getD
def bD:=@List.take_length
def bE:=@List.length_take
def bF:=@Bool.or_eq_true
def bO:=@List.flatMap_cons
def bP:=@List.set_cons_zero
def bT:=@List.mem_of_find?_eq_some
def bU:=@List.take_of_length_le
def bX:=@List.set_cons_succ
def bY:=@List.map_cons
def b_:=@List.all_eq_true
def cf:=@Nat.one_mul
def cw:=@List.take_append_drop
def cD:=@Int.eq_ofNat_of_zero_le
def cF:=@Option.isSome_some
def cG:=@List.mem_singleton
def cH:=@List.getElem?_take
def cI:=@List.getElem?_append_right
def cO:=@List.cons.injEq
def cQ:=@Option.isSome_none
def cV:=@Int.toNat_natCast
def c_:=@List.getElem?_append_left
def dg:=@Array.getElem?_replicate
def dh:=@List.drop_drop
def dw:=@Value.slice.injEq
def dF:=@Array.getElem?_eq_none
def dL:=@Option.getD_none
def dM:=@List.map_toArray
def dQ:=@List.mem_range
def dR:=@Int.tmod_eq_emod_of_nonneg
def dS:=@Array.any_eq_true'
def dZ:=@List.append_nil
def d5:=@List.map_nil
def d6:=@Array.all_eq_true_iff_forall_mem
def eb:=@Nat.add_assoc
def em:=@Option.bind_some
def eo:=@Nat.lt_succ_self
def ep:=@List.not_mem_nil
def eq:=@Array.mk.injEq
def eD:=@Nat.le_succ
def eG:=@Option.map_eq_some_iff
def eH:=@Nat.ne_of_lt
def eM:=@List.sum_cons
def ff:=@Ne.symm
def fh:=@Nat.lt_or_ge
def fw:=@Nat.mul_le_mul_left
def fx:=@List.flatMap_append
def fC:=@List.mem_cons
def fG:=@Option.map_some
def fI:=@Option.any_eq_true
def fJ:=@List.mem_cons_self
def fK:=@List.contains_cons
def fN:=@List.getElem?_cons_zero
def fO:=@List.getElem?_cons_succ
def fS:=@List.getElem?_map
def gq:=@Bool.and_true
def gu:=@List.mem_cons_of_mem
def gD:=@List.map_append
def gJ:=@List.replicate_succ
def gK:=@List.length_flatMap
def gU:=@UInt8.toNat_ofNat'
def io:=@UInt8.ofNat_toNat
def ip:=@Option.some.injEq
def iq:=@List.getElem_take
def ir:=@Array.toList_push
def iM:=@List.any_cons
def iO:=@Bool.false_or
def iV:=@List.getElem_set
def iW:=@List.cons_append
def ji:=@List.range_succ_eq_map
def jj:=@List.head?_eq_getElem?
def jk:=@Bool.or_comm
def jl:=@Array.ext'
def jB:=@List.nil_append
def jC:=@List.length_map
def jD:=@List.find?_cons
def jE:=@List.all_append
def jF:=@Bool.eq_iff_iff
def jP:=@List.length_replicate
def jQ:=@List.getElem?_toArray
def jR:=@List.getElem?_eq_none
def jS:=@List.countP_singleton
def j3:=@Nat.mul_one
def kT:=@ByteArray.ext
def kU:=@Bool.or_false
def kV:=@Bool.or_assoc
open Go.Proofs.Tryz
section
def kN (c:UInt8):Bool:=decide (97<=(c|||32).toNat/\(c|||32).toNat<=122)
def eJ (c:UInt8):Bool:=decide (48<=c.toNat/\c.toNat<=57)
def eT (c:UInt8):Bool:=kN c||eJ c||c==95
def A7 (c:UInt8):Bool:=c==32||c==9||c==10||c==13
def Ed:List (List UInt8):=[[118,97,114],[102,117,110,99],[105,102],[101,108,115,101],[119,104,105,108,101],[114,101,116,117,114,110]]
def vF (l:List UInt8):Bool:=Ed.contains l
def bZ (p:UInt8->Bool):List UInt8->Nat
 | []=>0
 |c::l=>if p c then bZ p l+1 else 0
theorem gY (p:UInt8->Bool): ∀l,bZ p l<=l.length
 | []=>ah _
 |c::l=>by
  simp only[bZ];split
  ·have:=gY p l;simp;omega
  ·simp
theorem nO (p:UInt8->Bool): ∀(l:List UInt8) (j:Nat),j<=bZ p l->bZ p l=j+bZ p (l.drop j)
 |l,0,_=>by simp
 | [],j+1,h=>by simp[bZ]at h
 |c::l,j+1,h=>by
  simp only[bZ]at h⊢;split at h
  ·rename_i hc;rw[if_pos hc,ac,nO p l j (by omega)];omega
  ·omega
theorem sw (p:UInt8->Bool) {l:List UInt8} {j:Nat} (h:j<l.length):bZ p (l.drop j)=if p l[j]then bZ p (l.drop (j+1))+1 else 0:=by
 rw[ay h];rfl
def cK:Bool->List UInt8->Nat
 | _,[]=>0
 |false,c::l=>if A7 c then cK false l+1 else if c=47/\l.head? =some 47 then cK true l+1 else 0
 |true,c::l=>if c=10 then cK false l+1 else cK true l+1
theorem j_: ∀(b:Bool) (l:List UInt8),cK b l<=l.length
 |b,[]=>by cases b<;>simp[cK]
 |false,c::l=>by
  simp only[cK];split
  ·have:=j_ false l;simp;omega
  ·split
   ·have:=j_ true l;simp;omega
   ·simp
 |true,c::l=>by
  simp only[cK];split
  ·have:=j_ false l;simp;omega
  ·have:=j_ true l;simp;omega
def e_:List UInt8->Nat:=bZ (fun c=>c !=10)
theorem nP: ∀l,cK true l=e_ l+cK false (l.drop (e_ l))
 | []=>rfl
 |c::l=>by
  simp only[cK,e_,bZ];by_cases hc:c=10
  ·subst hc;have hb:((10:UInt8) !=10)=false:=by decide
   have hw:A7 10=true:=by decide
   rw[if_pos rfl,if_neg (by rw[hb];simp)];simp[cK,hw]
  ·have hb:(c !=10)=true:=by simp[hc]
   rw[if_neg hc,if_pos hb,nP l,ac];simp only[e_];omega
theorem oO {l:List UInt8} (h: ∃r,l=47::47::r):cK false l=e_ l+cK false (l.drop (e_ l)):=by
 obtain⟨r,rfl⟩:=h;rw[<-nP];have h1:A7 47=false:=by decide
 have h2: ¬(47:UInt8)=10:=by decide
 simp[cK,h1,h2]
def kj (c:UInt8):Option UInt8:=if c=110 then some 10 else if c=116 then some 9 else if c=48 then some 0 else if c=92 then some 92 else if c=39 then some 39 else if c=34 then some 34 else none
def cj:List UInt8->UInt8×Nat
 | []=>(0,0)
 |c::r=>if c.toNat<32\/126<c.toNat then(0,0)else if c≠92 then(c,1)else match r with
  | []=>(0,0)
  |d::_=>match kj d with
   |some v=>(v,2)
   |none=>(0,0)
theorem kn (l:List UInt8):(cj l).2<=l.length/\(cj l).2<=2:=by
 match l with
 | []=>exact⟨ah _,by decide⟩
 | [c]=>
  simp only[cj];split
  ·exact⟨by simp,by simp⟩
  ·split
   ·exact⟨by simp,by simp⟩
   ·exact⟨by simp,by simp⟩
 |c::d::r=>
  simp only[cj];split
  ·exact⟨by simp,by simp⟩
  ·split
   ·exact⟨by simp,by simp⟩
   ·split<;>exact⟨by simp,by simp⟩
def m_:Nat->List UInt8->Option (List UInt8×Nat)
 |0,_=>none
 |f+1,m=>match m with
  | []=>none
  |c::r=>if c=34 then some ([],1)else if(cj (c::r)).2=0 then none else(m_ f ((c::r).drop (cj (c::r)).2)).map fun x=>((cj (c::r)).1::x.1,(cj (c::r)).2+x.2)
theorem pp: ∀(f g:Nat) (m:List UInt8),m.length<=f->f<=g->m_ g m=m_ f m
 |0,g,m,h,_=>by
  have:m=[]:=aJ (by omega);subst this
  cases g<;>rfl
 |f+1,0,m,h,hg=>by omega
 |f+1,g+1,m,h,hg=>by
  cases m with
  |nil=>rfl
  |cons c r=>
   simp only[m_];split
   ·rfl
   ·split
    ·rfl
    ·rename_i h0;rw[pp f g _ (by have:=kn (c::r);simp only[bm,ae]at h⊢;omega) (by omega)]
def jw (m:List UInt8):Option (List UInt8×Nat):=m_ m.length m
theorem xL (r:List UInt8):jw (34::r)=some ([],1):=by simp[jw,m_]
theorem xM {c:UInt8} {r:List UInt8} (h:c≠34) (h0:(cj (c::r)).2=0):jw (c::r)=none:=by
 simp only[jw,ae,m_];rw[if_neg h,if_pos h0]
theorem vE {c:UInt8} {r:List UInt8} (h:c≠34) (h0:(cj (c::r)).2≠0):jw (c::r)=(jw ((c::r).drop (cj (c::r)).2)).map fun x=>((cj (c::r)).1::x.1,(cj (c::r)).2+x.2):=by
 have hl:=kn (c::r);simp only[jw,ae,m_];rw[if_neg h,if_neg h0,pp _ r.length _ (ah _) (by simp only[bm,ae];omega)]
def l6 (l:List UInt8):Nat:=l.foldl (fun v c=>v*10+(c.toNat-48)) 0
abbrev rS:=Except Int ((Int×List UInt8×Int)×Nat)
def jI (l:List UInt8):rS:=if vF (l.take (bZ eT l))then .ok ((2,l.take (bZ eT l),0),bZ eT l)else if 14<bZ eT l then .error 6 else .ok ((1,l.take (bZ eT l),0),bZ eT l)
def g_ (l:List UInt8):rS:=
 if(l.drop (bZ eJ l)).head?.any eT then .error 3
 else if 10<bZ eJ l\/(1<bZ eJ l/\l.head? =some 48)\/2147483647<l6 (l.take (bZ eJ l))then .error 2
 else .ok ((3,[],l6 (l.take (bZ eJ l))),bZ eJ l)
def iJ (l:List UInt8):rS:=
 if(cj (l.drop 1)).2=0\/(l.drop 1).head? =some 39\/(l.drop ((cj (l.drop 1)).2+1)).head? ≠some 39 then .error 3 else .ok ((3,[],((cj (l.drop 1)).1.toNat:Int)),(cj (l.drop 1)).2+2)
def iY (l:List UInt8):rS:=match jw (l.drop 1)with
 |none=> .error 3
 |some (t,n)=>if 128<t.length then .error 6 else .ok ((4,t,0),n+1)
def two:List (List UInt8):=[[61,61],[33,61],[60,61],[62,61],[38,38],[124,124]]
def nX:List UInt8:=[40,41,123,125,91,93,44,59,61,43,45,42,47,37,60,62,33]
def iw (l:List UInt8):rS:=if two.contains (l.take 2)then .ok ((5,l.take 2,0),2)else if(l.head?.any fun c=>nX.contains c)then .ok ((5,l.take 1,0),1)else .error 3
def j5 (l:List UInt8):rS:=match l with
 | []=> .error 3
 |c::r=>if kN c then jI (c::r)else if eJ c then g_ (c::r)else if c=39 then iJ (c::r)else if c=34 then iY (c::r)else iw (c::r)
structure bN where
 k:Int
 t:List UInt8
 v:Int
 f:Int
deriving DecidableEq
def gx:Nat->List UInt8->Nat->Except (Nat×Int) (List bN)
 |0,_,_=> .ok []
 |f+1,m,at_=>
  match m.drop (cK false m)with
  | []=> .ok []
  |c::r=>match j5 (c::r)with
   | .error e=> .error (at_+cK false m,e)
   | .ok ((k,t,v),n)=>match gx f ((c::r).drop n) (at_+cK false m+n)with
    | .error e=> .error e
    | .ok ts=> .ok (⟨k,t,v,(at_+cK false m:Nat)⟩::ts)
def m8 (l:List UInt8):Except (Nat×Int) (List bN):=gx (l.length+1) l 0
def ge (l:List UInt8):List bN×Int×Int:=if 4000<l.length then([],4000,6)else match m8 l with
 | .ok ts=>(ts,0,0)
 | .error (p,e)=>([],p,e)
end
section
inductive Ex where
 |mk (k:Int) (op nm tx:List UInt8) (v:Int) (args:List Ex)
inductive St where
 |mk (k:Int) (nm:List UInt8) (ex:List Ex) (body els:List St)
structure Vr where
 nm:List UInt8
 sz:Int
structure Fc where
 nm:List UInt8
 ps:List (List UInt8)
 body:List St
structure Pg where
 vs:List Vr
 fs:List Fc
def Ex.k:Ex->Int| .mk k _ _ _ _ _=>k
def Ex.op:Ex->List UInt8| .mk _ o _ _ _ _=>o
def Ex.nm:Ex->List UInt8| .mk _ _ n _ _ _=>n
def Ex.tx:Ex->List UInt8| .mk _ _ _ t _ _=>t
def Ex.v:Ex->Int| .mk _ _ _ _ v _=>v
def Ex.args:Ex->List Ex| .mk _ _ _ _ _ a=>a
def St.k:St->Int| .mk k _ _ _ _=>k
def St.nm:St->List UInt8| .mk _ n _ _ _=>n
def St.ex:St->List Ex| .mk _ _ e _ _=>e
def St.body:St->List St| .mk _ _ _ b _=>b
def St.els:St->List St| .mk _ _ _ _ e=>e
def zT:bN:=⟨0,[],0,0⟩
def ci:List bN->bN
 | []=>zT
 |t::_=>t
def cP (s:List UInt8) (l:List bN):Bool:=((ci l).k==5||(ci l).k==2)&&(ci l).t==s
theorem lU {s:List UInt8} {l:List bN} (h:cP s l=true):l≠ []:=by
 intro e;subst e;simp[cP,ci,zT]at h
theorem bq {s:List UInt8} {l:List bN} (h:cP s l=true):l.length=l.tail.length+1:=by
 cases l with
 |nil=>exact absurd rfl (lU h)
 |cons t r=>rfl
def Do (en:Int):List bN->Int
 | []=>en
 |t::_=>t.f
def kD (s:List UInt8):Int:=
 if s=[124,124]then 1 else if s=[38,38]then 2 else if s=[61,61]then 3 else if s=[33,61]then 3
 else if s=[60]then 4 else if s=[60,61]then 4 else if s=[62]then 4 else if s=[62,61]then 4
 else if s=[43]then 5 else if s=[45]then 5 else if s=[42]then 6 else if s=[47]then 6 else if s=[37]then 6 else 0
theorem B7 (s:List UInt8):0<=kD s/\kD s<=6:=by
 unfold kD
 (repeat' split)<;>omega
abbrev PR (α:Type):=Except (List bN×Int) (α×List bN)
def PR.then {α β:Type} (x:PR α) (k:α->List bN->PR β):PR β:=match x with
 | .error e=> .error e
 | .ok (a,r)=>k a r
def bV (s:List UInt8) (l:List bN):PR Unit:=if cP s l then .ok ((),l.tail)else .error (l,3)
def h_ (l:List bN):PR (List UInt8):=if(ci l).k=1 then .ok ((ci l).t,l.tail)else .error (l,3)
def mi:List UInt8:=[40]
def kA:List UInt8:=[41]
def C9:List UInt8:=[123]
def CD:List UInt8:=[125]
def p':List UInt8:=[91]
def rW:List UInt8:=[93]
def xd:List UInt8:=[44]
def uY:List UInt8:=[59]
def Bb:List UInt8:=[61]
def rX:List UInt8:=[45]
def tP:List UInt8:=[33]
def lL:List UInt8:=[118,97,114]
def j':List UInt8:=[102,117,110,99]
def C_:List UInt8:=[105,102]
def Bc:List UInt8:=[101,108,115,101]
def sE:List UInt8:=[119,104,105,108,101]
def p_:List UInt8:=[114,101,116,117,114,110]
mutual
def bQ:Nat->Int->List bN->PR Ex
 |0,_,l=> .error (l,0)
 |f+1,n,l=>(cL f l).then fun x r=>gL f n x r
def gL:Nat->Int->Ex->List bN->PR Ex
 |0,_,_,l=> .error (l,0)
 |f+1,n,x,l=>if(ci l).k=5/\n<=kD (ci l).t then(bQ f (kD (ci l).t+1) l.tail).then fun y r=>gL f n (.mk 7 (ci l).t [] [] 0 [x,y]) r else .ok (x,l)
def cL:Nat->List bN->PR Ex
 |0,l=> .error (l,0)
 |f+1,l=>
  if(ci l).k=3 then .ok (.mk 1 [] [] [] (ci l).v [],l.tail)
  else if(ci l).k=4 then .ok (.mk 2 [] [] (ci l).t 0 [],l.tail)
  else if(ci l).k=1 then ct f (ci l).t l.tail
  else if cP rX l||cP tP l then(cL f l.tail).then fun x r=> .ok (.mk 6 (ci l).t [] [] 0 [x],r)
  else(bV mi l).then fun _ r=>(bQ f 1 r).then fun x r=>(bV kA r).then fun _ r=> .ok (x,r)
def ct:Nat->List UInt8->List bN->PR Ex
 |0,_,l=> .error (l,0)
 |f+1,nm,l=>
  if cP p' l then(bQ f 1 l.tail).then fun x r=>(bV rW r).then fun _ r=> .ok (.mk 4 [] nm [] 0 [x],r)
  else if cP mi l then(fu f l.tail).then fun a r=> .ok (.mk 5 [] nm [] 0 a,r)
  else .ok (.mk 3 [] nm [] 0 [],l)
def fu:Nat->List bN->PR (List Ex)
 |0,l=> .error (l,0)
 |f+1,l=>if cP kA l then .ok ([],l.tail)else fZ f [] l
def fZ:Nat->List Ex->List bN->PR (List Ex)
 |0,_,l=> .error (l,0)
 |f+1,acc,l=>(bQ f 1 l).then fun x r=>if cP kA r then .ok (acc++[x],r.tail)else(bV xd r).then fun _ r=>fZ f (acc++[x]) r
end
mutual
def dq:Nat->List bN->PR (List St)
 |0,l=> .error (l,0)
 |f+1,l=>(bV C9 l).then fun _ r=>ek f [] r
def ek:Nat->List St->List bN->PR (List St)
 |0,_,l=> .error (l,0)
 |f+1,acc,l=>if cP CD l then .ok (acc,l.tail)else(dn f l).then fun s r=>ek f (acc++[s]) r
def nr:Nat->List bN->PR St
 |0,l=> .error (l,0)
 |f+1,l=>(bQ f 1 l).then fun x r=>(dq f r).then fun b r=>
  if cP Bc r then
   if cP C_ r.tail then(nr f r.tail.tail).then fun s r=> .ok (.mk 4 [] [x] b [s],r)
   else(dq f r.tail).then fun c r=> .ok (.mk 4 [] [x] b c,r)
  else .ok (.mk 4 [] [x] b [],r)
def dn:Nat->List bN->PR St
 |0,l=> .error (l,0)
 |f+1,l=>
  if cP C_ l then nr f l.tail
  else if cP sE l then(bQ f 1 l.tail).then fun x r=>(dq f r).then fun b r=> .ok (.mk 5 [] [x] b [],r)
  else if cP lL l then(h_ l.tail).then fun nm r=>
   (if cP Bb r then(bQ f 1 r.tail).then fun x r=> .ok ([x],r)else .ok ([],r)).then fun ex r=>(bV uY r).then fun _ r=> .ok (.mk 1 nm ex [] [],r)
  else if cP p_ l then(if cP uY l.tail then .ok ([],l.tail)else(bQ f 1 l.tail).then fun x r=> .ok ([x],r)).then fun ex r=>(bV uY r).then fun _ r=> .ok (.mk 6 [] ex [] [],r)
  else(h_ l).then fun nm r=>
   (if cP mi r then(ct f nm r).then fun x r=> .ok (.mk 7 [] [x] [] [],r)
   else if cP p' r then(bQ f 1 r.tail).then fun i r=>(bV rW r).then fun _ r=>(bV Bb r).then fun _ r=>(bQ f 1 r).then fun x r=> .ok (.mk 3 nm [i,x] [] [],r)
   else(bV Bb r).then fun _ r=>(bQ f 1 r).then fun x r=> .ok (.mk 2 nm [x] [] [],r)).then fun s r=>(bV uY r).then fun _ r=> .ok (s,r)
end
def ja (l:List bN):PR Vr:=(h_ l).then fun nm r=>
 (if cP p' r then
  if(ci r.tail).k=3 then
   if(ci r.tail).v<1\/2000<(ci r.tail).v then .error (r.tail,2)else(bV rW r.tail.tail).then fun _ q=> .ok ((ci r.tail).v,q)
  else .error (r.tail,3)
 else .ok (0,r)).then fun sz r=>(bV uY r).then fun _ r=> .ok (⟨nm,sz⟩,r)
def eQ:Nat->List (List UInt8)->List bN->PR (List (List UInt8))
 |0,_,l=> .error (l,0)
 |f+1,acc,l=>(h_ l).then fun x r=>if cP kA r then .ok (acc++[x],r.tail)else(bV xd r).then fun _ r=>eQ f (acc++[x]) r
def eX (f:Nat) (l:List bN):PR (List (List UInt8)):=if cP kA l then .ok ([],l.tail)else eQ f [] l
def jL (f:Nat) (l:List bN):PR Fc:=(h_ l).then fun nm r=>(bV mi r).then fun _ r=>(eX f r).then fun ps r=>(dq f r).then fun b r=> .ok (⟨nm,ps,b⟩,r)
def c7:Nat->Pg->List bN->PR Pg
 |0,_,l=> .error (l,0)
 |f+1,p,l=>if l=[]then .ok (p,[])
  else if cP lL l then(ja l.tail).then fun v r=>c7 f ⟨p.vs++[v],p.fs⟩ r
  else(bV j' l).then fun _ r=>(jL f r).then fun c r=>c7 f ⟨p.vs,p.fs++[c]⟩ r
theorem PR.then_ok {α β:Type} {x:PR α} {k:α->List bN->PR β} {b:β} {r:List bN} (h:x.then k= .ok (b,r)): ∃a q,x= .ok (a,q)/\k a q= .ok (b,r):=by
 unfold PR.then at h;split at h
 ·cases h
 ·exact⟨_,_,rfl,h⟩
theorem dT {s:List UInt8} {l r:List bN} {u:Unit} (h:bV s l= .ok (u,r)):cP s l=true/\r=l.tail/\l.length=r.length+1:=by
 unfold bV at h;split at h
 ·rename_i h1;injection h with h;injection h with _ h;subst h;exact⟨h1,rfl,bq h1⟩
 ·cases h
theorem gN {l:List bN} (h:(ci l).k≠0):l.length=l.tail.length+1:=by
 cases l with
 |nil=>exact absurd rfl h
 |cons t r=>rfl
theorem ka {l r:List bN} {nm:List UInt8} (h:h_ l= .ok (nm,r)):(ci l).k=1/\nm=(ci l).t/\r=l.tail/\l.length=r.length+1:=by
 unfold h_ at h;split at h
 ·rename_i h1;injection h with h;injection h with h2 h;subst h h2;exact⟨h1,rfl,rfl,gN (by rw[h1];decide)⟩
 ·cases h
theorem bw {α:Type} {a b:α} {r q:List bN} (h:(Except.ok (a,r):PR α)= .ok (b,q)):a=b/\r=q:=by
 injection h with h;injection h with h1 h2;exact⟨h1,h2⟩
theorem iD: ∀(f:Nat),
  (∀n l x r,bQ f n l= .ok (x,r)->r.length<l.length)/\(∀n y l x r,gL f n y l= .ok (x,r)->r.length<=l.length)/\
  (∀l x r,cL f l= .ok (x,r)->r.length<l.length)/\(∀nm l x r,ct f nm l= .ok (x,r)->r.length<=l.length)/\
  (∀l x r,fu f l= .ok (x,r)->r.length<l.length)/\(∀acc l x r,fZ f acc l= .ok (x,r)->r.length<l.length)
 |0=>by
  refine⟨?_,?_,?_,?_,?_,?_⟩;all_goals (intros;rename_i h;simp[bQ,gL,cL,ct,fu,fZ]at h)
 |f+1=>by
  obtain⟨iE,iL,iP,iN,iA,iB⟩:=iD f;refine⟨?_,?_,?_,?_,?_,?_⟩
  ·intro n l x r h;rw[bQ]at h;obtain⟨a,q,h1,h2⟩:=PR.then_ok h;have:=iP _ _ _ h1;have:=iL _ _ _ _ _ h2;omega
  ·intro n y l x r h;rw[gL]at h;split at h
   ·rename_i hk;obtain⟨a,q,h1,h2⟩:=PR.then_ok h;have:=iE _ _ _ _ h1;have:=iL _ _ _ _ _ h2;have:=gN (l:=l) (by rw[hk.1];decide);omega
   ·rw[(bw h).2];exact ah _
  ·intro l x r h;rw[cL]at h;split at h
   ·rename_i hk;have:=gN (l:=l) (by rw[hk];decide);rw[<-(bw h).2];omega
   ·split at h
    ·rename_i hk;have:=gN (l:=l) (by rw[hk];decide);rw[<-(bw h).2];omega
    ·split at h
     ·rename_i hk;have:=gN (l:=l) (by rw[hk];decide);have:=iN _ _ _ _ h;omega
     ·split at h
      ·rename_i hk;obtain⟨a,q,h1,h2⟩:=PR.then_ok h;have:=iP _ _ _ h1;have h3:=(bw h2).2;have:l.length=l.tail.length+1:=by
        rw[bF]at hk;rcases hk with hk|hk<;>exact bq hk
       subst h3;omega
      ·obtain⟨a,q,h1,h2⟩:=PR.then_ok h;obtain⟨a',q',h3,h4⟩:=PR.then_ok h2;obtain⟨a'',q'',h5,h6⟩:=PR.then_ok h4;have:=(dT h1).2.2;have:=iE _ _ _ _ h3;have:=(dT h5).2.2;have h7:=(bw h6).2;subst h7;omega
  ·intro nm l x r h;rw[ct]at h;split at h
   ·rename_i hk;obtain⟨a,q,h1,h2⟩:=PR.then_ok h;obtain⟨a',q',h3,h4⟩:=PR.then_ok h2;have:=bq hk;have:=iE _ _ _ _ h1;have:=(dT h3).2.2;have h7:=(bw h4).2;subst h7;omega
   ·split at h
    ·rename_i hk;obtain⟨a,q,h1,h2⟩:=PR.then_ok h;have:=bq hk;have:=iA _ _ _ h1;have h7:=(bw h2).2;subst h7;omega
    ·have:=(bw h).2;subst this;omega
  ·intro l x r h;rw[fu]at h;split at h
   ·rename_i hk;have:=bq hk;have h7:=(bw h).2;subst h7;omega
   ·exact iB _ _ _ _ h
  ·intro acc l x r h;rw[fZ]at h;obtain⟨a,q,h1,h2⟩:=PR.then_ok h;have:=iE _ _ _ _ h1;split at h2
   ·rename_i hk;have:=bq hk;have h7:=(bw h2).2;subst h7;omega
   ·obtain⟨a',q',h3,h4⟩:=PR.then_ok h2;have:=(dT h3).2.2;have:=iB _ _ _ _ h4;omega
theorem nh: ∀(f:Nat),
  (∀l x r,dq f l= .ok (x,r)->r.length<l.length)/\(∀acc l x r,ek f acc l= .ok (x,r)->r.length<l.length)/\
  (∀l x r,nr f l= .ok (x,r)->r.length<l.length)/\(∀l x r,dn f l= .ok (x,r)->r.length<l.length)
 |0=>by
  refine⟨?_,?_,?_,?_⟩;all_goals (intros;rename_i h;simp[dq,ek,nr,dn]at h)
 |f+1=>by
  obtain⟨iB,iC,iI,iS⟩:=nh f;obtain⟨iE,_,_,iN,_,_⟩:=iD f;refine⟨?_,?_,?_,?_⟩
  ·intro l x r h;rw[dq]at h;obtain⟨a,q,h1,h2⟩:=PR.then_ok h;have:=(dT h1).2.2;have:=iC _ _ _ _ h2;omega
  ·intro acc l x r h;rw[ek]at h;split at h
   ·rename_i hk;have:=bq hk;have h7:=(bw h).2;subst h7;omega
   ·obtain⟨a,q,h1,h2⟩:=PR.then_ok h;have:=iS _ _ _ h1;have:=iC _ _ _ _ h2;omega
  ·intro l x r h;rw[nr]at h;obtain⟨a,q,h1,h2⟩:=PR.then_ok h;obtain⟨a',q',h3,h4⟩:=PR.then_ok h2;have:=iE _ _ _ _ h1;have:=iB _ _ _ h3;split at h4
   ·rename_i hk;have:=bq hk;split at h4
    ·rename_i hk2;have:=bq hk2;obtain⟨a2,q2,h5,h6⟩:=PR.then_ok h4;have:=iI _ _ _ h5;have h7:=(bw h6).2;subst h7;omega
    ·obtain⟨a2,q2,h5,h6⟩:=PR.then_ok h4;have:=iB _ _ _ h5;have h7:=(bw h6).2;subst h7;omega
   ·have h7:=(bw h4).2;subst h7;omega
  ·intro l x r h;rw[dn]at h;split at h
   ·rename_i hk;have:=bq hk;have:=iI _ _ _ h;omega
   split at h
   ·rename_i hk;have:=bq hk;obtain⟨a,q,h1,h2⟩:=PR.then_ok h;obtain⟨a',q',h3,h4⟩:=PR.then_ok h2;have:=iE _ _ _ _ h1;have:=iB _ _ _ h3;have h7:=(bw h4).2;subst h7;omega
   split at h
   ·rename_i hk;have:=bq hk;obtain⟨a,q,h1,h2⟩:=PR.then_ok h;obtain⟨a',q',h3,h4⟩:=PR.then_ok h2;obtain⟨a2,q2,h5,h6⟩:=PR.then_ok h4;have:=(ka h1).2.2.2;have:=(dT h5).2.2;have h7:=(bw h6).2;subst h7;split at h3
    ·rename_i hk2;have:=bq hk2;obtain⟨a3,q3,h8,h9⟩:=PR.then_ok h3;have:=iE _ _ _ _ h8;have h10:=(bw h9).2;subst h10;omega
    ·have h10:=(bw h3).2;subst h10;omega
   split at h
   ·rename_i hk;have:=bq hk;obtain⟨a',q',h3,h4⟩:=PR.then_ok h;obtain⟨a2,q2,h5,h6⟩:=PR.then_ok h4;have:=(dT h5).2.2;have h7:=(bw h6).2;subst h7;split at h3
    ·have h10:=(bw h3).2;subst h10;omega
    ·obtain⟨a3,q3,h8,h9⟩:=PR.then_ok h3;have:=iE _ _ _ _ h8;have h10:=(bw h9).2;subst h10;omega
   ·obtain⟨a,q,h1,h2⟩:=PR.then_ok h;obtain⟨a',q',h3,h4⟩:=PR.then_ok h2;obtain⟨a2,q2,h5,h6⟩:=PR.then_ok h4;have:=(ka h1).2.2.2;have:=(dT h5).2.2;have h7:=(bw h6).2;subst h7;split at h3
    ·obtain⟨a3,q3,h8,h9⟩:=PR.then_ok h3;have:=iN _ _ _ _ h8;have h10:=(bw h9).2;subst h10;omega
    ·split at h3
     ·rename_i hk;have:=bq hk;obtain⟨b1,r1,g1,g2⟩:=PR.then_ok h3;obtain⟨b2,r2,g3,g4⟩:=PR.then_ok g2;obtain⟨b3,r3,g5,g6⟩:=PR.then_ok g4;obtain⟨b4,r4,g7,g8⟩:=PR.then_ok g6;have:=iE _ _ _ _ g1;have:=(dT g3).2.2;have:=(dT g5).2.2;have:=iE _ _ _ _ g7;have h10:=(bw g8).2;subst h10;omega
     ·obtain⟨b1,r1,g1,g2⟩:=PR.then_ok h3;obtain⟨b2,r2,g3,g4⟩:=PR.then_ok g2;have:=(dT g1).2.2;have:=iE _ _ _ _ g3;have h10:=(bw g4).2;subst h10;omega
end
section
def pF:List (List UInt8×Int×List UInt8):=
 [([101,120,105,116],0,[105]),
 ([107,105,108,108],4,[105]),
 ([103,114,111,119],6,[105]),
 ([99,108,111,115,101],8,[105]),
 ([115,101,114,118,101],16,[105]),
 ([100,105,97,108],17,[105]),
 ([115,108,101,101,112],19,[105]),
 ([102,111,114,107],1,[]),
 ([119,97,105,116],3,[]),
 ([115,101,108,102],5,[]),
 ([112,105,112,101],11,[]),
 ([116,105,109,101],18,[]),
 ([100,117,112],12,[105,105]),
 ([101,120,101,99],2,[115]),
 ([117,110,108,105,110,107],13,[115]),
 ([109,107,100,105,114],14,[115]),
 ([111,112,101,110],7,[115,105]),
 ([114,101,97,100],9,[105,97,105]),
 ([119,114,105,116,101],10,[105,98,105])]
abbrev Bi:=Option (Int×List UInt8)
def ee (s:List UInt8):Bi:=(pF.find? (fun x=>x.1==s)).map (·.2)
def yZ (s:List UInt8):Bool:=(ee s).isSome
def jW (b:Bi) (i:Nat):Bool:=match b with
 |none=>true
 |some (_,a)=>decide (a.length<=i)||a.getD i 0==105
def rn (op:List UInt8):Bool:=op==[38,38]||op==[124,124]
mutual
def cX:Ex->Nat
 | .mk k op nm tx v a=>if k=4\/k=6 then gg 1 a else if k=7 then eL (rn op) 0 1 a else if k=5 then eZ (ee nm) 0 0 1 a else 1
def gg:Nat->List Ex->Nat
 |m,[]=>m
 |m,y::r=>gg (max m (cX y)) r
def eL (lg:Bool):Nat->Nat->List Ex->Nat
 |i,m,[]=>m
 |i,m,y::r=>eL lg (i+1) (max m (if 0<i/\lg=false then cX y+1 else cX y)) r
def eZ (b:Bi):Nat->Nat->Nat->List Ex->Nat
 |i,fr,m,[]=>m
 |i,fr,m,y::r=>if jW b i=true then eZ b (i+1) (fr+1) (max m (fr+cX y)) r else eZ b (i+1) fr m r
end
mutual
def s9:St->Nat
 | .mk k _ _ b e=>(if k=1 then 1 else 0)+(fd b+fd e)
def fd:List St->Nat
 | []=>0
 |s::r=>s9 s+fd r
end
def gF (f:Fc):Nat:=4*(8+f.ps.length+fd f.body)
mutual
def DA:St->Bool
 | .mk _ _ x b e=>x.any (fun y=>decide (7<cX y))||(lA b||lA e)
def lA:List St->Bool
 | []=>false
 |s::r=>DA s||lA r
end
abbrev Er:=List UInt8×Int
structure Gl where
 arr:List UInt8->Option Int
 int:List UInt8->Bool
 fn:List UInt8->Option Nat
abbrev Ls:=List UInt8->Bool
def eY:Ls:=fun _=>false
def Ls.add (l:Ls) (s:List UInt8):Ls:=fun x=>x==s||l x
def Gl.known (g:Gl) (lo:Ls) (s:List UInt8):Bool:=(g.arr s).isSome||((g.fn s).isSome||(g.int s||(lo s||yZ s)))
abbrev CR:=Except Er Unit
def CR.then {α:Type} (x:Except Er α) {β:Type} (k:α->Except Er β):Except Er β:=match x with
 | .error e=> .error e
 | .ok a=>k a
theorem fB {α β:Type} (e:Er) (k:α->Except Er β):CR.then (.error e) k= .error e:=rfl
theorem dV {α β:Type} (a:α) (k:α->Except Er β):CR.then (.ok a) k=k a:=rfl
def ot (g:Gl) (lo:Ls) (s:List UInt8):CR:=if(lo s||g.int s)=true then .ok ()else if g.known lo s=true then .error (s,16)else .error (s,15)
def kq (g:Gl) (lo:Ls) (s:List UInt8):CR:=if(g.arr s).isSome=true then .ok ()else if g.known lo s=true then .error (s,16)else .error (s,15)
def oS (c:UInt8) (k:Int):Bool:=(c==115&&k !=2)||((c==97&&k !=3)||(c==98&&(k !=3&&k !=2)))
def xO (b:Bi) (i:Nat):UInt8:=match b with
 |none=>0
 |some (_,a)=>a.getD i 0
def ur (g:Gl) (nm:List UInt8):Option Nat:=match ee nm with
 |some (_,a)=>some a.length
 |none=>g.fn nm
mutual
def lw (g:Gl) (lo:Ls):Ex->CR
 | .mk k op nm tx v a=>
  if k=3 then ot g lo nm
  else if k=4 then CR.then (kq g lo nm) fun _=>l7 g lo a
  else if k=2 then .error ([],16)
  else if k=5 then match ur g nm with
   |none=> .error (nm,15)
   |some n=>if n=a.length then na g lo nm (ee nm) 0 a else .error (nm,16)
  else if k=6\/k=7 then l7 g lo a
  else .ok ()
def l7 (g:Gl) (lo:Ls):List Ex->CR
 | []=> .ok ()
 |y::r=>CR.then (lw g lo y) fun _=>l7 g lo r
def na (g:Gl) (lo:Ls) (nm:List UInt8) (b:Bi):Nat->List Ex->CR
 | _,[]=> .ok ()
 |i,y::r=>CR.then (if jW b i=true then lw g lo y else if oS (xO b i) y.k=true then .error (nm,16)else if y.k=3 then kq g lo y.nm else .ok ()) fun _=>na g lo nm b (i+1) r
end
abbrev SR:=Except Er Ls
mutual
def qr (g:Gl):Ls->St->SR
 |lo, .mk k nm ex bd el=>
  CR.then (if k=2 then ot g lo nm else if k=3 then kq g lo nm else .ok ()) fun _=>
  CR.then (l7 g lo ex) fun _=>
  CR.then (if k=1 then(if g.known lo nm=true then .error (nm,9)else .ok (lo.add nm))else .ok lo) fun lo1=>
  CR.then (fe g lo1 bd) fun lo2=>fe g lo2 el
def fe (g:Gl):Ls->List St->SR
 |lo,[]=> .ok lo
 |lo,s::r=>CR.then (qr g lo s) fun lo1=>fe g lo1 r
end
def Gl.addV (g:Gl) (v:Vr):Gl:=if 0<v.sz then{g with arr:=fun x=>if x=v.nm then some v.sz else g.arr x}else{g with int:=fun x=>x==v.nm||g.int x}
def Gl.addF (g:Gl) (f:Fc):Gl:={g with fn:=fun x=>if x=f.nm then some f.ps.length else g.fn x}
def mx:Gl:=⟨fun _=>none,fun _=>false,fun _=>none⟩
def bC:List UInt8:=[109,97,105,110]
def jp:Gl->List Vr->Except Er Gl
 |g,[]=> .ok g
 |g,v::r=>if g.known eY v.nm=true then .error (v.nm,9)else jp (g.addV v) r
def gV:Gl->List Fc->Except Er Gl
 |g,[]=> .ok g
 |g,f::r=>if g.known eY f.nm=true then .error (f.nm,9)else gV (g.addF f) r
def lF (p:Pg):Except Er Gl:=
 CR.then (jp mx p.vs) fun g=>CR.then (gV g p.fs) fun g=>match g.fn bC with
  |none=> .error (bC,8)
  |some n=>if 0<n then .error (bC,16)else .ok g
def mI (g:Gl):Ls->List (List UInt8)->SR
 |lo,[]=> .ok lo
 |lo,p::r=>if g.known lo p=true then .error (p,9)else mI g (lo.add p) r
def jd (g:Gl):List Fc->CR
 | []=> .ok ()
 |f::r=>CR.then (mI g eY f.ps) fun lo=>CR.then (fe g lo f.body) fun _=>jd g r
def fE:List Fc->CR
 | []=> .ok ()
 |f::r=>if 20<f.ps.length+fd f.body\/lA f.body=true then .error (f.nm,6)else fE r
def fR (p:Pg):CR:=CR.then (lF p) fun g=>CR.then (jd g p.fs) fun _=>fE p.fs
end
section
def kI (v:Int):Int:=IntKind.wrap .i32 v
def k9 (b:Bool):Int:=if b=true then 1 else 0
structure Ms where
 ints:List UInt8->Int
 arrs:List UInt8->List UInt8
 left:Nat
 stk:Nat
 used:Nat
structure Oc where
 kind:Int
 call:Int
 a0:Int
 a1:Int
 a2:Int
 data:List UInt8
 used:Nat
abbrev ER (α:Type):=Except Oc (α×Ms)
def ER.then {α β:Type} (x:ER α) (k:α->Ms->ER β):ER β:=match x with
 | .error e=> .error e
 | .ok (a,s)=>k a s
theorem ed {α β:Type} (e:Oc) (k:α->Ms->ER β):ER.then (.error e) k= .error e:=rfl
theorem eh {α β:Type} (a:α) (s:Ms) (k:α->Ms->ER β):ER.then (.ok (a,s)) k=k a s:=rfl
def Ms.fails (s:Ms):Oc:=⟨2,0,0,0,0,[],s.used⟩
def Ms.long (s:Ms):Oc:=⟨3,0,0,0,0,[],s.used⟩
abbrev Rs:=List (Int×List UInt8)
def fW (R:Rs) (s:Ms) (call a0 a1 a2:Int) (data:List UInt8):ER (Int×List UInt8):=match R[s.used]? with
 |none=> .error ⟨1,call,a0,a1,a2,data,s.used⟩
 |some r=> .ok (r,{s with used:=s.used+1})
abbrev Lo:=List UInt8->Option Int
def Lo.upd (l:Lo) (s:List UInt8) (v:Int):Lo:=fun x=>if x=s then some v else l x
def Ms.setI (s:Ms) (nm:List UInt8) (v:Int):Ms:={s with ints:=fun x=>if x=nm then v else s.ints x}
def Ms.setA (s:Ms) (nm:List UInt8) (a:List UInt8):Ms:={s with arrs:=fun x=>if x=nm then a else s.arrs x}
inductive Dt where
 |no
 |txt (t:List UInt8)
 |arr (nm:List UInt8)
def Dt.rd (s:Ms):Dt->List UInt8
 | .no=>[]
 | .txt t=>t
 | .arr nm=>s.arrs nm
def Dt.put (s:Ms) (n:Nat) (r:List UInt8):Dt->Ms
 | .no=>s
 | .txt _=>s
 | .arr nm=>s.setA nm (r.take n++(s.arrs nm).drop (min n r.length))
def dW (E:Ms->Ex->ER Int):List UInt8->List Ex->List Int->Int->Dt->Ms->ER (List Int×Int×Dt)
 |c::ls,y::ys,vs,la,d,s=>if c=105 then(E s y).then fun v s=>dW E ls ys (vs++[v]) v d s else if y.k=2 then dW E ls ys vs la (.txt y.tx) s else dW E ls ys vs la (.arr y.nm) s
 | _,_,vs,la,d,s=> .ok ((vs,la,d),s)
def nc (R:Rs) (call:Int) (vs:List Int) (la:Int) (d:Dt) (s:Ms):ER Int:=
 if call≠9/\call≠10 then(fW R s call (vs.getD 0 0) (vs.getD 1 0) (vs.getD 2 0) (d.rd s)).then fun r s=> .ok (kI r.1,s)
 else if la<0\/(d.rd s).length<la\/128<la then .error s.fails
 else if call=10 then(fW R s call (vs.getD 0 0) 0 0 ((d.rd s).take la.toNat)).then fun r s=> .ok (kI r.1,s)
 else(fW R s call (vs.getD 0 0) (vs.getD 1 0) (vs.getD 2 0) []).then fun r s=> .ok (kI r.1,d.put s la.toNat r.2)
def oz (R:Rs) (E:Ms->Ex->ER Int) (s:Ms) (call:Int) (ls:List UInt8) (a:List Ex):ER Int:=(dW E ls a [] 0 .no s).then fun p s=>nc R call p.1 p.2.1 p.2.2 s
def uk (E:Ms->Ex->ER Int):List Int->Ms->List Ex->ER (List Int)
 |vs,s,[]=> .ok (vs,s)
 |vs,s,y::r=>(E s y).then fun v s=>uk E (vs++[v]) s r
def rZ:Lo->List (List UInt8)->List Int->Lo
 |l,p::ps,v::vs=>rZ (l.upd p v) ps vs
 |l,_,_=>l
mutual
def vR:Lo->St->Lo
 |l, .mk k nm _ b e=>gm (gm (if k=1 then l.upd nm 0 else l) b) e
def gm:Lo->List St->Lo
 |l,[]=>l
 |l,s::r=>gm (vR l s) r
end
abbrev lx:=ER (Option Int×Lo)
def mh (S:Ms->Lo->St->lx):Ms->Lo->List St->lx
 |s,l,[]=> .ok ((none,l),s)
 |s,l,x::r=>(S s l x).then fun p s=>match p.1 with
  |some v=> .ok ((some v,p.2),s)
  |none=>mh S s p.2 r
def fF (S:Ms->Lo->St->lx) (f:Fc) (vs:List Int) (s:Ms):ER Int:=
 if 1024<s.stk+gF f then .error s.fails
 else(mh S {s with stk:=s.stk+gF f} (gm (rZ (fun _=>none) f.ps vs) f.body) f.body).then fun p s=> .ok (p.1.getD 0,{s with stk:=s.stk-gF f})
def fM (op:List UInt8) (a b:Int) (s:Ms):ER Int:=
 if op=[43]then .ok (kI (a+b),s)else if op=[45]then .ok (kI (a-b),s)else if op=[42]then .ok (kI (a*b),s)
 else if op=[47]\/op=[37]then(if b=0 then .error s.fails else if op=[47]then .ok (kI (a.tdiv b),s)else .ok (kI (a.tmod b),s))
 else if op=[61,61]then .ok (k9 (a==b),s)else if op=[33,61]then .ok (k9 (a !=b),s)else if op=[60]then .ok (k9 (decide (a<b)),s)
 else if op=[60,61]then .ok (k9 (decide (a<=b)),s)else if op=[62]then .ok (k9 (decide (b<a)),s)else .ok (k9 (decide (b<=a)),s)
structure Cx where
 fn:List UInt8->Fc
 R:Rs
def nB:Ex:= .mk 0 [] [] [] 0 []
def Ms.step (s:Ms):Ms:={s with left:=s.left-1}
def jM (op:List UInt8):Bool:=op==[38,38]
def m' (op:List UInt8):Bool:=op==[124,124]
mutual
def ev (C:Cx):Nat->Ms->Lo->Ex->ER Int
 |0,s,_,_=> .error s.long
 |n+1,s,l,x=>
  if s.left=0 then .error s.long
  else if x.k=1 then .ok (kI x.v,s.step)
  else if x.k=3 then .ok ((l x.nm).getD (s.ints x.nm),s.step)
  else if x.k=4 then(ev C n s.step l (x.args.getD 0 nB)).then fun i s=>if 0<=i/\i<(s.arrs x.nm).length then .ok ((((s.arrs x.nm).getD i.toNat 0).toNat:Int),s)else .error s.fails
  else if x.k=5 then(match ee x.nm with
   |some (c,ls)=>oz C.R (fun s y=>ev C n s l y) s.step c ls x.args
   |none=>(uk (fun s y=>ev C n s l y) [] s.step x.args).then fun vs s=>fF (fun s l y=>st C n s l y) (C.fn x.nm) vs s)
  else if x.k=6 then(ev C n s.step l (x.args.getD 0 nB)).then fun a s=>if x.op=[33]then .ok (k9 (a==0),s)else .ok (kI (-a),s)
  else(ev C n s.step l (x.args.getD 0 nB)).then fun a s=>
   if jM x.op=true/\a=0 then .ok (0,s)else if m' x.op=true/\a≠0 then .ok (1,s)
   else(ev C n s l (x.args.getD 1 nB)).then fun b s=>if(jM x.op||m' x.op)=true then .ok (k9 (b !=0),s)else fM x.op a b s
def st (C:Cx):Nat->Ms->Lo->St->lx
 |0,s,_,_=> .error s.long
 |n+1,s,l,x=>
  if s.left=0 then .error s.long
  else if x.k=5 then wh C n s.step l (x.ex.getD 0 nB) x.body
  else(if x.ex=[]then .ok (0,s.step)else ev C n s.step l (x.ex.getD 0 nB):ER Int).then fun v s=>
   if x.k=1 then .ok ((none,l.upd x.nm v),s)
   else if x.k=2 then(if(l x.nm).isSome=true then .ok ((none,l.upd x.nm v),s)else .ok ((none,l),s.setI x.nm v))
   else if x.k=3 then(ev C n s l (x.ex.getD 1 nB)).then fun u s=>if 0<=v/\v<(s.arrs x.nm).length then .ok ((none,l),s.setA x.nm ((s.arrs x.nm).set v.toNat (UInt8.ofNat (u%256).toNat)))else .error s.fails
   else if x.k=4 then mh (fun s l y=>st C n s l y) s l (if v≠0 then x.body else x.els)
   else if x.k=6 then .ok ((some v,l),s)
   else .ok ((none,l),s)
def wh (C:Cx):Nat->Ms->Lo->Ex->List St->lx
 |0,s,_,_,_=> .error s.long
 |n+1,s,l,c,b=>(ev C n s l c).then fun v s=>if v=0 then .ok ((none,l),s)else(mh (fun s l y=>st C n s l y) s l b).then fun p s=>match p.1 with
  |some v=> .ok ((some v,p.2),s)
  |none=>wh C n s p.2 c b
end
section
variable {C:Cx} {n:Nat} {s:Ms} {l:Lo} {op nm tx:List UInt8} {v:Int} {a:List Ex} {e:List Ex} {b c:List St}
theorem Bm (h:s.left≠0):ev C (n+1) s l (.mk 1 op nm tx v a)= .ok (kI v,s.step):=by rw[ev,if_neg h];rfl
theorem Dl (h:s.left≠0):ev C (n+1) s l (.mk 3 op nm tx v a)= .ok ((l nm).getD (s.ints nm),s.step):=by rw[ev,if_neg h];rfl
theorem Dk (h:s.left≠0):ev C (n+1) s l (.mk 4 op nm tx v a)=(ev C n s.step l (a.getD 0 nB)).then fun i s=>if 0<=i/\i<(s.arrs nm).length then .ok ((((s.arrs nm).getD i.toNat 0).toNat:Int),s)else .error s.fails:=by rw[ev,if_neg h];rfl
theorem Dj (h:s.left≠0):ev C (n+1) s l (.mk 5 op nm tx v a)=match ee nm with
  |some (c,ls)=>oz C.R (fun s y=>ev C n s l y) s.step c ls a
  |none=>(uk (fun s y=>ev C n s l y) [] s.step a).then fun vs s=>fF (fun s l y=>st C n s l y) (C.fn nm) vs s:=by rw[ev,if_neg h];rfl
theorem Bl (h:s.left≠0):ev C (n+1) s l (.mk 6 op nm tx v a)=(ev C n s.step l (a.getD 0 nB)).then fun a s=>if op=[33]then .ok (k9 (a==0),s)else .ok (kI (-a),s):=by rw[ev,if_neg h];rfl
theorem yj (h:s.left≠0):ev C (n+1) s l (.mk 7 op nm tx v a)=(ev C n s.step l (a.getD 0 nB)).then fun x s=>
   if jM op=true/\x=0 then .ok (0,s)else if m' op=true/\x≠0 then .ok (1,s)
   else(ev C n s l (a.getD 1 nB)).then fun b s=>if(jM op||m' op)=true then .ok (k9 (b !=0),s)else fM op x b s:=by rw[ev,if_neg h];rfl
def val (C:Cx) (n:Nat) (s:Ms) (l:Lo) (e:List Ex):ER Int:=if e=[]then .ok (0,s)else ev C n s l (e.getD 0 nB)
theorem C4 (h:s.left≠0):st C (n+1) s l (.mk 1 nm e b c)=(val C n s.step l e).then fun v s=> .ok ((none,l.upd nm v),s):=by rw[st,if_neg h];rfl
theorem C1 (h:s.left≠0):st C (n+1) s l (.mk 2 nm e b c)=(val C n s.step l e).then fun v s=>if(l nm).isSome=true then .ok ((none,l.upd nm v),s)else .ok ((none,l),s.setI nm v):=by rw[st,if_neg h];rfl
theorem C0 (h:s.left≠0):st C (n+1) s l (.mk 3 nm e b c)=(val C n s.step l e).then fun v s=>(ev C n s l (e.getD 1 nB)).then fun u s=>if 0<=v/\v<(s.arrs nm).length then .ok ((none,l),s.setA nm ((s.arrs nm).set v.toNat (UInt8.ofNat (u%256).toNat)))else .error s.fails:=by rw[st,if_neg h];rfl
theorem CZ (h:s.left≠0):st C (n+1) s l (.mk 4 nm e b c)=(val C n s.step l e).then fun v s=>mh (fun s l y=>st C n s l y) s l (if v≠0 then b else c):=by rw[st,if_neg h];rfl
theorem CY (h:s.left≠0):st C (n+1) s l (.mk 5 nm e b c)=wh C n s.step l (e.getD 0 nB) b:=by rw[st,if_neg h];rfl
theorem wU (h:s.left≠0):st C (n+1) s l (.mk 6 nm e b c)=(val C n s.step l e).then fun v s=> .ok ((some v,l),s):=by rw[st,if_neg h];rfl
theorem CX (h:s.left≠0):st C (n+1) s l (.mk 7 nm e b c)=(val C n s.step l e).then fun v s=> .ok ((none,l),s):=by rw[st,if_neg h];rfl
end
def gn:List Vr->List UInt8->List UInt8
 | [],_=>[]
 |v::r,s=>if s=v.nm/\0<v.sz then List.replicate v.sz.toNat 0 else gn r s
def ib:List Fc->List UInt8->Fc
 | [],_=>⟨[],[],[]⟩
 |f::r,s=>if s=f.nm then f else ib r s
def cx (p:Pg) (R:Rs):Cx:=⟨ib p.fs,R⟩
def CH (p:Pg) (n:Nat):Ms:=⟨fun _=>0,gn p.vs,n,0,0⟩
def xf (p:Pg) (R:Rs) (k n:Nat):Oc:=
 match ((fF (fun s l y=>st (cx p R) k s l y) (ib p.fs bC) [] (CH p n)).then fun v s=>(fW R s 0 (v%256) 0 0 []).then fun _ s=> .error s.long:ER Unit)with
 | .error o=>o
 | .ok (_,s)=>s.long
def lM (p:Pg) (R:Rs) (n:Nat):Oc:=xf p R (2*n) n
def aO:=@PR.then_ok
end
end Go.Proofs.YtddomeddabfinaaGreatDoor
