/-
  Parts of the proof: LexP ParP TyP TyR.
-/
import Derived.Test.YtddomeddabfinaaGreatDoorProg
set_option maxRecDepth 100000
set_option maxHeartbeats 8000000
set_option linter.unusedVariables false
set_option linter.unusedSimpArgs false
set_option linter.defProp false
set_option linter.unusedSectionVars false
namespace Go.Proofs.YtddomeddabfinaaGreatDoor
def O:=@Option.some.inj
def Z:=@List.length_append
def aa:=@List.drop_succ_cons
def ac:=@List.length_cons
def ae:=@List.length_nil
def ag:=@Nat.le_refl
def ai:=@Bool.and_eq_true
def an:=@List.drop_zero
def ap:=@List.getElem_mem
def aq:=@Array.getD_eq_getD_getElem?
def aw:=@List.drop_eq_getElem_cons
def ax:=@And.intro
def az:=@Nat.lt_of_lt_of_le
def aA:=@Nat.zero_add
def aB:=@List.getElem_cons_zero
def aD:=@List.drop_of_length_le
def aF:=@Nat.zero_le
def aG:=@Nat.le_of_lt
def aH:=@List.eq_nil_of_length_eq_zero
def aJ:=@List.drop_nil
def aK:=@Bool.false_eq_true
def aL:=@List.getElem?_eq_getElem
def aN:=@List.append_assoc
def aP:=@List.getElem_cons_succ
def aT:=@Nat.le_trans
def a8:=@List.setIfInBounds_toArray
def a_:=@Nat.zero_mul
def be:=@List.length_take
def bg:=@List.length_drop
def bm:=@Array.getElem?_setIfInBounds
def bp:=@List.take_succ_eq_append_getElem
def br:=@Nat.add_zero
def bz:=@Option.getD_some
def bA:=@Nat.ne_of_gt
def bB:=@Array.getElem?_eq_getElem
def bC:=@List.take_of_length_le
def bD:=@List.take_length
def bE:=@Bool.or_eq_true
def bL:=@List.set_cons_zero
def bM:=@List.getD_eq_getElem?_getD
def bR:=@List.mem_of_find?_eq_some
def bS:=@List.flatMap_cons
def bV:=@List.set_cons_succ
def bW:=@List.map_cons
def bY:=@List.all_eq_true
def b_:=@Nat.one_mul
def cz:=@Option.isSome_some
def cA:=@List.mem_singleton
def cB:=@List.getElem?_take
def cC:=@List.getElem?_append_right
def cG:=@List.take_append_drop
def cJ:=@Option.isSome_none
def cU:=@List.getElem?_append_left
def c8:=@Array.getElem?_replicate
def dh:=@Int.eq_ofNat_of_zero_le
def dJ:=@Option.getD_none
def dK:=@List.map_toArray
def dN:=@List.mem_range
def dO:=@List.drop_drop
def dP:=@Array.any_eq_true'
def dS:=@List.length_replicate
def dV:=@List.cons.injEq
def dW:=@List.append_nil
def dY:=@Value.slice.injEq
def dZ:=@List.map_nil
def d4:=@Int.toNat_natCast
def d5:=@Array.all_eq_true_iff_forall_mem
def eb:=@Nat.add_assoc
def ej:=@List.not_mem_nil
def eB:=@Option.map_eq_some_iff
def eC:=@Array.getElem?_eq_none
def eJ:=@List.sum_cons
def eO:=@List.getElem_take
def eV:=@Array.mk.injEq
def e_:=@Option.bind_some
def fd:=@Ne.symm
def fe:=@Nat.lt_or_ge
def fu:=@Nat.mul_le_mul_left
def fw:=@List.flatMap_append
def fB:=@List.mem_cons
def fI:=@UInt8.toNat_ofNat'
def fJ:=@Option.any_eq_true
def fK:=@List.mem_cons_self
def fL:=@List.contains_cons
def fN:=@List.getElem?_cons_zero
def fO:=@List.getElem?_cons_succ
def gm:=@Bool.and_true
def gp:=@List.mem_cons_of_mem
def gz:=@Option.map_some
def gA:=@List.map_append
def gG:=@List.replicate_succ
def gH:=@List.length_flatMap
def ii:=@UInt8.ofNat_toNat
def ij:=@List.getElem?_map
def ik:=@Array.toList_push
def iG:=@List.any_cons
def iH:=@Bool.false_or
def iR:=@List.getElem_set
def iT:=@List.cons_append
def ji:=@List.head?_eq_getElem?
def jj:=@Bool.or_comm
def jk:=@Array.ext'
def jx:=@List.nil_append
def jy:=@List.length_map
def jz:=@List.find?_cons
def jA:=@List.all_append
def jB:=@Bool.eq_iff_iff
def jK:=@List.getElem?_toArray
def jL:=@List.getElem?_eq_none
def jM:=@List.countP_singleton
def jU:=@Nat.mul_one
def jV:=@Nat.le_succ
def kE:=@ByteArray.ext
def kF:=@Bool.or_false
def kG:=@Bool.or_assoc
def lm:=@Nat.ne_of_lt
open Go.Proofs.Tryz
section
def kA (c:UInt8):Bool:=decide (97<=(c|||32).toNat/\(c|||32).toNat<=122)
def eF (c:UInt8):Bool:=decide (48<=c.toNat/\c.toNat<=57)
def eT (c:UInt8):Bool:=kA c||eF c||c==95
def Am (c:UInt8):Bool:=c==32||c==9||c==10||c==13
def Df:List (List UInt8):=[[118,97,114],[102,117,110,99],[105,102],[101,108,115,101],[119,104,105,108,101],[114,101,116,117,114,110]]
def uK (l:List UInt8):Bool:=Df.contains l
def bX (p:UInt8->Bool):List UInt8->Nat
 | []=>0
 |c::l=>if p c then bX p l+1 else 0
theorem gU (p:UInt8->Bool): ∀l,bX p l<=l.length
 | []=>ag _
 |c::l=>by
  simp only[bX];split
  ·have:=gU p l;simp;omega
  ·simp
theorem nz (p:UInt8->Bool): ∀(l:List UInt8) (j:Nat),j<=bX p l->bX p l=j+bX p (l.drop j)
 |l,0,_=>by simp
 | [],j+1,h=>by simp[bX]at h
 |c::l,j+1,h=>by
  simp only[bX]at h⊢;split at h
  ·rename_i hc;rw[if_pos hc,aa,nz p l j (by omega)];omega
  ·omega
theorem rW (p:UInt8->Bool) {l:List UInt8} {j:Nat} (h:j<l.length):bX p (l.drop j)=if p l[j]then bX p (l.drop (j+1))+1 else 0:=by
 rw[aw h];rfl
def cD:Bool->List UInt8->Nat
 | _,[]=>0
 |false,c::l=>if Am c then cD false l+1 else if c=47/\l.head? =some 47 then cD true l+1 else 0
 |true,c::l=>if c=10 then cD false l+1 else cD true l+1
theorem j5: ∀(b:Bool) (l:List UInt8),cD b l<=l.length
 |b,[]=>by cases b<;>simp[cD]
 |false,c::l=>by
  simp only[cD];split
  ·have:=j5 false l;simp;omega
  ·split
   ·have:=j5 true l;simp;omega
   ·simp
 |true,c::l=>by
  simp only[cD];split
  ·have:=j5 false l;simp;omega
  ·have:=j5 true l;simp;omega
def eZ:List UInt8->Nat:=bX (fun c=>c !=10)
theorem nA: ∀l,cD true l=eZ l+cD false (l.drop (eZ l))
 | []=>rfl
 |c::l=>by
  simp only[cD,eZ,bX];by_cases hc:c=10
  ·subst hc;have hb:((10:UInt8) !=10)=false:=by decide
   have hw:Am 10=true:=by decide
   rw[if_pos rfl,if_neg (by rw[hb];simp)];simp[cD,hw]
  ·have hb:(c !=10)=true:=by simp[hc]
   rw[if_neg hc,if_pos hb,nA l,aa];simp only[eZ];omega
theorem ow {l:List UInt8} (h: ∃r,l=47::47::r):cD false l=eZ l+cD false (l.drop (eZ l)):=by
 obtain⟨r,rfl⟩:=h;rw[<-nA];have h1:Am 47=false:=by decide
 have h2: ¬(47:UInt8)=10:=by decide
 simp[cD,h1,h2]
def ka (c:UInt8):Option UInt8:=if c=110 then some 10 else if c=116 then some 9 else if c=48 then some 0 else if c=92 then some 92 else if c=39 then some 39 else if c=34 then some 34 else none
def ch:List UInt8->UInt8×Nat
 | []=>(0,0)
 |c::r=>if c.toNat<32\/126<c.toNat then(0,0)else if c≠92 then(c,1)else match r with
  | []=>(0,0)
  |d::_=>match ka d with
   |some v=>(v,2)
   |none=>(0,0)
theorem kb (l:List UInt8):(ch l).2<=l.length/\(ch l).2<=2:=by
 match l with
 | []=>exact⟨ag _,by decide⟩
 | [c]=>
  simp only[ch];split
  ·exact⟨by simp,by simp⟩
  ·split
   ·exact⟨by simp,by simp⟩
   ·exact⟨by simp,by simp⟩
 |c::d::r=>
  simp only[ch];split
  ·exact⟨by simp,by simp⟩
  ·split
   ·exact⟨by simp,by simp⟩
   ·split<;>exact⟨by simp,by simp⟩
def mS:Nat->List UInt8->Option (List UInt8×Nat)
 |0,_=>none
 |f+1,m=>match m with
  | []=>none
  |c::r=>if c=34 then some ([],1)else if(ch (c::r)).2=0 then none else(mS f ((c::r).drop (ch (c::r)).2)).map fun x=>((ch (c::r)).1::x.1,(ch (c::r)).2+x.2)
theorem oT: ∀(f g:Nat) (m:List UInt8),m.length<=f->f<=g->mS g m=mS f m
 |0,g,m,h,_=>by
  have:m=[]:=aH (by omega);subst this
  cases g<;>rfl
 |f+1,0,m,h,hg=>by omega
 |f+1,g+1,m,h,hg=>by
  cases m with
  |nil=>rfl
  |cons c r=>
   simp only[mS];split
   ·rfl
   ·split
    ·rfl
    ·rename_i h0;rw[oT f g _ (by have:=kb (c::r);simp only[bg,ac]at h⊢;omega) (by omega)]
def js (m:List UInt8):Option (List UInt8×Nat):=mS m.length m
theorem xi (r:List UInt8):js (34::r)=some ([],1):=by simp[js,mS]
theorem xj {c:UInt8} {r:List UInt8} (h:c≠34) (h0:(ch (c::r)).2=0):js (c::r)=none:=by
 simp only[js,ac,mS];rw[if_neg h,if_pos h0]
theorem uI {c:UInt8} {r:List UInt8} (h:c≠34) (h0:(ch (c::r)).2≠0):js (c::r)=(js ((c::r).drop (ch (c::r)).2)).map fun x=>((ch (c::r)).1::x.1,(ch (c::r)).2+x.2):=by
 have hl:=kb (c::r);simp only[js,ac,mS];rw[if_neg h,if_neg h0,oT _ r.length _ (ag _) (by simp only[bg,ac];omega)]
def lQ (l:List UInt8):Nat:=l.foldl (fun v c=>v*10+(c.toNat-48)) 0
abbrev rA:=Except Int ((Int×List UInt8×Int)×Nat)
def jE (l:List UInt8):rA:=if uK (l.take (bX eT l))then .ok ((2,l.take (bX eT l),0),bX eT l)else if 14<bX eT l then .error 6 else .ok ((1,l.take (bX eT l),0),bX eT l)
def gV (l:List UInt8):rA:=
 if(l.drop (bX eF l)).head?.any eT then .error 3
 else if 10<bX eF l\/(1<bX eF l/\l.head? =some 48)\/2147483647<lQ (l.take (bX eF l))then .error 2
 else .ok ((3,[],lQ (l.take (bX eF l))),bX eF l)
def iz (l:List UInt8):rA:=
 if(ch (l.drop 1)).2=0\/(l.drop 1).head? =some 39\/(l.drop ((ch (l.drop 1)).2+1)).head? ≠some 39 then .error 3 else .ok ((3,[],((ch (l.drop 1)).1.toNat:Int)),(ch (l.drop 1)).2+2)
def iV (l:List UInt8):rA:=match js (l.drop 1)with
 |none=> .error 3
 |some (t,n)=>if 128<t.length then .error 6 else .ok ((4,t,0),n+1)
def two:List (List UInt8):=[[61,61],[33,61],[60,61],[62,61],[38,38],[124,124]]
def nH:List UInt8:=[40,41,123,125,91,93,44,59,61,43,45,42,47,37,60,62,33]
def ip (l:List UInt8):rA:=if two.contains (l.take 2)then .ok ((5,l.take 2,0),2)else if(l.head?.any fun c=>nH.contains c)then .ok ((5,l.take 1,0),1)else .error 3
def jX (l:List UInt8):rA:=match l with
 | []=> .error 3
 |c::r=>if kA c then jE (c::r)else if eF c then gV (c::r)else if c=39 then iz (c::r)else if c=34 then iV (c::r)else ip (c::r)
structure bK where
 k:Int
 t:List UInt8
 v:Int
 f:Int
deriving DecidableEq
def gq:Nat->List UInt8->Nat->Except (Nat×Int) (List bK)
 |0,_,_=> .ok []
 |f+1,m,at_=>
  match m.drop (cD false m)with
  | []=> .ok []
  |c::r=>match jX (c::r)with
   | .error e=> .error (at_+cD false m,e)
   | .ok ((k,t,v),n)=>match gq f ((c::r).drop n) (at_+cD false m+n)with
    | .error e=> .error e
    | .ok ts=> .ok (⟨k,t,v,(at_+cD false m:Nat)⟩::ts)
def mR (l:List UInt8):Except (Nat×Int) (List bK):=gq (l.length+1) l 0
def gc (l:List UInt8):List bK×Int×Int:=if 4000<l.length then([],4000,6)else match mR l with
 | .ok ts=>(ts,0,0)
 | .error (p,e)=>([],p,e)
end
section
inductive Ex where
 |mk (k:Int) (op nm tx:List UInt8) (v:Int) (args:List Ex)
inductive St where
 |mk (k:Int) (nm:List UInt8) (ex:List Ex) (body els:List St)
structure Vr where
 nm:List UInt8
 sz:Int
structure Fc where
 nm:List UInt8
 ps:List (List UInt8)
 body:List St
structure Pg where
 vs:List Vr
 fs:List Fc
def Ex.k:Ex->Int| .mk k _ _ _ _ _=>k
def Ex.op:Ex->List UInt8| .mk _ o _ _ _ _=>o
def Ex.nm:Ex->List UInt8| .mk _ _ n _ _ _=>n
def Ex.tx:Ex->List UInt8| .mk _ _ _ t _ _=>t
def Ex.v:Ex->Int| .mk _ _ _ _ v _=>v
def Ex.args:Ex->List Ex| .mk _ _ _ _ _ a=>a
def St.k:St->Int| .mk k _ _ _ _=>k
def St.nm:St->List UInt8| .mk _ n _ _ _=>n
def St.ex:St->List Ex| .mk _ _ e _ _=>e
def St.body:St->List St| .mk _ _ _ b _=>b
def St.els:St->List St| .mk _ _ _ _ e=>e
def zT:bK:=⟨0,[],0,0⟩
def cg:List bK->bK
 | []=>zT
 |t::_=>t
def cI (s:List UInt8) (l:List bK):Bool:=((cg l).k==5||(cg l).k==2)&&(cg l).t==s
theorem lI {s:List UInt8} {l:List bK} (h:cI s l=true):l≠ []:=by
 intro e;subst e;simp[cI,cg,zT]at h
theorem bq {s:List UInt8} {l:List bK} (h:cI s l=true):l.length=l.tail.length+1:=by
 cases l with
 |nil=>exact absurd rfl (lI h)
 |cons t r=>rfl
def Cr (en:Int):List bK->Int
 | []=>en
 |t::_=>t.f
def ky (s:List UInt8):Int:=
 if s=[124,124]then 1 else if s=[38,38]then 2 else if s=[61,61]then 3 else if s=[33,61]then 3
 else if s=[60]then 4 else if s=[60,61]then 4 else if s=[62]then 4 else if s=[62,61]then 4
 else if s=[43]then 5 else if s=[45]then 5 else if s=[42]then 6 else if s=[47]then 6 else if s=[37]then 6 else 0
theorem Bg (s:List UInt8):0<=ky s/\ky s<=6:=by
 unfold ky
 (repeat' split)<;>omega
abbrev PR (α:Type):=Except (List bK×Int) (α×List bK)
def PR.then {α β:Type} (x:PR α) (k:α->List bK->PR β):PR β:=match x with
 | .error e=> .error e
 | .ok (a,r)=>k a r
def bT (s:List UInt8) (l:List bK):PR Unit:=if cI s l then .ok ((),l.tail)else .error (l,3)
def gW (l:List bK):PR (List UInt8):=if(cg l).k=1 then .ok ((cg l).t,l.tail)else .error (l,3)
def lY:List UInt8:=[40]
def ko:List UInt8:=[41]
def Ca:List UInt8:=[123]
def BK:List UInt8:=[125]
def pL:List UInt8:=[91]
def rE:List UInt8:=[93]
def wF:List UInt8:=[44]
def uu:List UInt8:=[59]
def Ar:List UInt8:=[61]
def rF:List UInt8:=[45]
def th:List UInt8:=[33]
def lz:List UInt8:=[118,97,114]
def j6:List UInt8:=[102,117,110,99]
def Cb:List UInt8:=[105,102]
def As:List UInt8:=[101,108,115,101]
def r7:List UInt8:=[119,104,105,108,101]
def pK:List UInt8:=[114,101,116,117,114,110]
mutual
def bN:Nat->Int->List bK->PR Ex
 |0,_,l=> .error (l,0)
 |f+1,n,l=>(cE f l).then fun x r=>gI f n x r
def gI:Nat->Int->Ex->List bK->PR Ex
 |0,_,_,l=> .error (l,0)
 |f+1,n,x,l=>if(cg l).k=5/\n<=ky (cg l).t then(bN f (ky (cg l).t+1) l.tail).then fun y r=>gI f n (.mk 7 (cg l).t [] [] 0 [x,y]) r else .ok (x,l)
def cE:Nat->List bK->PR Ex
 |0,l=> .error (l,0)
 |f+1,l=>
  if(cg l).k=3 then .ok (.mk 1 [] [] [] (cg l).v [],l.tail)
  else if(cg l).k=4 then .ok (.mk 2 [] [] (cg l).t 0 [],l.tail)
  else if(cg l).k=1 then cj f (cg l).t l.tail
  else if cI rF l||cI th l then(cE f l.tail).then fun x r=> .ok (.mk 6 (cg l).t [] [] 0 [x],r)
  else(bT lY l).then fun _ r=>(bN f 1 r).then fun x r=>(bT ko r).then fun _ r=> .ok (x,r)
def cj:Nat->List UInt8->List bK->PR Ex
 |0,_,l=> .error (l,0)
 |f+1,nm,l=>
  if cI pL l then(bN f 1 l.tail).then fun x r=>(bT rE r).then fun _ r=> .ok (.mk 4 [] nm [] 0 [x],r)
  else if cI lY l then(fp f l.tail).then fun a r=> .ok (.mk 5 [] nm [] 0 a,r)
  else .ok (.mk 3 [] nm [] 0 [],l)
def fp:Nat->List bK->PR (List Ex)
 |0,l=> .error (l,0)
 |f+1,l=>if cI ko l then .ok ([],l.tail)else fX f [] l
def fX:Nat->List Ex->List bK->PR (List Ex)
 |0,_,l=> .error (l,0)
 |f+1,acc,l=>(bN f 1 l).then fun x r=>if cI ko r then .ok (acc++[x],r.tail)else(bT wF r).then fun _ r=>fX f (acc++[x]) r
end
mutual
def db:Nat->List bK->PR (List St)
 |0,l=> .error (l,0)
 |f+1,l=>(bT Ca l).then fun _ r=>eh f [] r
def eh:Nat->List St->List bK->PR (List St)
 |0,_,l=> .error (l,0)
 |f+1,acc,l=>if cI BK l then .ok (acc,l.tail)else(c_ f l).then fun s r=>eh f (acc++[s]) r
def m6:Nat->List bK->PR St
 |0,l=> .error (l,0)
 |f+1,l=>(bN f 1 l).then fun x r=>(db f r).then fun b r=>
  if cI As r then
   if cI Cb r.tail then(m6 f r.tail.tail).then fun s r=> .ok (.mk 4 [] [x] b [s],r)
   else(db f r.tail).then fun c r=> .ok (.mk 4 [] [x] b c,r)
  else .ok (.mk 4 [] [x] b [],r)
def c_:Nat->List bK->PR St
 |0,l=> .error (l,0)
 |f+1,l=>
  if cI Cb l then m6 f l.tail
  else if cI r7 l then(bN f 1 l.tail).then fun x r=>(db f r).then fun b r=> .ok (.mk 5 [] [x] b [],r)
  else if cI lz l then(gW l.tail).then fun nm r=>
   (if cI Ar r then(bN f 1 r.tail).then fun x r=> .ok ([x],r)else .ok ([],r)).then fun ex r=>(bT uu r).then fun _ r=> .ok (.mk 1 nm ex [] [],r)
  else if cI pK l then(if cI uu l.tail then .ok ([],l.tail)else(bN f 1 l.tail).then fun x r=> .ok ([x],r)).then fun ex r=>(bT uu r).then fun _ r=> .ok (.mk 6 [] ex [] [],r)
  else(gW l).then fun nm r=>
   (if cI lY r then(cj f nm r).then fun x r=> .ok (.mk 7 [] [x] [] [],r)
   else if cI pL r then(bN f 1 r.tail).then fun i r=>(bT rE r).then fun _ r=>(bT Ar r).then fun _ r=>(bN f 1 r).then fun x r=> .ok (.mk 3 nm [i,x] [] [],r)
   else(bT Ar r).then fun _ r=>(bN f 1 r).then fun x r=> .ok (.mk 2 nm [x] [] [],r)).then fun s r=>(bT uu r).then fun _ r=> .ok (s,r)
end
def i_ (l:List bK):PR Vr:=(gW l).then fun nm r=>
 (if cI pL r then
  if(cg r.tail).k=3 then
   if(cg r.tail).v<1\/2000<(cg r.tail).v then .error (r.tail,2)else(bT rE r.tail.tail).then fun _ q=> .ok ((cg r.tail).v,q)
  else .error (r.tail,3)
 else .ok (0,r)).then fun sz r=>(bT uu r).then fun _ r=> .ok (⟨nm,sz⟩,r)
def eP:Nat->List (List UInt8)->List bK->PR (List (List UInt8))
 |0,_,l=> .error (l,0)
 |f+1,acc,l=>(gW l).then fun x r=>if cI ko r then .ok (acc++[x],r.tail)else(bT wF r).then fun _ r=>eP f (acc++[x]) r
def eY (f:Nat) (l:List bK):PR (List (List UInt8)):=if cI ko l then .ok ([],l.tail)else eP f [] l
def jH (f:Nat) (l:List bK):PR Fc:=(gW l).then fun nm r=>(bT lY r).then fun _ r=>(eY f r).then fun ps r=>(db f r).then fun b r=> .ok (⟨nm,ps,b⟩,r)
def cR:Nat->Pg->List bK->PR Pg
 |0,_,l=> .error (l,0)
 |f+1,p,l=>if l=[]then .ok (p,[])
  else if cI lz l then(i_ l.tail).then fun v r=>cR f ⟨p.vs++[v],p.fs⟩ r
  else(bT j6 l).then fun _ r=>(jH f r).then fun c r=>cR f ⟨p.vs,p.fs++[c]⟩ r
theorem PR.then_ok {α β:Type} {x:PR α} {k:α->List bK->PR β} {b:β} {r:List bK} (h:x.then k= .ok (b,r)): ∃a q,x= .ok (a,q)/\k a q= .ok (b,r):=by
 unfold PR.then at h;split at h
 ·cases h
 ·exact⟨_,_,rfl,h⟩
theorem dQ {s:List UInt8} {l r:List bK} {u:Unit} (h:bT s l= .ok (u,r)):cI s l=true/\r=l.tail/\l.length=r.length+1:=by
 unfold bT at h;split at h
 ·rename_i h1;injection h with h;injection h with _ h;subst h;exact⟨h1,rfl,bq h1⟩
 ·cases h
theorem gK {l:List bK} (h:(cg l).k≠0):l.length=l.tail.length+1:=by
 cases l with
 |nil=>exact absurd rfl h
 |cons t r=>rfl
theorem j7 {l r:List bK} {nm:List UInt8} (h:gW l= .ok (nm,r)):(cg l).k=1/\nm=(cg l).t/\r=l.tail/\l.length=r.length+1:=by
 unfold gW at h;split at h
 ·rename_i h1;injection h with h;injection h with h2 h;subst h h2;exact⟨h1,rfl,rfl,gK (by rw[h1];decide)⟩
 ·cases h
theorem bx {α:Type} {a b:α} {r q:List bK} (h:(Except.ok (a,r):PR α)= .ok (b,q)):a=b/\r=q:=by
 injection h with h;injection h with h1 h2;exact⟨h1,h2⟩
theorem iu: ∀(f:Nat),
  (∀n l x r,bN f n l= .ok (x,r)->r.length<l.length)/\(∀n y l x r,gI f n y l= .ok (x,r)->r.length<=l.length)/\
  (∀l x r,cE f l= .ok (x,r)->r.length<l.length)/\(∀nm l x r,cj f nm l= .ok (x,r)->r.length<=l.length)/\
  (∀l x r,fp f l= .ok (x,r)->r.length<l.length)/\(∀acc l x r,fX f acc l= .ok (x,r)->r.length<l.length)
 |0=>by
  refine⟨?_,?_,?_,?_,?_,?_⟩;all_goals (intros;rename_i h;simp[bN,gI,cE,cj,fp,fX]at h)
 |f+1=>by
  obtain⟨iE,iL,iP,iN,iA,iB⟩:=iu f;refine⟨?_,?_,?_,?_,?_,?_⟩
  ·intro n l x r h;rw[bN]at h;obtain⟨a,q,h1,h2⟩:=PR.then_ok h;have:=iP _ _ _ h1;have:=iL _ _ _ _ _ h2;omega
  ·intro n y l x r h;rw[gI]at h;split at h
   ·rename_i hk;obtain⟨a,q,h1,h2⟩:=PR.then_ok h;have:=iE _ _ _ _ h1;have:=iL _ _ _ _ _ h2;have:=gK (l:=l) (by rw[hk.1];decide);omega
   ·rw[(bx h).2];exact ag _
  ·intro l x r h;rw[cE]at h;split at h
   ·rename_i hk;have:=gK (l:=l) (by rw[hk];decide);rw[<-(bx h).2];omega
   ·split at h
    ·rename_i hk;have:=gK (l:=l) (by rw[hk];decide);rw[<-(bx h).2];omega
    ·split at h
     ·rename_i hk;have:=gK (l:=l) (by rw[hk];decide);have:=iN _ _ _ _ h;omega
     ·split at h
      ·rename_i hk;obtain⟨a,q,h1,h2⟩:=PR.then_ok h;have:=iP _ _ _ h1;have h3:=(bx h2).2;have:l.length=l.tail.length+1:=by
        rw[bE]at hk;rcases hk with hk|hk<;>exact bq hk
       subst h3;omega
      ·obtain⟨a,q,h1,h2⟩:=PR.then_ok h;obtain⟨a',q',h3,h4⟩:=PR.then_ok h2;obtain⟨a'',q'',h5,h6⟩:=PR.then_ok h4;have:=(dQ h1).2.2;have:=iE _ _ _ _ h3;have:=(dQ h5).2.2;have h7:=(bx h6).2;subst h7;omega
  ·intro nm l x r h;rw[cj]at h;split at h
   ·rename_i hk;obtain⟨a,q,h1,h2⟩:=PR.then_ok h;obtain⟨a',q',h3,h4⟩:=PR.then_ok h2;have:=bq hk;have:=iE _ _ _ _ h1;have:=(dQ h3).2.2;have h7:=(bx h4).2;subst h7;omega
   ·split at h
    ·rename_i hk;obtain⟨a,q,h1,h2⟩:=PR.then_ok h;have:=bq hk;have:=iA _ _ _ h1;have h7:=(bx h2).2;subst h7;omega
    ·have:=(bx h).2;subst this;omega
  ·intro l x r h;rw[fp]at h;split at h
   ·rename_i hk;have:=bq hk;have h7:=(bx h).2;subst h7;omega
   ·exact iB _ _ _ _ h
  ·intro acc l x r h;rw[fX]at h;obtain⟨a,q,h1,h2⟩:=PR.then_ok h;have:=iE _ _ _ _ h1;split at h2
   ·rename_i hk;have:=bq hk;have h7:=(bx h2).2;subst h7;omega
   ·obtain⟨a',q',h3,h4⟩:=PR.then_ok h2;have:=(dQ h3).2.2;have:=iB _ _ _ _ h4;omega
theorem mW: ∀(f:Nat),
  (∀l x r,db f l= .ok (x,r)->r.length<l.length)/\(∀acc l x r,eh f acc l= .ok (x,r)->r.length<l.length)/\
  (∀l x r,m6 f l= .ok (x,r)->r.length<l.length)/\(∀l x r,c_ f l= .ok (x,r)->r.length<l.length)
 |0=>by
  refine⟨?_,?_,?_,?_⟩;all_goals (intros;rename_i h;simp[db,eh,m6,c_]at h)
 |f+1=>by
  obtain⟨iB,iC,iI,iS⟩:=mW f;obtain⟨iE,_,_,iN,_,_⟩:=iu f;refine⟨?_,?_,?_,?_⟩
  ·intro l x r h;rw[db]at h;obtain⟨a,q,h1,h2⟩:=PR.then_ok h;have:=(dQ h1).2.2;have:=iC _ _ _ _ h2;omega
  ·intro acc l x r h;rw[eh]at h;split at h
   ·rename_i hk;have:=bq hk;have h7:=(bx h).2;subst h7;omega
   ·obtain⟨a,q,h1,h2⟩:=PR.then_ok h;have:=iS _ _ _ h1;have:=iC _ _ _ _ h2;omega
  ·intro l x r h;rw[m6]at h;obtain⟨a,q,h1,h2⟩:=PR.then_ok h;obtain⟨a',q',h3,h4⟩:=PR.then_ok h2;have:=iE _ _ _ _ h1;have:=iB _ _ _ h3;split at h4
   ·rename_i hk;have:=bq hk;split at h4
    ·rename_i hk2;have:=bq hk2;obtain⟨a2,q2,h5,h6⟩:=PR.then_ok h4;have:=iI _ _ _ h5;have h7:=(bx h6).2;subst h7;omega
    ·obtain⟨a2,q2,h5,h6⟩:=PR.then_ok h4;have:=iB _ _ _ h5;have h7:=(bx h6).2;subst h7;omega
   ·have h7:=(bx h4).2;subst h7;omega
  ·intro l x r h;rw[c_]at h;split at h
   ·rename_i hk;have:=bq hk;have:=iI _ _ _ h;omega
   split at h
   ·rename_i hk;have:=bq hk;obtain⟨a,q,h1,h2⟩:=PR.then_ok h;obtain⟨a',q',h3,h4⟩:=PR.then_ok h2;have:=iE _ _ _ _ h1;have:=iB _ _ _ h3;have h7:=(bx h4).2;subst h7;omega
   split at h
   ·rename_i hk;have:=bq hk;obtain⟨a,q,h1,h2⟩:=PR.then_ok h;obtain⟨a',q',h3,h4⟩:=PR.then_ok h2;obtain⟨a2,q2,h5,h6⟩:=PR.then_ok h4;have:=(j7 h1).2.2.2;have:=(dQ h5).2.2;have h7:=(bx h6).2;subst h7;split at h3
    ·rename_i hk2;have:=bq hk2;obtain⟨a3,q3,h8,h9⟩:=PR.then_ok h3;have:=iE _ _ _ _ h8;have h10:=(bx h9).2;subst h10;omega
    ·have h10:=(bx h3).2;subst h10;omega
   split at h
   ·rename_i hk;have:=bq hk;obtain⟨a',q',h3,h4⟩:=PR.then_ok h;obtain⟨a2,q2,h5,h6⟩:=PR.then_ok h4;have:=(dQ h5).2.2;have h7:=(bx h6).2;subst h7;split at h3
    ·have h10:=(bx h3).2;subst h10;omega
    ·obtain⟨a3,q3,h8,h9⟩:=PR.then_ok h3;have:=iE _ _ _ _ h8;have h10:=(bx h9).2;subst h10;omega
   ·obtain⟨a,q,h1,h2⟩:=PR.then_ok h;obtain⟨a',q',h3,h4⟩:=PR.then_ok h2;obtain⟨a2,q2,h5,h6⟩:=PR.then_ok h4;have:=(j7 h1).2.2.2;have:=(dQ h5).2.2;have h7:=(bx h6).2;subst h7;split at h3
    ·obtain⟨a3,q3,h8,h9⟩:=PR.then_ok h3;have:=iN _ _ _ _ h8;have h10:=(bx h9).2;subst h10;omega
    ·split at h3
     ·rename_i hk;have:=bq hk;obtain⟨b1,r1,g1,g2⟩:=PR.then_ok h3;obtain⟨b2,r2,g3,g4⟩:=PR.then_ok g2;obtain⟨b3,r3,g5,g6⟩:=PR.then_ok g4;obtain⟨b4,r4,g7,g8⟩:=PR.then_ok g6;have:=iE _ _ _ _ g1;have:=(dQ g3).2.2;have:=(dQ g5).2.2;have:=iE _ _ _ _ g7;have h10:=(bx g8).2;subst h10;omega
     ·obtain⟨b1,r1,g1,g2⟩:=PR.then_ok h3;obtain⟨b2,r2,g3,g4⟩:=PR.then_ok g2;have:=(dQ g1).2.2;have:=iE _ _ _ _ g3;have h10:=(bx g4).2;subst h10;omega
end
section
def o7:List (List UInt8×Int×List UInt8):=
 [([101,120,105,116],0,[105]),
 ([107,105,108,108],4,[105]),
 ([103,114,111,119],6,[105]),
 ([99,108,111,115,101],8,[105]),
 ([115,101,114,118,101],16,[105]),
 ([100,105,97,108],17,[105]),
 ([115,108,101,101,112],19,[105]),
 ([102,111,114,107],1,[]),
 ([119,97,105,116],3,[]),
 ([115,101,108,102],5,[]),
 ([112,105,112,101],11,[]),
 ([116,105,109,101],18,[]),
 ([100,117,112],12,[105,105]),
 ([101,120,101,99],2,[115]),
 ([117,110,108,105,110,107],13,[115]),
 ([109,107,100,105,114],14,[115]),
 ([111,112,101,110],7,[115,105]),
 ([114,101,97,100],9,[105,97,105]),
 ([119,114,105,116,101],10,[105,98,105])]
abbrev Bi:=Option (Int×List UInt8)
def dR (s:List UInt8):Bi:=(o7.find? (fun x=>x.1==s)).map (·.2)
def yv (s:List UInt8):Bool:=(dR s).isSome
def jb (b:Bi) (i:Nat):Bool:=match b with
 |none=>true
 |some (_,a)=>decide (a.length<=i)||a.getD i 0==105
def qR (op:List UInt8):Bool:=op==[38,38]||op==[124,124]
mutual
def cN:Ex->Nat
 | .mk k op nm tx v a=>if k=4\/k=6 then gd 1 a else if k=7 then eQ (qR op) 0 1 a else if k=5 then ep (dR nm) 0 0 1 a else 1
def gd:Nat->List Ex->Nat
 |m,[]=>m
 |m,y::r=>gd (max m (cN y)) r
def eQ (lg:Bool):Nat->Nat->List Ex->Nat
 |i,m,[]=>m
 |i,m,y::r=>eQ lg (i+1) (max m (if 0<i/\lg=false then cN y+1 else cN y)) r
def ep (b:Bi):Nat->Nat->Nat->List Ex->Nat
 |i,fr,m,[]=>m
 |i,fr,m,y::r=>if jb b i=true then ep b (i+1) (fr+1) (max m (fr+cN y)) r else ep b (i+1) fr m r
end
mutual
def p_:St->Nat
 | .mk k _ _ b e=>(if k=1 then 1 else 0)+(eH b+eH e)
def eH:List St->Nat
 | []=>0
 |s::r=>p_ s+eH r
end
def fZ (f:Fc):Nat:=4*(8+f.ps.length+eH f.body)
mutual
def Ci:St->Bool
 | .mk _ _ x b e=>x.any (fun y=>decide (7<cN y))||(kU b||kU e)
def kU:List St->Bool
 | []=>false
 |s::r=>Ci s||kU r
end
abbrev Er:=List UInt8×Int
structure Gl where
 arr:List UInt8->Option Int
 int:List UInt8->Bool
 fn:List UInt8->Option Nat
abbrev Ls:=List UInt8->Bool
def eG:Ls:=fun _=>false
def Ls.add (l:Ls) (s:List UInt8):Ls:=fun x=>x==s||l x
def Gl.known (g:Gl) (lo:Ls) (s:List UInt8):Bool:=(g.arr s).isSome||((g.fn s).isSome||(g.int s||(lo s||yv s)))
abbrev CR:=Except Er Unit
def CR.then {α:Type} (x:Except Er α) {β:Type} (k:α->Except Er β):Except Er β:=match x with
 | .error e=> .error e
 | .ok a=>k a
theorem fA {α β:Type} (e:Er) (k:α->Except Er β):CR.then (.error e) k= .error e:=rfl
theorem de {α β:Type} (a:α) (k:α->Except Er β):CR.then (.ok a) k=k a:=rfl
def nV (g:Gl) (lo:Ls) (s:List UInt8):CR:=if(lo s||g.int s)=true then .ok ()else if g.known lo s=true then .error (s,16)else .error (s,15)
def jd (g:Gl) (lo:Ls) (s:List UInt8):CR:=if(g.arr s).isSome=true then .ok ()else if g.known lo s=true then .error (s,16)else .error (s,15)
def oa (c:UInt8) (k:Int):Bool:=(c==115&&k !=2)||((c==97&&k !=3)||(c==98&&(k !=3&&k !=2)))
def uJ (b:Bi) (i:Nat):UInt8:=match b with
 |none=>0
 |some (_,a)=>a.getD i 0
def pd (g:Gl) (nm:List UInt8):Option Nat:=match dR nm with
 |some (_,a)=>some a.length
 |none=>g.fn nm
mutual
def kK (g:Gl) (lo:Ls):Ex->CR
 | .mk k op nm tx v a=>
  if k=3 then nV g lo nm
  else if k=4 then CR.then (jd g lo nm) fun _=>lR g lo a
  else if k=2 then .error ([],16)
  else if k=5 then match pd g nm with
   |none=> .error (nm,15)
   |some n=>if n=a.length then lh g lo nm (dR nm) 0 a else .error (nm,16)
  else if k=6\/k=7 then lR g lo a
  else .ok ()
def lR (g:Gl) (lo:Ls):List Ex->CR
 | []=> .ok ()
 |y::r=>CR.then (kK g lo y) fun _=>lR g lo r
def lh (g:Gl) (lo:Ls) (nm:List UInt8) (b:Bi):Nat->List Ex->CR
 | _,[]=> .ok ()
 |i,y::r=>CR.then (if jb b i=true then kK g lo y else if oa (uJ b i) y.k=true then .error (nm,16)else if y.k=3 then jd g lo y.nm else .ok ()) fun _=>lh g lo nm b (i+1) r
end
abbrev SR:=Except Er Ls
mutual
def mT (g:Gl):Ls->St->SR
 |lo, .mk k nm ex bd el=>
  CR.then (if k=2 then nV g lo nm else if k=3 then jd g lo nm else .ok ()) fun _=>
  CR.then (lR g lo ex) fun _=>
  CR.then (if k=1 then(if g.known lo nm=true then .error (nm,9)else .ok (lo.add nm))else .ok lo) fun lo1=>
  CR.then (eI g lo1 bd) fun lo2=>eI g lo2 el
def eI (g:Gl):Ls->List St->SR
 |lo,[]=> .ok lo
 |lo,s::r=>CR.then (mT g lo s) fun lo1=>eI g lo1 r
end
def Gl.addV (g:Gl) (v:Vr):Gl:=if 0<v.sz then{g with arr:=fun x=>if x=v.nm then some v.sz else g.arr x}else{g with int:=fun x=>x==v.nm||g.int x}
def Gl.addF (g:Gl) (f:Fc):Gl:={g with fn:=fun x=>if x=f.nm then some f.ps.length else g.fn x}
def i':Gl:=⟨fun _=>none,fun _=>false,fun _=>none⟩
def bw:List UInt8:=[109,97,105,110]
def ic:Gl->List Vr->Except Er Gl
 |g,[]=> .ok g
 |g,v::r=>if g.known eG v.nm=true then .error (v.nm,9)else ic (g.addV v) r
def gB:Gl->List Fc->Except Er Gl
 |g,[]=> .ok g
 |g,f::r=>if g.known eG f.nm=true then .error (f.nm,9)else gB (g.addF f) r
def kO (p:Pg):Except Er Gl:=
 CR.then (ic i' p.vs) fun g=>CR.then (gB g p.fs) fun g=>match g.fn bw with
  |none=> .error (bw,8)
  |some n=>if 0<n then .error (bw,16)else .ok g
def mu (g:Gl):Ls->List (List UInt8)->SR
 |lo,[]=> .ok lo
 |lo,p::r=>if g.known lo p=true then .error (p,9)else mu g (lo.add p) r
def gY (g:Gl):List Fc->CR
 | []=> .ok ()
 |f::r=>CR.then (mu g eG f.ps) fun lo=>CR.then (eI g lo f.body) fun _=>gY g r
def eS:List Fc->CR
 | []=> .ok ()
 |f::r=>if 20<f.ps.length+eH f.body\/kU f.body=true then .error (f.nm,6)else eS r
def fE (p:Pg):CR:=CR.then (kO p) fun g=>CR.then (gY g p.fs) fun _=>eS p.fs
end
section
def kM (v:Int):Int:=IntKind.wrap .i32 v
def l5 (b:Bool):Int:=if b=true then 1 else 0
structure Ms where
 ints:List UInt8->Int
 arrs:List UInt8->List UInt8
 left:Nat
 stk:Nat
 used:Nat
structure Oc where
 kind:Int
 call:Int
 a0:Int
 a1:Int
 a2:Int
 data:List UInt8
 used:Nat
abbrev ER (α:Type):=Except Oc (α×Ms)
def ER.then {α β:Type} (x:ER α) (k:α->Ms->ER β):ER β:=match x with
 | .error e=> .error e
 | .ok (a,s)=>k a s
theorem ed {α β:Type} (e:Oc) (k:α->Ms->ER β):ER.then (.error e) k= .error e:=rfl
theorem d_ {α β:Type} (a:α) (s:Ms) (k:α->Ms->ER β):ER.then (.ok (a,s)) k=k a s:=rfl
def Ms.fails (s:Ms):Oc:=⟨2,0,0,0,0,[],s.used⟩
def Ms.long (s:Ms):Oc:=⟨3,0,0,0,0,[],s.used⟩
abbrev Rs:=List (Int×List UInt8)
def fx (R:Rs) (s:Ms) (call a0 a1 a2:Int) (data:List UInt8):ER (Int×List UInt8):=match R[s.used]? with
 |none=> .error ⟨1,call,a0,a1,a2,data,s.used⟩
 |some r=> .ok (r,{s with used:=s.used+1})
abbrev Lo:=List UInt8->Option Int
def Lo.upd (l:Lo) (s:List UInt8) (v:Int):Lo:=fun x=>if x=s then some v else l x
def Ms.setI (s:Ms) (nm:List UInt8) (v:Int):Ms:={s with ints:=fun x=>if x=nm then v else s.ints x}
def Ms.setA (s:Ms) (nm:List UInt8) (a:List UInt8):Ms:={s with arrs:=fun x=>if x=nm then a else s.arrs x}
inductive Dt where
 |no
 |txt (t:List UInt8)
 |arr (nm:List UInt8)
def Dt.rd (s:Ms):Dt->List UInt8
 | .no=>[]
 | .txt t=>t
 | .arr nm=>s.arrs nm
def Dt.put (s:Ms) (n:Nat) (r:List UInt8):Dt->Ms
 | .no=>s
 | .txt _=>s
 | .arr nm=>s.setA nm (r.take n++(s.arrs nm).drop (min n r.length))
def dr (E:Ms->Ex->ER Int):List UInt8->List Ex->List Int->Int->Dt->Ms->ER (List Int×Int×Dt)
 |c::ls,y::ys,vs,la,d,s=>if c=105 then(E s y).then fun v s=>dr E ls ys (vs++[v]) v d s else if y.k=2 then dr E ls ys vs la (.txt y.tx) s else dr E ls ys vs la (.arr y.nm) s
 | _,_,vs,la,d,s=> .ok ((vs,la,d),s)
def kY (R:Rs) (call:Int) (vs:List Int) (la:Int) (d:Dt) (s:Ms):ER Int:=
 if call≠9/\call≠10 then(fx R s call (vs.getD 0 0) (vs.getD 1 0) (vs.getD 2 0) (d.rd s)).then fun r s=> .ok (kM r.1,s)
 else if la<0\/(d.rd s).length<la\/128<la then .error s.fails
 else if call=10 then(fx R s call (vs.getD 0 0) 0 0 ((d.rd s).take la.toNat)).then fun r s=> .ok (kM r.1,s)
 else(fx R s call (vs.getD 0 0) (vs.getD 1 0) (vs.getD 2 0) []).then fun r s=> .ok (kM r.1,d.put s la.toNat r.2)
def mx (R:Rs) (E:Ms->Ex->ER Int) (s:Ms) (call:Int) (ls:List UInt8) (a:List Ex):ER Int:=(dr E ls a [] 0 .no s).then fun p s=>kY R call p.1 p.2.1 p.2.2 s
def tL (E:Ms->Ex->ER Int):List Int->Ms->List Ex->ER (List Int)
 |vs,s,[]=> .ok (vs,s)
 |vs,s,y::r=>(E s y).then fun v s=>tL E (vs++[v]) s r
def qi:Lo->List (List UInt8)->List Int->Lo
 |l,p::ps,v::vs=>qi (l.upd p v) ps vs
 |l,_,_=>l
mutual
def sH:Lo->St->Lo
 |l, .mk k nm _ b e=>f5 (f5 (if k=1 then l.upd nm 0 else l) b) e
def f5:Lo->List St->Lo
 |l,[]=>l
 |l,s::r=>f5 (sH l s) r
end
abbrev k_:=ER (Option Int×Lo)
def lw (S:Ms->Lo->St->k_):Ms->Lo->List St->k_
 |s,l,[]=> .ok ((none,l),s)
 |s,l,x::r=>(S s l x).then fun p s=>match p.1 with
  |some v=> .ok ((some v,p.2),s)
  |none=>lw S s p.2 r
def fq (S:Ms->Lo->St->k_) (f:Fc) (vs:List Int) (s:Ms):ER Int:=
 if 1024<s.stk+fZ f then .error s.fails
 else(lw S {s with stk:=s.stk+fZ f} (f5 (qi (fun _=>none) f.ps vs) f.body) f.body).then fun p s=> .ok (p.1.getD 0,{s with stk:=s.stk-fZ f})
def ig (op:List UInt8) (a b:Int) (s:Ms):ER Int:=
 if op=[43]then .ok (kM (a+b),s)else if op=[45]then .ok (kM (a-b),s)else if op=[42]then .ok (kM (a*b),s)
 else if op=[47]\/op=[37]then(if b=0 then .error s.fails else if op=[47]then .ok (kM (a.tdiv b),s)else .ok (kM (a.tmod b),s))
 else if op=[61,61]then .ok (l5 (a==b),s)else if op=[33,61]then .ok (l5 (a !=b),s)else if op=[60]then .ok (l5 (decide (a<b)),s)
 else if op=[60,61]then .ok (l5 (decide (a<=b)),s)else if op=[62]then .ok (l5 (decide (b<a)),s)else .ok (l5 (decide (b<=a)),s)
structure Cx where
 fn:List UInt8->Fc
 R:Rs
def nf:Ex:= .mk 0 [] [] [] 0 []
def Ms.step (s:Ms):Ms:={s with left:=s.left-1}
def mI (op:List UInt8):Bool:=op==[38,38]
def qT (op:List UInt8):Bool:=op==[124,124]
mutual
def ev (C:Cx):Nat->Ms->Lo->Ex->ER Int
 |0,s,_,_=> .error s.long
 |n+1,s,l,x=>
  if s.left=0 then .error s.long
  else if x.k=1 then .ok (kM x.v,s.step)
  else if x.k=3 then .ok ((l x.nm).getD (s.ints x.nm),s.step)
  else if x.k=4 then(ev C n s.step l (x.args.getD 0 nf)).then fun i s=>if 0<=i/\i<(s.arrs x.nm).length then .ok ((((s.arrs x.nm).getD i.toNat 0).toNat:Int),s)else .error s.fails
  else if x.k=5 then(match dR x.nm with
   |some (c,ls)=>mx C.R (fun s y=>ev C n s l y) s.step c ls x.args
   |none=>(tL (fun s y=>ev C n s l y) [] s.step x.args).then fun vs s=>fq (fun s l y=>st C n s l y) (C.fn x.nm) vs s)
  else if x.k=6 then(ev C n s.step l (x.args.getD 0 nf)).then fun a s=>if x.op=[33]then .ok (l5 (a==0),s)else .ok (kM (-a),s)
  else(ev C n s.step l (x.args.getD 0 nf)).then fun a s=>
   if mI x.op=true/\a=0 then .ok (0,s)else if qT x.op=true/\a≠0 then .ok (1,s)
   else(ev C n s l (x.args.getD 1 nf)).then fun b s=>if(mI x.op||qT x.op)=true then .ok (l5 (b !=0),s)else ig x.op a b s
def st (C:Cx):Nat->Ms->Lo->St->k_
 |0,s,_,_=> .error s.long
 |n+1,s,l,x=>
  if s.left=0 then .error s.long
  else if x.k=5 then wh C n s.step l (x.ex.getD 0 nf) x.body
  else(if x.ex=[]then .ok (0,s.step)else ev C n s.step l (x.ex.getD 0 nf):ER Int).then fun v s=>
   if x.k=1 then .ok ((none,l.upd x.nm v),s)
   else if x.k=2 then(if(l x.nm).isSome=true then .ok ((none,l.upd x.nm v),s)else .ok ((none,l),s.setI x.nm v))
   else if x.k=3 then(ev C n s l (x.ex.getD 1 nf)).then fun u s=>if 0<=v/\v<(s.arrs x.nm).length then .ok ((none,l),s.setA x.nm ((s.arrs x.nm).set v.toNat (UInt8.ofNat (u%256).toNat)))else .error s.fails
   else if x.k=4 then lw (fun s l y=>st C n s l y) s l (if v≠0 then x.body else x.els)
   else if x.k=6 then .ok ((some v,l),s)
   else .ok ((none,l),s)
def wh (C:Cx):Nat->Ms->Lo->Ex->List St->k_
 |0,s,_,_,_=> .error s.long
 |n+1,s,l,c,b=>(ev C n s l c).then fun v s=>if v=0 then .ok ((none,l),s)else(lw (fun s l y=>st C n s l y) s l b).then fun p s=>match p.1 with
  |some v=> .ok ((some v,p.2),s)
  |none=>wh C n s p.2 c b
end
section
variable {C:Cx} {n:Nat} {s:Ms} {l:Lo} {op nm tx:List UInt8} {v:Int} {a:List Ex} {e:List Ex} {b c:List St}
theorem AB (h:s.left≠0):ev C (n+1) s l (.mk 1 op nm tx v a)= .ok (kM v,s.step):=by rw[ev,if_neg h];rfl
theorem Cm (h:s.left≠0):ev C (n+1) s l (.mk 3 op nm tx v a)= .ok ((l nm).getD (s.ints nm),s.step):=by rw[ev,if_neg h];rfl
theorem Cl (h:s.left≠0):ev C (n+1) s l (.mk 4 op nm tx v a)=(ev C n s.step l (a.getD 0 nf)).then fun i s=>if 0<=i/\i<(s.arrs nm).length then .ok ((((s.arrs nm).getD i.toNat 0).toNat:Int),s)else .error s.fails:=by rw[ev,if_neg h];rfl
theorem AA (h:s.left≠0):ev C (n+1) s l (.mk 5 op nm tx v a)=match dR nm with
  |some (c,ls)=>mx C.R (fun s y=>ev C n s l y) s.step c ls a
  |none=>(tL (fun s y=>ev C n s l y) [] s.step a).then fun vs s=>fq (fun s l y=>st C n s l y) (C.fn nm) vs s:=by rw[ev,if_neg h];rfl
theorem Az (h:s.left≠0):ev C (n+1) s l (.mk 6 op nm tx v a)=(ev C n s.step l (a.getD 0 nf)).then fun a s=>if op=[33]then .ok (l5 (a==0),s)else .ok (kM (-a),s):=by rw[ev,if_neg h];rfl
theorem Ay (h:s.left≠0):ev C (n+1) s l (.mk 7 op nm tx v a)=(ev C n s.step l (a.getD 0 nf)).then fun x s=>
   if mI op=true/\x=0 then .ok (0,s)else if qT op=true/\x≠0 then .ok (1,s)
   else(ev C n s l (a.getD 1 nf)).then fun b s=>if(mI op||qT op)=true then .ok (l5 (b !=0),s)else ig op x b s:=by rw[ev,if_neg h];rfl
def val (C:Cx) (n:Nat) (s:Ms) (l:Lo) (e:List Ex):ER Int:=if e=[]then .ok (0,s)else ev C n s l (e.getD 0 nf)
theorem B6 (h:s.left≠0):st C (n+1) s l (.mk 1 nm e b c)=(val C n s.step l e).then fun v s=> .ok ((none,l.upd nm v),s):=by rw[st,if_neg h];rfl
theorem B5 (h:s.left≠0):st C (n+1) s l (.mk 2 nm e b c)=(val C n s.step l e).then fun v s=>if(l nm).isSome=true then .ok ((none,l.upd nm v),s)else .ok ((none,l),s.setI nm v):=by rw[st,if_neg h];rfl
theorem B4 (h:s.left≠0):st C (n+1) s l (.mk 3 nm e b c)=(val C n s.step l e).then fun v s=>(ev C n s l (e.getD 1 nf)).then fun u s=>if 0<=v/\v<(s.arrs nm).length then .ok ((none,l),s.setA nm ((s.arrs nm).set v.toNat (UInt8.ofNat (u%256).toNat)))else .error s.fails:=by rw[st,if_neg h];rfl
theorem BZ (h:s.left≠0):st C (n+1) s l (.mk 4 nm e b c)=(val C n s.step l e).then fun v s=>lw (fun s l y=>st C n s l y) s l (if v≠0 then b else c):=by rw[st,if_neg h];rfl
theorem BY (h:s.left≠0):st C (n+1) s l (.mk 5 nm e b c)=wh C n s.step l (e.getD 0 nf) b:=by rw[st,if_neg h];rfl
theorem wq (h:s.left≠0):st C (n+1) s l (.mk 6 nm e b c)=(val C n s.step l e).then fun v s=> .ok ((some v,l),s):=by rw[st,if_neg h];rfl
theorem wn (h:s.left≠0):st C (n+1) s l (.mk 7 nm e b c)=(val C n s.step l e).then fun v s=> .ok ((none,l),s):=by rw[st,if_neg h];rfl
end
def fR:List Vr->List UInt8->List UInt8
 | [],_=>[]
 |v::r,s=>if s=v.nm/\0<v.sz then List.replicate v.sz.toNat 0 else fR r s
def gP:List Fc->List UInt8->Fc
 | [],_=>⟨[],[],[]⟩
 |f::r,s=>if s=f.nm then f else gP r s
def cx (p:Pg) (R:Rs):Cx:=⟨gP p.fs,R⟩
def vH (p:Pg) (n:Nat):Ms:=⟨fun _=>0,fR p.vs,n,0,0⟩
def wH (p:Pg) (R:Rs) (k n:Nat):Oc:=
 match ((fq (fun s l y=>st (cx p R) k s l y) (gP p.fs bw) [] (vH p n)).then fun v s=>(fx R s 0 (v%256) 0 0 []).then fun _ s=> .error s.long:ER Unit)with
 | .error o=>o
 | .ok (_,s)=>s.long
def kx (p:Pg) (R:Rs) (n:Nat):Oc:=wH p R (2*n) n
def aM:=@PR.then_ok
end
end Go.Proofs.YtddomeddabfinaaGreatDoor
