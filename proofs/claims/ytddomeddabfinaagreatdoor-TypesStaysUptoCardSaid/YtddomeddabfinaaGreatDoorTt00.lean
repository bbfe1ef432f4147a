/- Parts of the proof. -/
import Derived.KernelRfl
import Derived.Test.YtddomeddabfinaaGreatDoorProg
set_option maxRecDepth 100000
set_option maxHeartbeats 8000000
set_option linter.unusedVariables false
set_option linter.unusedSimpArgs false
set_option linter.defProp false
set_option linter.unusedSectionVars false
namespace Go.Proofs.YtddomeddabfinaaGreatDoor
theorem Ql {α:Type _} [BEq α] [LawfulBEq α] {a b:α}:(a==b)=false↔a≠b:=beq_eq_false_iff_ne
theorem Qa {p:Prop} (h:p:=by omega):p:=h
theorem Qb {p:Prop} (h:p:=by kernel_rfl):p:=h
theorem Qc {p:Prop} (h:p:=by decide):p:=h
theorem Qd {p:Prop} (h:p:=by simp):p:=h
theorem Qe {p:Prop} (h:p:=by rfl):p:=h
theorem Qf {p:Prop} (h:p:=by simp[IntKind.wrap,IntKind.signed,IntKind.bits];omega):p:=h
theorem Qg {p:Prop} (h:p:=by unfold maxLen;omega):p:=h
theorem Qh {p:Prop} (h:p:=by simp;omega):p:=h
theorem Qi {p:Prop} (h:p:=by simp only[maxLen];omega):p:=h
theorem Qj {p:Prop} (h:p:=by decide+kernel):p:=h
theorem Qk {p:Prop} (h:p:=by simp[go_sem]):p:=h
def I:=@Option.some.inj
def ac:=@List.length_append
def ae:=@List.drop_succ_cons
def ag:=@Bool.and_eq_true
def ah:=@List.length_cons
def ai:=@List.length_nil
def ak:=@Nat.le_refl
def aq:=@List.append_assoc
def au:=@List.drop_zero
def ax:=@List.eq_nil_of_length_eq_zero
def ay:=@List.getElem_mem
def aA:=@Array.getD_eq_getD_getElem?
def aD:=@List.drop_eq_getElem_cons
def aE:=@And.intro
def aF:=@Nat.lt_of_lt_of_le
def aG:=@Nat.zero_add
def aH:=@List.cons_append
def aI:=@Nat.zero_le
def aK:=@List.getElem_cons_zero
def aL:=@List.drop_of_length_le
def aM:=@Nat.le_of_lt
def aO:=@List.getElem?_eq_getElem
def aP:=@List.nil_append
def aQ:=@List.drop_nil
def aR:=@Nat.le_trans
def aT:=@Bool.false_eq_true
def aV:=@List.getElem_cons_succ
def aX:=@List.take_succ_eq_append_getElem
def bp:=@Nat.zero_mul
def br:=@List.setIfInBounds_toArray
def bx:=@List.flatMap_cons
def bB:=@Array.getElem?_setIfInBounds
def bC:=@List.take_of_length_le
def bD:=@List.length_drop
def bE:=@Nat.add_zero
def bF:=@List.map_cons
def bH:=@Array.getElem?_eq_getElem
def bJ:=@Bool.or_eq_true
def bL:=@List.getElem?_take
def bM:=@Option.getD_some
def bN:=@List.length_take
def bP:=@Nat.ne_of_gt
def bU:=@List.take_length
def cf:=@List.all_eq_true
def cg:=@List.set_cons_zero
def ch:=@List.getD_eq_getElem?_getD
def cr:=@List.mem_of_find?_eq_some
def cw:=@List.set_cons_succ
def cC:=@List.getElem?_append_right
def cL:=@Nat.one_mul
def cM:=@List.mem_cons_of_mem
def cP:=@List.mem_singleton
def cT:=@List.append_nil
def cY:=@List.map_nil
def c8:=@Option.isSome_some
def df:=@List.getElem?_append_left
def dm:=@List.take_append_drop
def dq:=@Option.isSome_none
def dr:=@List.mem_cons_self
def dw:=@List.not_mem_nil
def dQ:=@List.map_toArray
def dT:=@Nat.add_assoc
def dU:=@List.map_map
def dV:=@List.all_cons
def dW:=@Array.getElem?_replicate
def d5:=@Value.slice.injEq
def d6:=@Int.eq_ofNat_of_zero_le
def d9:=@List.map_append
def d_:=@List.cons.injEq
def eq:=@List.sum_cons
def ew:=@List.mem_cons
def eC:=@Option.getD_none
def eH:=@List.mem_range
def eI:=@List.drop_drop
def eJ:=@Array.any_eq_true'
def eQ:=@List.length_map
def eS:=@Int.toNat_natCast
def eT:=@Array.all_eq_true_iff_forall_mem
def fx:=@List.getElem?_cons_zero
def fA:=@List.getElem?_cons_succ
def fB:=@Array.mk.injEq
def fM:=@UInt8.toNat_ofNat'
def fN:=@Option.map_eq_some_iff
def fO:=@Array.getElem?_eq_none
def fW:=@UInt8.ofNat_toNat
def gn:=@Option.bind_some
def gp:=@Ne.symm
def gq:=@Nat.lt_succ_self
def gt:=@Nat.lt_or_ge
def gC:=@Nat.mul_le_mul_left
def gD:=@List.flatMap_append
def gL:=@Option.map_some
def gM:=@Bool.eq_iff_iff
def gP:=@Option.any_eq_true
def gQ:=@List.contains_cons
def gS:=@Int.le_refl
def gV:=@Option.some.injEq
def gW:=@List.getElem_take
def iy:=@Bool.and_true
def iV:=@Nat.not_lt_zero
def iW:=@List.all_append
def i_:=@List.replicate_succ
def i':=@List.length_flatMap
def jJ:=@List.getElem?_map
def jK:=@Bool.not_eq_true'
def jL:=@Array.toList_push
def j7:=@List.any_cons
def j8:=@ByteArray.ext
def j9:=@Bool.false_or
def ke:=@List.getElem_set
def kf:=@Eq.trans
def kF:=@List.range_succ_eq_map
def kG:=@List.head?_eq_getElem?
def kH:=@Bool.or_comm
def kI:=@Array.ext'
def lh:=@List.sum_append
def li:=@List.find?_cons
def lq:=@List.length_replicate
def lr:=@List.getElem?_toArray
def lu:=@List.getElem?_eq_none
def lw:=@List.countP_singleton
def lI:=@Nat.mul_one
def lJ:=@Nat.le_succ
def lK:=@List.drop_left
def mI:=@Bool.or_false
def mJ:=@Bool.or_assoc
def na:=@Nat.ne_of_lt
def nc:=@List.sum_nil
open Go.Proofs.Tryz
section
def io (c:UInt8):Bool:=decide (97<=(c|||32).toNat/\(c|||32).toNat<=122)
def eG (c:UInt8):Bool:=decide (48<=c.toNat/\c.toNat<=57)
def fd (c:UInt8):Bool:=io c||eG c||c==95
def uB (c:UInt8):Bool:=c==32||c==9||c==10||c==13
def GM:List (List UInt8):=[[118,97,114],[102,117,110,99],[105,102],[101,108,115,101],[119,104,105,108,101],[114,101,116,117,114,110]]
def sY (l:List UInt8):Bool:=GM.contains l
def cm (p:UInt8->Bool):List UInt8->Nat
 | []=>0
 |c::l=>if p c then cm p l+1 else 0
theorem jx (p:UInt8->Bool): ∀l,cm p l<=l.length
 | []=>ak _
 |c::l=>by
  simp only[cm];split
  ·have:=jx p l;simp;omega
  ·simp
theorem pC (p:UInt8->Bool): ∀(l:List UInt8) (a:Nat),a<=cm p l->cm p l=a+cm p (l.drop a)
 |l,0,_=>by simp
 | [],a+1,h=>by simp[cm]at h
 |c::l,a+1,h=>by
  simp only[cm]at h⊢;split at h
  ·rename_i j;rw[if_pos j,ae,pC p l a Qa];omega
  ·omega
theorem uT (p:UInt8->Bool) {l:List UInt8} {a:Nat} (h:a<l.length):cm p (l.drop a)=if p l[a]then cm p (l.drop (a+1))+1 else 0:=by
 rw[aD h];rfl
def cJ:Bool->List UInt8->Nat
 | _,[]=>0
 |false,c::l=>if uB c then cJ false l+1 else if c=47/\l.head? =some 47 then cJ true l+1 else 0
 |true,c::l=>if c=10 then cJ false l+1 else cJ true l+1
theorem lP: ∀(b:Bool) (l:List UInt8),cJ b l<=l.length
 |b,[]=>by cases b<;>simp[cJ]
 |false,c::l=>by
  simp only[cJ];split
  ·have:=lP false l;simp;omega
  ·split
   ·have:=lP true l;simp;omega
   ·simp
 |true,c::l=>by
  simp only[cJ];split
  ·have:=lP false l;simp;omega
  ·have:=lP true l;simp;omega
def gg:List UInt8->Nat:=cm (λc=>c !=10)
theorem pF: ∀l,cJ true l=gg l+cJ false (l.drop (gg l))
 | []=>rfl
 |c::l=>by
  simp only[cJ,gg,cm];by_cases hc:c=10
  ·subst hc;have a:((10:UInt8) !=10)=false:=Qc
   have h:uB 10=true:=Qc
   rw[if_pos rfl,if_neg (by rw[a];simp)];simp[cJ,h]
  ·have a:(c !=10)=true:=by simp[hc]
   rw[if_neg hc,if_pos a,pF l,ae];simp only[gg];omega
theorem qy {l:List UInt8} (j: ∃r,l=47::47::r):cJ false l=gg l+cJ false (l.drop (gg l)):=by
 obtain⟨r,rfl⟩:=j;rw[<-pF];have h:uB 47=false:=Qc
 have a: ¬(47:UInt8)=10:=Qc
 simp[cJ,h,a]
def lB (c:UInt8):Option UInt8:=if c=110 then some 10 else if c=116 then some 9 else if c=48 then some 0 else if c=92 then some 92 else if c=39 then some 39 else if c=34 then some 34 else none
def cA:List UInt8->UInt8×Nat
 | []=>(0,0)
 |c::r=>if c.toNat<32\/126<c.toNat then(0,0)else if c≠92 then(c,1)else match r with
  | []=>(0,0)
  |d::_=>match lB d with
   |some v=>(v,2)
   |none=>(0,0)
theorem l9 (l:List UInt8):(cA l).2<=l.length/\(cA l).2<=2:=by
 match l with
 | []=>exact⟨ak _,by decide⟩
 | [c]=>
  simp only[cA];split
  ·exact⟨by simp,by simp⟩
  ·split
   ·exact⟨by simp,by simp⟩
   ·exact⟨by simp,by simp⟩
 |c::d::r=>
  simp only[cA];split
  ·exact⟨by simp,by simp⟩
  ·split
   ·exact⟨by simp,by simp⟩
   ·split<;>exact⟨by simp,by simp⟩
def oS:Nat->List UInt8->Option (List UInt8×Nat)
 |0,_=>none
 |f+1,m=>match m with
  | []=>none
  |c::r=>if c=34 then some ([],1)else if(cA (c::r)).2=0 then none else(oS f ((c::r).drop (cA (c::r)).2)).map λx=>((cA (c::r)).1::x.1,(cA (c::r)).2+x.2)
theorem rg: ∀(f g:Nat) (m:List UInt8),m.length<=f->f<=g->oS g m=oS f m
 |0,g,m,h,_=>by
  have:m=[]:=ax Qa;subst this
  cases g<;>rfl
 |f+1,0,m,h,hg=>by omega
 |f+1,g+1,m,h,hg=>by
  cases m with
  |nil=>rfl
  |cons c r=>
   simp only[oS];split
   ·rfl
   ·split
    ·rfl
    ·rename_i a;rw[rg f g _ (by have:=l9 (c::r);simp only[bD,ah]at h⊢;omega) Qa]
def ku (m:List UInt8):Option (List UInt8×Nat):=oS m.length m
theorem tS (r:List UInt8):ku (34::r)=some ([],1):=by simp[ku,oS]
theorem AT {c:UInt8} {r:List UInt8} (h:c≠34) (a:(cA (c::r)).2=0):ku (c::r)=none:=by
 simp only[ku,ah,oS];rw[if_neg h,if_pos a]
theorem q8 {c:UInt8} {r:List UInt8} (h:c≠34) (a:(cA (c::r)).2≠0):ku (c::r)=(ku ((c::r).drop (cA (c::r)).2)).map λx=>((cA (c::r)).1::x.1,(cA (c::r)).2+x.2):=by
 have j:=l9 (c::r);simp only[ku,ah,oS];rw[if_neg h,if_neg a,rg _ r.length _ (ak _) (by simp only[bD,ah];omega)]
def mb (l:List UInt8):Nat:=l.foldl (λv c=>v*10+(c.toNat-48)) 0
abbrev ut:=Except Int ((Int×List UInt8×Int)×Nat)
def kh (l:List UInt8):ut:=if sY (l.take (cm fd l))then .ok ((2,l.take (cm fd l),0),cm fd l)else if 14<cm fd l then .error 6 else .ok ((1,l.take (cm fd l),0),cm fd l)
def ji (l:List UInt8):ut:=
 if(l.drop (cm eG l)).head?.any fd then .error 3
 else if 10<cm eG l\/(1<cm eG l/\l.head? =some 48)\/2147483647<mb (l.take (cm eG l))then .error 2
 else .ok ((3,[],mb (l.take (cm eG l))),cm eG l)
def jZ (l:List UInt8):ut:=
 if(cA (l.drop 1)).2=0\/(l.drop 1).head? =some 39\/(l.drop ((cA (l.drop 1)).2+1)).head? ≠some 39 then .error 3 else .ok ((3,[],((cA (l.drop 1)).1.toNat:Int)),(cA (l.drop 1)).2+2)
def jM (l:List UInt8):ut:=match ku (l.drop 1)with
 |none=> .error 3
 |some (t,n)=>if 128<t.length then .error 6 else .ok ((4,t,0),n+1)
def two:List (List UInt8):=[[61,61],[33,61],[60,61],[62,61],[38,38],[124,124]]
def lR:List UInt8:=[40,41,123,125,91,93,44,59,61,43,45,42,47,37,60,62,33]
def ja (l:List UInt8):ut:=if two.contains (l.take 2)then .ok ((5,l.take 2,0),2)else if(l.head?.any λc=>lR.contains c)then .ok ((5,l.take 1,0),1)else .error 3
def iF (l:List UInt8):ut:=match l with
 | []=> .error 3
 |c::r=>if io c then kh (c::r)else if eG c then ji (c::r)else if c=39 then jZ (c::r)else if c=34 then jM (c::r)else ja (c::r)
structure bT where
 k:Int
 t:List UInt8
 v:Int
 f:Int
deriving DecidableEq
def gT:Nat->List UInt8->Nat->Except (Nat×Int) (List bT)
 |0,_,_=> .ok []
 |f+1,m,at_=>
  match m.drop (cJ false m)with
  | []=> .ok []
  |c::r=>match iF (c::r)with
   | .error e=> .error (at_+cJ false m,e)
   | .ok ((k,t,v),n)=>match gT f ((c::r).drop n) (at_+cJ false m+n)with
    | .error e=> .error e
    | .ok ts=> .ok (⟨k,t,v,(at_+cJ false m:Nat)⟩::ts)
def nV (l:List UInt8):Except (Nat×Int) (List bT):=gT (l.length+1) l 0
def gG (l:List UInt8):List bT×Int×Int:=if 4000<l.length then([],4000,6)else match nV l with
 | .ok ts=>(ts,0,0)
 | .error (p,e)=>([],p,e)
inductive Ex where
 |mk (k:Int) (op nm tx:List UInt8) (v:Int) (args:List Ex)
inductive St where
 |mk (k:Int) (nm:List UInt8) (ex:List Ex) (body els:List St)
structure Vr where
 nm:List UInt8
 sz:Int
structure Fc where
 nm:List UInt8
 ps:List (List UInt8)
 body:List St
structure Pg where
 vs:List Vr
 fs:List Fc
def Ex.k:Ex->Int| .mk k _ _ _ _ _=>k
def Ex.op:Ex->List UInt8| .mk _ o _ _ _ _=>o
def Ex.nm:Ex->List UInt8| .mk _ _ n _ _ _=>n
def Ex.tx:Ex->List UInt8| .mk _ _ _ t _ _=>t
def Ex.v:Ex->Int| .mk _ _ _ _ v _=>v
def Ex.args:Ex->List Ex| .mk _ _ _ _ _ a=>a
def St.k:St->Int| .mk k _ _ _ _=>k
def St.nm:St->List UInt8| .mk _ n _ _ _=>n
def St.ex:St->List Ex| .mk _ _ e _ _=>e
def St.body:St->List St| .mk _ _ _ b _=>b
def St.els:St->List St| .mk _ _ _ _ e=>e
def zT:bT:=⟨0,[],0,0⟩
def cO:List bT->bT
 | []=>zT
 |t::_=>t
def bX (s:List UInt8) (l:List bT):Bool:=((cO l).k==5||(cO l).k==2)&&(cO l).t==s
theorem lY {s:List UInt8} {l:List bT} (a:bX s l=true):l≠ []:=by
 intro e;subst e;simp[bX,cO,zT]at a
theorem bG {s:List UInt8} {l:List bT} (a:bX s l=true):l.length=l.tail.length+1:=by
 cases l with
 |nil=>exact absurd rfl (lY a)
 |cons t r=>rfl
def Gz (en:Int):List bT->Int
 | []=>en
 |t::_=>t.f
def im (s:List UInt8):Int:=
 if s=[124,124]then 1 else if s=[38,38]then 2 else if s=[61,61]then 3 else if s=[33,61]then 3
 else if s=[60]then 4 else if s=[60,61]then 4 else if s=[62]then 4 else if s=[62,61]then 4
 else if s=[43]then 5 else if s=[45]then 5 else if s=[42]then 6 else if s=[47]then 6 else if s=[37]then 6 else 0
theorem AU (s:List UInt8):0<=im s/\im s<=6:=by
 unfold im
 (repeat' split)<;>omega
abbrev PR (α:Type):=Except (List bT×Int) (α×List bT)
def PR.then {α β:Type} (x:PR α) (k:α->List bT->PR β):PR β:=match x with
 | .error e=> .error e
 | .ok (a,r)=>k a r
def bw (s:List UInt8) (l:List bT):PR Unit:=if bX s l then .ok ((),l.tail)else .error (l,3)
def iH (l:List bT):PR (List UInt8):=if(cO l).k=1 then .ok ((cO l).t,l.tail)else .error (l,3)
def kV:List UInt8:=[40]
def je:List UInt8:=[41]
def FQ:List UInt8:=[123]
def Ek:List UInt8:=[125]
def mV:List UInt8:=[91]
def qz:List UInt8:=[93]
def uY:List UInt8:=[44]
def mu:List UInt8:=[59]
def uX:List UInt8:=[61]
def sV:List UInt8:=[45]
def ux:List UInt8:=[33]
def lz:List UInt8:=[118,97,114]
def jO:List UInt8:=[102,117,110,99]
def Cc:List UInt8:=[105,102]
def qQ:List UInt8:=[101,108,115,101]
def pJ:List UInt8:=[119,104,105,108,101]
def np:List UInt8:=[114,101,116,117,114,110]
mutual
def bS:Nat->Int->List bT->PR Ex
 |0,_,l=> .error (l,0)
 |f+1,n,l=>(cF f l).then λx r=>gB f n x r
def gB:Nat->Int->Ex->List bT->PR Ex
 |0,_,_,l=> .error (l,0)
 |f+1,n,x,l=>if(cO l).k=5/\n<=im (cO l).t then(bS f (im (cO l).t+1) l.tail).then λy r=>gB f n (.mk 7 (cO l).t [] [] 0 [x,y]) r else .ok (x,l)
def cF:Nat->List bT->PR Ex
 |0,l=> .error (l,0)
 |f+1,l=>
  if(cO l).k=3 then .ok (.mk 1 [] [] [] (cO l).v [],l.tail)
  else if(cO l).k=4 then .ok (.mk 2 [] [] (cO l).t 0 [],l.tail)
  else if(cO l).k=1 then cG f (cO l).t l.tail
  else if bX sV l||bX ux l then(cF f l.tail).then λx r=> .ok (.mk 6 (cO l).t [] [] 0 [x],r)
  else(bw kV l).then λ_ r=>(bS f 1 r).then λx r=>(bw je r).then λ_ r=> .ok (x,r)
def cG:Nat->List UInt8->List bT->PR Ex
 |0,_,l=> .error (l,0)
 |f+1,nm,l=>
  if bX mV l then(bS f 1 l.tail).then λx r=>(bw qz r).then λ_ r=> .ok (.mk 4 [] nm [] 0 [x],r)
  else if bX kV l then(fS f l.tail).then λa r=> .ok (.mk 5 [] nm [] 0 a,r)
  else .ok (.mk 3 [] nm [] 0 [],l)
def fS:Nat->List bT->PR (List Ex)
 |0,l=> .error (l,0)
 |f+1,l=>if bX je l then .ok ([],l.tail)else fV f [] l
def fV:Nat->List Ex->List bT->PR (List Ex)
 |0,_,l=> .error (l,0)
 |f+1,acc,l=>(bS f 1 l).then λx r=>if bX je r then .ok (acc++[x],r.tail)else(bw uY r).then λ_ r=>fV f (acc++[x]) r
end
mutual
def dn:Nat->List bT->PR (List St)
 |0,l=> .error (l,0)
 |f+1,l=>(bw FQ l).then λ_ r=>d7 f [] r
def d7:Nat->List St->List bT->PR (List St)
 |0,_,l=> .error (l,0)
 |f+1,acc,l=>if bX Ek l then .ok (acc,l.tail)else(dg f l).then λs r=>d7 f (acc++[s]) r
def nP:Nat->List bT->PR St
 |0,l=> .error (l,0)
 |f+1,l=>(bS f 1 l).then λx r=>(dn f r).then λb r=>
  if bX qQ r then
   if bX Cc r.tail then(nP f r.tail.tail).then λs r=> .ok (.mk 4 [] [x] b [s],r)
   else(dn f r.tail).then λc r=> .ok (.mk 4 [] [x] b c,r)
  else .ok (.mk 4 [] [x] b [],r)
def dg:Nat->List bT->PR St
 |0,l=> .error (l,0)
 |f+1,l=>
  if bX Cc l then nP f l.tail
  else if bX pJ l then(bS f 1 l.tail).then λx r=>(dn f r).then λb r=> .ok (.mk 5 [] [x] b [],r)
  else if bX lz l then(iH l.tail).then λnm r=>
   (if bX uX r then(bS f 1 r.tail).then λx r=> .ok ([x],r)else .ok ([],r)).then λex r=>(bw mu r).then λ_ r=> .ok (.mk 1 nm ex [] [],r)
  else if bX np l then(if bX mu l.tail then .ok ([],l.tail)else(bS f 1 l.tail).then λx r=> .ok ([x],r)).then λex r=>(bw mu r).then λ_ r=> .ok (.mk 6 [] ex [] [],r)
  else(iH l).then λnm r=>
   (if bX kV r then(cG f nm r).then λx r=> .ok (.mk 7 [] [x] [] [],r)
   else if bX mV r then(bS f 1 r.tail).then λi r=>(bw qz r).then λ_ r=>(bw uX r).then λ_ r=>(bS f 1 r).then λx r=> .ok (.mk 3 nm [i,x] [] [],r)
   else(bw uX r).then λ_ r=>(bS f 1 r).then λx r=> .ok (.mk 2 nm [x] [] [],r)).then λs r=>(bw mu r).then λ_ r=> .ok (s,r)
end
def jy (l:List bT):PR Vr:=(iH l).then λnm r=>
 (if bX mV r then
  if(cO r.tail).k=3 then
   if(cO r.tail).v<1\/2000<(cO r.tail).v then .error (r.tail,2)else(bw qz r.tail.tail).then λ_ q=> .ok ((cO r.tail).v,q)
  else .error (r.tail,3)
 else .ok (0,r)).then λsz r=>(bw mu r).then λ_ r=> .ok (⟨nm,sz⟩,r)
def eM:Nat->List (List UInt8)->List bT->PR (List (List UInt8))
 |0,_,l=> .error (l,0)
 |f+1,acc,l=>(iH l).then λx r=>if bX je r then .ok (acc++[x],r.tail)else(bw uY r).then λ_ r=>eM f (acc++[x]) r
def fe (f:Nat) (l:List bT):PR (List (List UInt8)):=if bX je l then .ok ([],l.tail)else eM f [] l
def jz (f:Nat) (l:List bT):PR Fc:=(iH l).then λnm r=>(bw kV r).then λ_ r=>(fe f r).then λps r=>(dn f r).then λb r=> .ok (⟨nm,ps,b⟩,r)
def de:Nat->Pg->List bT->PR Pg
 |0,_,l=> .error (l,0)
 |f+1,p,l=>if l=[]then .ok (p,[])
  else if bX lz l then(jy l.tail).then λv r=>de f ⟨p.vs++[v],p.fs⟩ r
  else(bw jO l).then λ_ r=>(jz f r).then λc r=>de f ⟨p.vs,p.fs++[c]⟩ r
theorem PR.then_ok {α h:Type} {x:PR α} {k:α->List bT->PR h} {b:h} {r:List bT} (a:x.then k=.ok (b,r)): ∃j q,x=.ok (j,q)/\k j q=.ok (b,r):=by
 unfold PR.then at a;split at a
 ·cases a
 ·exact⟨_,_,rfl,a⟩
theorem eK {s:List UInt8} {l r:List bT} {u:Unit} (a:bw s l=.ok (u,r)):bX s l=true/\r=l.tail/\l.length=r.length+1:=by
 unfold bw at a;split at a
 ·rename_i h;injection a with a;injection a with _ a;subst a;exact⟨h,rfl,bG h⟩
 ·cases a
theorem jc {l:List bT} (a:(cO l).k≠0):l.length=l.tail.length+1:=by
 cases l with
 |nil=>exact absurd rfl a
 |cons t r=>rfl
theorem lT {l r:List bT} {nm:List UInt8} (a:iH l=.ok (nm,r)):(cO l).k=1/\nm=(cO l).t/\r=l.tail/\l.length=r.length+1:=by
 unfold iH at a;split at a
 ·rename_i h;injection a with a;injection a with j a;subst a j;exact⟨h,rfl,rfl,jc (by rw[h];decide)⟩
 ·cases a
theorem bI {α:Type} {h b:α} {r q:List bT} (a:(Except.ok (h,r):PR α)=.ok (b,q)):h=b/\r=q:=by
 injection a with a;injection a with o j;exact⟨o,j⟩
theorem jV: ∀(f:Nat),
  (∀n l x r,bS f n l=.ok (x,r)->r.length<l.length)/\(∀n y l x r,gB f n y l=.ok (x,r)->r.length<=l.length)/\
  (∀l x r,cF f l=.ok (x,r)->r.length<l.length)/\(∀nm l x r,cG f nm l=.ok (x,r)->r.length<=l.length)/\
  (∀l x r,fS f l=.ok (x,r)->r.length<l.length)/\(∀X l x r,fV f X l=.ok (x,r)->r.length<l.length)
 |0=>by
  refine⟨?_,?_,?_,?_,?_,?_⟩;all_goals (intros;rename_i a;simp[bS,gB,cF,cG,fS,fV]at a)
 |f+1=>by
  obtain⟨K,R,O,ab,ac,V⟩:=jV f;refine⟨?_,?_,?_,?_,?_,?_⟩
  ·intro n l x r a;rw[bS]at a;obtain⟨A,q,o,j⟩:=PR.then_ok a;have:=O _ _ _ o;have:=R _ _ _ _ _ j;omega
  ·intro n y l x r a;rw[gB]at a;split at a
   ·rename_i h;obtain⟨A,q,o,j⟩:=PR.then_ok a;have:=K _ _ _ _ o;have:=R _ _ _ _ _ j;have:=jc (l:=l) (by rw[h.1];decide);omega
   ·rw[(bI a).2];exact ak _
  ·intro l x r a;rw[cF]at a;split at a
   ·rename_i h;have:=jc (l:=l) (by rw[h];decide);rw[<-(bI a).2];omega
   ·split at a
    ·rename_i h;have:=jc (l:=l) (by rw[h];decide);rw[<-(bI a).2];omega
    ·split at a
     ·rename_i h;have:=jc (l:=l) (by rw[h];decide);have:=ab _ _ _ _ a;omega
     ·split at a
      ·rename_i h;obtain⟨A,q,o,j⟩:=PR.then_ok a;have:=O _ _ _ o;have z:=(bI j).2;have:l.length=l.tail.length+1:=by
        rw[bJ]at h;rcases h with h|h<;>exact bG h
       subst z;omega
      ·obtain⟨A,q,o,j⟩:=PR.then_ok a;obtain⟨I,M,z,G⟩:=PR.then_ok j;obtain⟨ag,af,ae,ad⟩:=PR.then_ok G;have:=(eK o).2.2;have:=K _ _ _ _ z;have:=(eK ae).2.2;have w:=(bI ad).2;subst w;omega
  ·intro nm l x r a;rw[cG]at a;split at a
   ·rename_i h;obtain⟨A,q,o,j⟩:=PR.then_ok a;obtain⟨I,M,z,G⟩:=PR.then_ok j;have:=bG h;have:=K _ _ _ _ o;have:=(eK z).2.2;have w:=(bI G).2;subst w;omega
   ·split at a
    ·rename_i h;obtain⟨A,q,o,j⟩:=PR.then_ok a;have:=bG h;have:=ac _ _ _ o;have w:=(bI j).2;subst w;omega
    ·have:=(bI a).2;subst this;omega
  ·intro l x r a;rw[fS]at a;split at a
   ·rename_i h;have:=bG h;have w:=(bI a).2;subst w;omega
   ·exact V _ _ _ _ a
  ·intro X l x r a;rw[fV]at a;obtain⟨A,q,o,j⟩:=PR.then_ok a;have:=K _ _ _ _ o;split at j
   ·rename_i h;have:=bG h;have w:=(bI j).2;subst w;omega
   ·obtain⟨I,M,z,G⟩:=PR.then_ok j;have:=(eK z).2.2;have:=V _ _ _ _ G;omega
theorem oX: ∀(f:Nat),
  (∀l x r,dn f l=.ok (x,r)->r.length<l.length)/\(∀an l x r,d7 f an l=.ok (x,r)->r.length<l.length)/\
  (∀l x r,nP f l=.ok (x,r)->r.length<l.length)/\(∀l x r,dg f l=.ok (x,r)->r.length<l.length)
 |0=>by
  refine⟨?_,?_,?_,?_⟩;all_goals (intros;rename_i a;simp[dn,d7,nP,dg]at a)
 |f+1=>by
  obtain⟨ae,J,al,ar⟩:=oX f;obtain⟨O,_,_,au,_,_⟩:=jV f;refine⟨?_,?_,?_,?_⟩
  ·intro l x r a;rw[dn]at a;obtain⟨X,q,G,A⟩:=PR.then_ok a;have:=(eK G).2.2;have:=J _ _ _ _ A;omega
  ·intro an l x r a;rw[d7]at a;split at a
   ·rename_i o;have:=bG o;have j:=(bI a).2;subst j;omega
   ·obtain⟨X,q,G,A⟩:=PR.then_ok a;have:=ar _ _ _ G;have:=J _ _ _ _ A;omega
  ·intro l x r a;rw[nP]at a;obtain⟨X,q,G,A⟩:=PR.then_ok a;obtain⟨ad,ab,h,w⟩:=PR.then_ok A;have:=O _ _ _ _ G;have:=ae _ _ _ h;split at w
   ·rename_i o;have:=bG o;split at w
    ·rename_i af;have:=bG af;obtain⟨ac,I,M,K⟩:=PR.then_ok w;have:=al _ _ _ M;have j:=(bI K).2;subst j;omega
    ·obtain⟨ac,I,M,K⟩:=PR.then_ok w;have:=ae _ _ _ M;have j:=(bI K).2;subst j;omega
   ·have j:=(bI w).2;subst j;omega
  ·intro l x r a;rw[dg]at a;split at a
   ·rename_i o;have:=bG o;have:=al _ _ _ a;omega
   split at a
   ·rename_i o;have:=bG o;obtain⟨X,q,G,A⟩:=PR.then_ok a;obtain⟨ad,ab,h,w⟩:=PR.then_ok A;have:=O _ _ _ _ G;have:=ae _ _ _ h;have j:=(bI w).2;subst j;omega
   split at a
   ·rename_i o;have:=bG o;obtain⟨X,q,G,A⟩:=PR.then_ok a;obtain⟨ad,ab,h,w⟩:=PR.then_ok A;obtain⟨ac,I,M,K⟩:=PR.then_ok w;have:=(lT G).2.2.2;have:=(eK M).2.2;have j:=(bI K).2;subst j;split at h
    ·rename_i af;have:=bG af;obtain⟨ao,ak,V,R⟩:=PR.then_ok h;have:=O _ _ _ _ V;have z:=(bI R).2;subst z;omega
    ·have z:=(bI h).2;subst z;omega
   split at a
   ·rename_i o;have:=bG o;obtain⟨ad,ab,h,w⟩:=PR.then_ok a;obtain⟨ac,I,M,K⟩:=PR.then_ok w;have:=(eK M).2.2;have j:=(bI K).2;subst j;split at h
    ·have z:=(bI h).2;subst z;omega
    ·obtain⟨ao,ak,V,R⟩:=PR.then_ok h;have:=O _ _ _ _ V;have z:=(bI R).2;subst z;omega
   ·obtain⟨X,q,G,A⟩:=PR.then_ok a;obtain⟨ad,ab,h,w⟩:=PR.then_ok A;obtain⟨ac,I,M,K⟩:=PR.then_ok w;have:=(lT G).2.2.2;have:=(eK M).2.2;have j:=(bI K).2;subst j;split at h
    ·obtain⟨ao,ak,V,R⟩:=PR.then_ok h;have:=au _ _ _ _ V;have z:=(bI R).2;subst z;omega
    ·split at h
     ·rename_i o;have:=bG o;obtain⟨aA,aq,aj,ai⟩:=PR.then_ok h;obtain⟨az,ap,ah,ag⟩:=PR.then_ok ai;obtain⟨aE,aC,ay,ax⟩:=PR.then_ok ag;obtain⟨aD,aB,aw,av⟩:=PR.then_ok ax;have:=O _ _ _ _ aj;have:=(eK ah).2.2;have:=(eK ay).2.2;have:=O _ _ _ _ aw;have z:=(bI av).2;subst z;omega
     ·obtain⟨aA,aq,aj,ai⟩:=PR.then_ok h;obtain⟨az,ap,ah,ag⟩:=PR.then_ok ai;have:=(eK aj).2.2;have:=O _ _ _ _ ah;have z:=(bI ag).2;subst z;omega
end
section
def rC:List (List UInt8×Int×List UInt8):=
 [([101,120,105,116],0,[105]),
 ([107,105,108,108],4,[105]),
 ([103,114,111,119],6,[105]),
 ([99,108,111,115,101],8,[105]),
 ([115,101,114,118,101],16,[105]),
 ([100,105,97,108],17,[105]),
 ([115,108,101,101,112],19,[105]),
 ([102,111,114,107],1,[]),
 ([119,97,105,116],3,[]),
 ([115,101,108,102],5,[]),
 ([112,105,112,101],11,[]),
 ([116,105,109,101],18,[]),
 ([100,117,112],12,[105,105]),
 ([101,120,101,99],2,[115]),
 ([117,110,108,105,110,107],13,[115]),
 ([109,107,100,105,114],14,[115]),
 ([111,112,101,110],7,[115,105]),
 ([114,101,97,100],9,[105,97,105]),
 ([119,114,105,116,101],10,[105,98,105])]
abbrev Bi:=Option (Int×List UInt8)
def fp (s:List UInt8):Bi:=(rC.find? (λx=>x.1==s)).map (·.2)
def Ce (s:List UInt8):Bool:=(fp s).isSome
def lA (b:Bi) (i:Nat):Bool:=match b with
 |none=>true
 |some (_,a)=>decide (a.length<=i)||a.getD i 0==105
def vQ (op:List UInt8):Bool:=op==[38,38]||op==[124,124]
mutual
def dZ:Ex->Nat
 | .mk k op nm tx v a=>if k=4\/k=6 then iG 1 a else if k=7 then ge (vQ op) 0 1 a else if k=5 then gd (fp nm) 0 0 1 a else 1
def iG:Nat->List Ex->Nat
 |m,[]=>m
 |m,y::r=>iG (max m (dZ y)) r
def ge (lg:Bool):Nat->Nat->List Ex->Nat
 |i,m,[]=>m
 |i,m,y::r=>ge lg (i+1) (max m (if 0<i/\lg=false then dZ y+1 else dZ y)) r
def gd (b:Bi):Nat->Nat->Nat->List Ex->Nat
 |i,fr,m,[]=>m
 |i,fr,m,y::r=>if lA b i=true then gd b (i+1) (fr+1) (max m (fr+dZ y)) r else gd b (i+1) fr m r
end
mutual
def vY:St->Nat
 | .mk k _ _ b e=>(if k=1 then 1 else 0)+(gk b+gk e)
def gk:List St->Nat
 | []=>0
 |s::r=>vY s+gk r
end
def i6 (f:Fc):Nat:=4*(8+f.ps.length+gk f.body)
mutual
def GJ:St->Bool
 | .mk _ _ x b e=>x.any (λy=>decide (7<dZ y))||(m_ b||m_ e)
def m_:List St->Bool
 | []=>false
 |s::r=>GJ s||m_ r
end
abbrev Er:=List UInt8×Int
structure Gl where
 arr:List UInt8->Option Int
 int:List UInt8->Bool
 fn:List UInt8->Option Nat
abbrev Ls:=List UInt8->Bool
def gc:Ls:=λ_=>false
def Ls.add (l:Ls) (s:List UInt8):Ls:=λx=>x==s||l x
def Gl.known (g:Gl) (lo:Ls) (s:List UInt8):Bool:=(g.arr s).isSome||((g.fn s).isSome||(g.int s||(lo s||Ce s)))
abbrev CR:=Except Er Unit
def CR.then {α:Type} (x:Except Er α) {β:Type} (k:α->Except Er β):Except Er β:=match x with
 | .error e=> .error e
 | .ok a=>k a
theorem gE {α a:Type} (e:Er) (k:α->Except Er a):CR.then (.error e) k=.error e:=rfl
theorem e_ {α h:Type} (a:α) (k:α->Except Er h):CR.then (.ok a) k=k a:=rfl
def qb (g:Gl) (lo:Ls) (s:List UInt8):CR:=if(lo s||g.int s)=true then .ok ()else if g.known lo s=true then .error (s,16)else .error (s,15)
def md (g:Gl) (lo:Ls) (s:List UInt8):CR:=if(g.arr s).isSome=true then .ok ()else if g.known lo s=true then .error (s,16)else .error (s,15)
def qE (c:UInt8) (k:Int):Bool:=(c==115&&k !=2)||((c==97&&k !=3)||(c==98&&(k !=3&&k !=2)))
def AV (b:Bi) (i:Nat):UInt8:=match b with
 |none=>0
 |some (_,a)=>a.getD i 0
def xy (g:Gl) (nm:List UInt8):Option Nat:=match fp nm with
 |some (_,a)=>some a.length
 |none=>g.fn nm
mutual
def oM (g:Gl) (lo:Ls):Ex->CR
 | .mk k op nm tx v a=>
  if k=3 then qb g lo nm
  else if k=4 then CR.then (md g lo nm) λ_=>oL g lo a
  else if k=2 then .error ([],16)
  else if k=5 then match xy g nm with
   |none=> .error (nm,15)
   |some n=>if n=a.length then oU g lo nm (fp nm) 0 a else .error (nm,16)
  else if k=6\/k=7 then oL g lo a
  else .ok ()
def oL (g:Gl) (lo:Ls):List Ex->CR
 | []=> .ok ()
 |y::r=>CR.then (oM g lo y) λ_=>oL g lo r
def oU (g:Gl) (lo:Ls) (nm:List UInt8) (b:Bi):Nat->List Ex->CR
 | _,[]=> .ok ()
 |i,y::r=>CR.then (if lA b i=true then oM g lo y else if qE (AV b i) y.k=true then .error (nm,16)else if y.k=3 then md g lo y.nm else .ok ()) λ_=>oU g lo nm b (i+1) r
end
abbrev SR:=Except Er Ls
mutual
def sJ (g:Gl):Ls->St->SR
 |lo,.mk k nm ex bd el=>
  CR.then (if k=2 then qb g lo nm else if k=3 then md g lo nm else .ok ()) λ_=>
  CR.then (oL g lo ex) λ_=>
  CR.then (if k=1 then(if g.known lo nm=true then .error (nm,9)else .ok (lo.add nm))else .ok lo) λlo1=>
  CR.then (gm g lo1 bd) λlo2=>gm g lo2 el
def gm (g:Gl):Ls->List St->SR
 |lo,[]=> .ok lo
 |lo,s::r=>CR.then (sJ g lo s) λlo1=>gm g lo1 r
end
def Gl.addV (g:Gl) (v:Vr):Gl:=if 0<v.sz then{g with arr:=λx=>if x=v.nm then some v.sz else g.arr x}else{g with int:=λx=>x==v.nm||g.int x}
def Gl.addF (g:Gl) (f:Fc):Gl:={g with fn:=λx=>if x=f.nm then some f.ps.length else g.fn x}
def ob:Gl:=⟨λ_=>none,λ_=>false,λ_=>none⟩
def bW:List UInt8:=[109,97,105,110]
def kP:Gl->List Vr->Except Er Gl
 |g,[]=> .ok g
 |g,v::r=>if g.known gc v.nm=true then .error (v.nm,9)else kP (g.addV v) r
def jq:Gl->List Fc->Except Er Gl
 |g,[]=> .ok g
 |g,f::r=>if g.known gc f.nm=true then .error (f.nm,9)else jq (g.addF f) r
def ng (p:Pg):Except Er Gl:=
 CR.then (kP ob p.vs) λg=>CR.then (jq g p.fs) λg=>match g.fn bW with
  |none=> .error (bW,8)
  |some n=>if 0<n then .error (bW,16)else .ok g
def ou (g:Gl):Ls->List (List UInt8)->SR
 |lo,[]=> .ok lo
 |lo,p::r=>if g.known lo p=true then .error (p,9)else ou g (lo.add p) r
def ky (g:Gl):List Fc->CR
 | []=> .ok ()
 |f::r=>CR.then (ou g gc f.ps) λlo=>CR.then (gm g lo f.body) λ_=>ky g r
def gJ:List Fc->CR
 | []=> .ok ()
 |f::r=>if 20<f.ps.length+gk f.body\/m_ f.body=true then .error (f.nm,6)else gJ r
def ig (p:Pg):CR:=CR.then (ng p) λg=>CR.then (ky g p.fs) λ_=>gJ p.fs
end
section
def m9 (v:Int):Int:=IntKind.wrap .i32 v
def nR (b:Bool):Int:=if b=true then 1 else 0
structure Ms where
 ints:List UInt8->Int
 arrs:List UInt8->List UInt8
 left:Nat
 stk:Nat
 used:Nat
structure Oc where
 kind:Int
 call:Int
 a0:Int
 a1:Int
 a2:Int
 data:List UInt8
 used:Nat
abbrev ER (α:Type):=Except Oc (α×Ms)
def ER.then {α β:Type} (x:ER α) (k:α->Ms->ER β):ER β:=match x with
 | .error e=> .error e
 | .ok (a,s)=>k a s
theorem fj {α a:Type} (e:Oc) (k:α->Ms->ER a):ER.then (.error e) k=.error e:=rfl
theorem gh {α h:Type} (a:α) (s:Ms) (k:α->Ms->ER h):ER.then (.ok (a,s)) k=k a s:=rfl
def Ms.fails (s:Ms):Oc:=⟨2,0,0,0,0,[],s.used⟩
def Ms.long (s:Ms):Oc:=⟨3,0,0,0,0,[],s.used⟩
abbrev Rs:=List (Int×List UInt8)
def gZ (R:Rs) (s:Ms) (call a0 a1 a2:Int) (data:List UInt8):ER (Int×List UInt8):=match R[s.used]? with
 |none=> .error ⟨1,call,a0,a1,a2,data,s.used⟩
 |some r=> .ok (r,{s with used:=s.used+1})
abbrev Lo:=List UInt8->Option Int
def Lo.upd (l:Lo) (s:List UInt8) (v:Int):Lo:=λx=>if x=s then some v else l x
def Ms.setI (s:Ms) (nm:List UInt8) (v:Int):Ms:={s with ints:=λx=>if x=nm then v else s.ints x}
def Ms.setA (s:Ms) (nm:List UInt8) (a:List UInt8):Ms:={s with arrs:=λx=>if x=nm then a else s.arrs x}
inductive Dt where
 |no
 |txt (t:List UInt8)
 |arr (nm:List UInt8)
def Dt.rd (s:Ms):Dt->List UInt8
 | .no=>[]
 | .txt t=>t
 | .arr nm=>s.arrs nm
def Dt.put (s:Ms) (n:Nat) (r:List UInt8):Dt->Ms
 | .no=>s
 | .txt _=>s
 | .arr nm=>s.setA nm (r.take n++(s.arrs nm).drop (min n r.length))
def eO (E:Ms->Ex->ER Int):List UInt8->List Ex->List Int->Int->Dt->Ms->ER (List Int×Int×Dt)
 |c::ls,y::ys,vs,la,d,s=>if c=105 then(E s y).then λv s=>eO E ls ys (vs++[v]) v d s else if y.k=2 then eO E ls ys vs la (.txt y.tx) s else eO E ls ys vs la (.arr y.nm) s
 | _,_,vs,la,d,s=> .ok ((vs,la,d),s)
def oV (R:Rs) (call:Int) (vs:List Int) (la:Int) (d:Dt) (s:Ms):ER Int:=
 if call≠9/\call≠10 then(gZ R s call (vs.getD 0 0) (vs.getD 1 0) (vs.getD 2 0) (d.rd s)).then λr s=> .ok (m9 r.1,s)
 else if la<0\/(d.rd s).length<la\/128<la then .error s.fails
 else if call=10 then(gZ R s call (vs.getD 0 0) 0 0 ((d.rd s).take la.toNat)).then λr s=> .ok (m9 r.1,s)
 else(gZ R s call (vs.getD 0 0) (vs.getD 1 0) (vs.getD 2 0) []).then λr s=> .ok (m9 r.1,d.put s la.toNat r.2)
def qf (R:Rs) (E:Ms->Ex->ER Int) (s:Ms) (call:Int) (ls:List UInt8) (a:List Ex):ER Int:=(eO E ls a [] 0 .no s).then λp s=>oV R call p.1 p.2.1 p.2.2 s
def xo (E:Ms->Ex->ER Int):List Int->Ms->List Ex->ER (List Int)
 |vs,s,[]=> .ok (vs,s)
 |vs,s,y::r=>(E s y).then λv s=>xo E (vs++[v]) s r
def uz:Lo->List (List UInt8)->List Int->Lo
 |l,p::ps,v::vs=>uz (l.upd p v) ps vs
 |l,_,_=>l
mutual
def yO:Lo->St->Lo
 |l,.mk k nm _ b e=>iu (iu (if k=1 then l.upd nm 0 else l) b) e
def iu:Lo->List St->Lo
 |l,[]=>l
 |l,s::r=>iu (yO l s) r
end
abbrev m7:=ER (Option Int×Lo)
def nO (S:Ms->Lo->St->m7):Ms->Lo->List St->m7
 |s,l,[]=> .ok ((none,l),s)
 |s,l,x::r=>(S s l x).then λp s=>match p.1 with
  |some v=> .ok ((some v,p.2),s)
  |none=>nO S s p.2 r
def gK (S:Ms->Lo->St->m7) (f:Fc) (vs:List Int) (s:Ms):ER Int:=
 if 1024<s.stk+i6 f then .error s.fails
 else(nO S {s with stk:=s.stk+i6 f} (iu (uz (λ_=>none) f.ps vs) f.body) f.body).then λp s=> .ok (p.1.getD 0,{s with stk:=s.stk-i6 f})
def kA (op:List UInt8) (a b:Int) (s:Ms):ER Int:=
 if op=[43]then .ok (m9 (a+b),s)else if op=[45]then .ok (m9 (a-b),s)else if op=[42]then .ok (m9 (a*b),s)
 else if op=[47]\/op=[37]then(if b=0 then .error s.fails else if op=[47]then .ok (m9 (a.tdiv b),s)else .ok (m9 (a.tmod b),s))
 else if op=[61,61]then .ok (nR (a==b),s)else if op=[33,61]then .ok (nR (a !=b),s)else if op=[60]then .ok (nR (decide (a<b)),s)
 else if op=[60,61]then .ok (nR (decide (a<=b)),s)else if op=[62]then .ok (nR (decide (b<a)),s)else .ok (nR (decide (b<=a)),s)
structure Cx where
 fn:List UInt8->Fc
 R:Rs
def pj:Ex:=.mk 0 [] [] [] 0 []
def Ms.step (s:Ms):Ms:={s with left:=s.left-1}
def p5 (op:List UInt8):Bool:=op==[38,38]
def vT (op:List UInt8):Bool:=op==[124,124]
mutual
def ev (C:Cx):Nat->Ms->Lo->Ex->ER Int
 |0,s,_,_=> .error s.long
 |n+1,s,l,x=>
  if s.left=0 then .error s.long
  else if x.k=1 then .ok (m9 x.v,s.step)
  else if x.k=3 then .ok ((l x.nm).getD (s.ints x.nm),s.step)
  else if x.k=4 then(ev C n s.step l (x.args.getD 0 pj)).then λi s=>if 0<=i/\i<(s.arrs x.nm).length then .ok ((((s.arrs x.nm).getD i.toNat 0).toNat:Int),s)else .error s.fails
  else if x.k=5 then(match fp x.nm with
   |some (c,ls)=>qf C.R (λs y=>ev C n s l y) s.step c ls x.args
   |none=>(xo (λs y=>ev C n s l y) [] s.step x.args).then λvs s=>gK (λs l y=>st C n s l y) (C.fn x.nm) vs s)
  else if x.k=6 then(ev C n s.step l (x.args.getD 0 pj)).then λa s=>if x.op=[33]then .ok (nR (a==0),s)else .ok (m9 (-a),s)
  else(ev C n s.step l (x.args.getD 0 pj)).then λa s=>
   if p5 x.op=true/\a=0 then .ok (0,s)else if vT x.op=true/\a≠0 then .ok (1,s)
   else(ev C n s l (x.args.getD 1 pj)).then λb s=>if(p5 x.op||vT x.op)=true then .ok (nR (b !=0),s)else kA x.op a b s
def st (C:Cx):Nat->Ms->Lo->St->m7
 |0,s,_,_=> .error s.long
 |n+1,s,l,x=>
  if s.left=0 then .error s.long
  else if x.k=5 then wh C n s.step l (x.ex.getD 0 pj) x.body
  else(if x.ex=[]then .ok (0,s.step)else ev C n s.step l (x.ex.getD 0 pj):ER Int).then λv s=>
   if x.k=1 then .ok ((none,l.upd x.nm v),s)
   else if x.k=2 then(if(l x.nm).isSome=true then .ok ((none,l.upd x.nm v),s)else .ok ((none,l),s.setI x.nm v))
   else if x.k=3 then(ev C n s l (x.ex.getD 1 pj)).then λu s=>if 0<=v/\v<(s.arrs x.nm).length then .ok ((none,l),s.setA x.nm ((s.arrs x.nm).set v.toNat (UInt8.ofNat (u%256).toNat)))else .error s.fails
   else if x.k=4 then nO (λs l y=>st C n s l y) s l (if v≠0 then x.body else x.els)
   else if x.k=6 then .ok ((some v,l),s)
   else .ok ((none,l),s)
def wh (C:Cx):Nat->Ms->Lo->Ex->List St->m7
 |0,s,_,_,_=> .error s.long
 |n+1,s,l,c,b=>(ev C n s l c).then λv s=>if v=0 then .ok ((none,l),s)else(nO (λs l y=>st C n s l y) s l b).then λp s=>match p.1 with
  |some v=> .ok ((some v,p.2),s)
  |none=>wh C n s p.2 c b
end
section
variable {C:Cx} {n:Nat} {s:Ms} {l:Lo} {op nm tx:List UInt8} {v:Int} {a:List Ex} {e:List Ex} {b c:List St}
theorem Ev (h:s.left≠0):ev C (n+1) s l (.mk 1 op nm tx v a)=.ok (m9 v,s.step):=by rw[ev,if_neg h];rfl
theorem Gx (h:s.left≠0):ev C (n+1) s l (.mk 3 op nm tx v a)=.ok ((l nm).getD (s.ints nm),s.step):=by rw[ev,if_neg h];rfl
theorem Gw (h:s.left≠0):ev C (n+1) s l (.mk 4 op nm tx v a)=(ev C n s.step l (a.getD 0 pj)).then λi s=>if 0<=i/\i<(s.arrs nm).length then .ok ((((s.arrs nm).getD i.toNat 0).toNat:Int),s)else .error s.fails:=by rw[ev,if_neg h];rfl
theorem Gv (h:s.left≠0):ev C (n+1) s l (.mk 5 op nm tx v a)=match fp nm with
  |some (c,ls)=>qf C.R (λs y=>ev C n s l y) s.step c ls a
  |none=>(xo (λs y=>ev C n s l y) [] s.step a).then λvs s=>gK (λs l y=>st C n s l y) (C.fn nm) vs s:=by rw[ev,if_neg h];rfl
theorem Gu (h:s.left≠0):ev C (n+1) s l (.mk 6 op nm tx v a)=(ev C n s.step l (a.getD 0 pj)).then λa s=>if op=[33]then .ok (nR (a==0),s)else .ok (m9 (-a),s):=by rw[ev,if_neg h];rfl
theorem Gt (h:s.left≠0):ev C (n+1) s l (.mk 7 op nm tx v a)=(ev C n s.step l (a.getD 0 pj)).then λx s=>
   if p5 op=true/\x=0 then .ok (0,s)else if vT op=true/\x≠0 then .ok (1,s)
   else(ev C n s l (a.getD 1 pj)).then λb s=>if(p5 op||vT op)=true then .ok (nR (b !=0),s)else kA op x b s:=by rw[ev,if_neg h];rfl
def val (C:Cx) (n:Nat) (s:Ms) (l:Lo) (e:List Ex):ER Int:=if e=[]then .ok (0,s)else ev C n s l (e.getD 0 pj)
theorem Ga (h:s.left≠0):st C (n+1) s l (.mk 1 nm e b c)=(val C n s.step l e).then λv s=> .ok ((none,l.upd nm v),s):=by rw[st,if_neg h];rfl
theorem F_ (h:s.left≠0):st C (n+1) s l (.mk 2 nm e b c)=(val C n s.step l e).then λv s=>if(l nm).isSome=true then .ok ((none,l.upd nm v),s)else .ok ((none,l),s.setI nm v):=by rw[st,if_neg h];rfl
theorem F9 (h:s.left≠0):st C (n+1) s l (.mk 3 nm e b c)=(val C n s.step l e).then λv s=>(ev C n s l (e.getD 1 pj)).then λu s=>if 0<=v/\v<(s.arrs nm).length then .ok ((none,l),s.setA nm ((s.arrs nm).set v.toNat (UInt8.ofNat (u%256).toNat)))else .error s.fails:=by rw[st,if_neg h];rfl
theorem F8 (h:s.left≠0):st C (n+1) s l (.mk 4 nm e b c)=(val C n s.step l e).then λv s=>nO (λs l y=>st C n s l y) s l (if v≠0 then b else c):=by rw[st,if_neg h];rfl
theorem F7 (h:s.left≠0):st C (n+1) s l (.mk 5 nm e b c)=wh C n s.step l (e.getD 0 pj) b:=by rw[st,if_neg h];rfl
theorem zS (h:s.left≠0):st C (n+1) s l (.mk 6 nm e b c)=(val C n s.step l e).then λv s=> .ok ((some v,l),s):=by rw[st,if_neg h];rfl
theorem F6 (h:s.left≠0):st C (n+1) s l (.mk 7 nm e b c)=(val C n s.step l e).then λv s=> .ok ((none,l),s):=by rw[st,if_neg h];rfl
end
def f8:List Vr->List UInt8->List UInt8
 | [],_=>[]
 |v::r,s=>if s=v.nm/\0<v.sz then List.replicate v.sz.toNat 0 else f8 r s
def jA:List Fc->List UInt8->Fc
 | [],_=>⟨[],[],[]⟩
 |f::r,s=>if s=f.nm then f else jA r s
def cx (p:Pg) (R:Rs):Cx:=⟨jA p.fs,R⟩
def Dp (p:Pg) (n:Nat):Ms:=⟨λ_=>0,f8 p.vs,n,0,0⟩
def Ad (p:Pg) (R:Rs) (k n:Nat):Oc:=
 match ((gK (λs l y=>st (cx p R) k s l y) (jA p.fs bW) [] (Dp p n)).then λv s=>(gZ R s 0 (v%256) 0 0 []).then λ_ s=> .error s.long:ER Unit)with
 | .error o=>o
 | .ok (_,s)=>s.long
def kn (p:Pg) (R:Rs) (n:Nat):Oc:=Ad p R (2*n) n
def aW:=@PR.then_ok
end
end Go.Proofs.YtddomeddabfinaaGreatDoor
