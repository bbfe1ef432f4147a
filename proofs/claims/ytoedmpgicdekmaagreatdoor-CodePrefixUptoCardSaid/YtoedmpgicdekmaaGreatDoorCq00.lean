/-
  Parts of the proof: LexP ParP TyP TyR.
-/
import Derived.Test.YtoedmpgicdekmaaGreatDoorProg
set_option maxRecDepth 100000
set_option maxHeartbeats 8000000
set_option linter.unusedVariables false
set_option linter.unusedSimpArgs false
set_option linter.defProp false
set_option linter.unusedSectionVars false
namespace Go.Proofs.YtoedmpgicdekmaaGreatDoor
def ab:=@List.length_append
def ac:=@List.drop_succ_cons
def ae:=@List.length_cons
def ag:=@List.length_nil
def ah:=@Nat.le_refl
def ai:=@Option.some.inj
def ak:=@Bool.and_eq_true
def am:=@List.drop_eq_getElem_cons
def ap:=@List.getElem_mem
def aq:=@List.drop_zero
def ax:=@Nat.le_trans
def az:=@Array.getD_eq_getD_getElem?
def aA:=@Nat.lt_of_lt_of_le
def aB:=@And.intro
def aC:=@Nat.zero_le
def aD:=@List.getElem?_eq_getElem
def aE:=@List.getElem_cons_zero
def aF:=@Nat.le_of_lt
def aI:=@List.drop_of_length_le
def aJ:=@List.append_assoc
def aK:=@Nat.le_of_add_right_le
def aL:=@List.getElem_cons_succ
def aM:=@List.take_succ_eq_append_getElem
def aO:=@List.drop_nil
def aR:=@Int.eq_ofNat_of_zero_le
def aS:=@List.eq_nil_of_length_eq_zero
def aV:=@Nat.zero_mul
def aW:=@List.length_take
def aX:=@List.getElem?_append_left
def aZ:=@List.not_mem_nil
def a7:=@Nat.add_zero
def a_:=@Array.getElem?_setIfInBounds
def be:=@Nat.zero_add
def bh:=@List.take_of_length_le
def br:=@List.flatMap_cons
def bx:=@List.getElem?_append_right
def bI:=@List.getD_eq_getElem?_getD
def bJ:=@List.drop_eq_nil_of_le
def bK:=@List.length_drop
def bN:=@List.mem_cons
def bO:=@Nat.ne_of_gt
def bP:=@Int.toNat_natCast
def bQ:=@List.take_length
def bR:=@Option.getD_some
def bS:=@List.map_cons
def bT:=@Array.getElem?_eq_getElem
def bZ:=@List.getElem?_take
def ce:=@List.mem_of_getElem?
def ch:=@Bool.false_eq_true
def cv:=@List.setIfInBounds_toArray
def cA:=@List.getElem?_cons_zero
def cB:=@List.all_eq_true
def cD:=@Nat.one_mul
def cM:=@List.take_append_drop
def cO:=@List.getElem?_cons_succ
def cU:=@List.map_toArray
def cV:=@List.getElem?_map
def cX:=@Option.isSome_some
def db:=@List.map_nil
def de:=@Array.toList_push
def dh:=@Bool.or_eq_true
def dq:=@UInt8.toNat_ofNat'
def dr:=@Option.isSome_none
def dt:=@Nat.lt_succ_self
def du:=@List.set_cons_zero
def dv:=@List.set_cons_succ
def dw:=@List.mem_singleton
def dx:=@List.length_modify
def dz:=@Array.getElem?_replicate
def dC:=@Nat.exists_eq_succ_of_ne_zero
def dD:=@List.getElem?_modify
def dE:=@List.drop_drop
def dH:=@List.append_nil
def dM:=@Array.toList_modify
def dX:=@List.mem_range
def dY:=@Array.any_eq_true'
def d_:=@List.getElem?_toArray
def ed:=@List.mem_of_find?_eq_some
def ee:=@List.length_map
def eg:=@Nat.lt_or_ge
def eh:=@Nat.le_of_eq
def ei:=@Array.all_eq_true_iff_forall_mem
def eq:=@List.flatMap_append
def ew:=@Option.getD_none
def eA:=@Option.bind_some
def eG:=@Nat.le_succ
def eK:=@Array.getElem?_eq_none
def eN:=@Bool.eq_iff_iff
def eW:=@List.size_toArray
def eX:=@List.getElem_take
def eY:=@List.ext_getElem?
def e_:=@List.getElem?_append
def ft:=@Ne.symm
def fu:=@Nat.ne_of_lt
def fE:=@Nat.mul_le_mul_left
def fI:=@List.sum_cons
def fM:=@List.map_append
def fO:=@Option.any_eq_true
def fP:=@List.pairwise_cons
def fQ:=@List.mem_cons_self
def fR:=@List.getElem?_drop
def fS:=@List.contains_cons
def f6:=@Option.some.injEq
def f7:=@Option.map_eq_some_iff
def f8:=@List.range_succ_eq_map
def f9:=@Iff.rfl
def gu:=@List.length_replicate
def gv:=@List.getElem?_eq_none
def gz:=@List.any_cons
def gA:=@Bool.and_true
def gE:=@List.mem_cons_of_mem
def gM:=@Option.map_some
def gN:=@List.find?_cons
def gO:=@List.cons.injEq
def gP:=@List.all_append
def gT:=@List.length_flatMap
def g_:=@Int.tdiv_eq_ediv_of_nonneg
def iw:=@List.pairwise_iff_getElem
def iB:=@UInt8.ofNat_toNat
def iL:=@Prod.mk.injEq
def iM:=@Nat.lt_irrefl
def iU:=@List.getElem_set
def jn:=@List.head?_eq_getElem?
def jo:=@Array.ext'
def jE:=@List.range_succ
def jO:=@List.set_append_right
def jP:=@List.countP_singleton
def jQ:=@Bool.and_eq_false_iff
def jY:=@Nat.mul_one
def jZ:=@List.tail_drop
def j3:=@Bool.and_false
def kS:=@ByteArray.ext
def kT:=@Bool.or_false
def ly:=@Nat.sub_self
def lz:=@List.map_map
open Go.Proofs.Tryz
section
def kO (c:UInt8):Bool:=decide (97<=(c|||32).toNat/\(c|||32).toNat<=122)
def eM (c:UInt8):Bool:=decide (48<=c.toNat/\c.toNat<=57)
def eZ (c:UInt8):Bool:=kO c||eM c||c==95
def Cl (c:UInt8):Bool:=c==32||c==9||c==10||c==13
def Ge:List (List UInt8):=[[118,97,114],[102,117,110,99],[105,102],[101,108,115,101],[119,104,105,108,101],[114,101,116,117,114,110]]
def wI (l:List UInt8):Bool:=Ge.contains l
def cu (p:UInt8->Bool):List UInt8->Nat
 | []=>0
 |c::l=>if p c then cu p l+1 else 0
theorem ig (p:UInt8->Bool): ∀l,cu p l<=l.length
 | []=>ah _
 |c::l=>by
  simp only[cu];split
  ·have:=ig p l;simp;omega
  ·simp
theorem nU (p:UInt8->Bool): ∀(l:List UInt8) (j:Nat),j<=cu p l->cu p l=j+cu p (l.drop j)
 |l,0,_=>by simp
 | [],j+1,h=>by simp[cu]at h
 |c::l,j+1,h=>by
  simp only[cu]at h⊢;split at h
  ·rename_i hc;rw[if_pos hc,ac,nU p l j (by omega)];omega
  ·omega
theorem tP (p:UInt8->Bool) {l:List UInt8} {j:Nat} (h:j<l.length):cu p (l.drop j)=if p l[j]then cu p (l.drop (j+1))+1 else 0:=by
 rw[am h];rfl
def cT:Bool->List UInt8->Nat
 | _,[]=>0
 |false,c::l=>if Cl c then cT false l+1 else if c=47/\l.head? =some 47 then cT true l+1 else 0
 |true,c::l=>if c=10 then cT false l+1 else cT true l+1
theorem ka: ∀(b:Bool) (l:List UInt8),cT b l<=l.length
 |b,[]=>by cases b<;>simp[cT]
 |false,c::l=>by
  simp only[cT];split
  ·have:=ka false l;simp;omega
  ·split
   ·have:=ka true l;simp;omega
   ·simp
 |true,c::l=>by
  simp only[cT];split
  ·have:=ka false l;simp;omega
  ·have:=ka true l;simp;omega
def fj:List UInt8->Nat:=cu (fun c=>c !=10)
theorem nW: ∀l,cT true l=fj l+cT false (l.drop (fj l))
 | []=>rfl
 |c::l=>by
  simp only[cT,fj,cu];by_cases hc:c=10
  ·subst hc;have hb:((10:UInt8) !=10)=false:=by decide
   have hw:Cl 10=true:=by decide
   rw[if_pos rfl,if_neg (by rw[hb];simp)];simp[cT,hw]
  ·have hb:(c !=10)=true:=by simp[hc]
   rw[if_neg hc,if_pos hb,nW l,ac];simp only[fj];omega
theorem po {l:List UInt8} (h: ∃r,l=47::47::r):cT false l=fj l+cT false (l.drop (fj l)):=by
 obtain⟨r,rfl⟩:=h;rw[<-nW];have h1:Cl 47=false:=by decide
 have h2: ¬(47:UInt8)=10:=by decide
 simp[cT,h1,h2]
def kj (c:UInt8):Option UInt8:=if c=110 then some 10 else if c=116 then some 9 else if c=48 then some 0 else if c=92 then some 92 else if c=39 then some 39 else if c=34 then some 34 else none
def cH:List UInt8->UInt8×Nat
 | []=>(0,0)
 |c::r=>if c.toNat<32\/126<c.toNat then(0,0)else if c≠92 then(c,1)else match r with
  | []=>(0,0)
  |d::_=>match kj d with
   |some v=>(v,2)
   |none=>(0,0)
theorem km (l:List UInt8):(cH l).2<=l.length/\(cH l).2<=2:=by
 match l with
 | []=>exact⟨ah _,by decide⟩
 | [c]=>
  simp only[cH];split
  ·exact⟨by simp,by simp⟩
  ·split
   ·exact⟨by simp,by simp⟩
   ·exact⟨by simp,by simp⟩
 |c::d::r=>
  simp only[cH];split
  ·exact⟨by simp,by simp⟩
  ·split
   ·exact⟨by simp,by simp⟩
   ·split<;>exact⟨by simp,by simp⟩
def pu:Nat->List UInt8->Option (List UInt8×Nat)
 |0,_=>none
 |f+1,m=>match m with
  | []=>none
  |c::r=>if c=34 then some ([],1)else if(cH (c::r)).2=0 then none else(pu f ((c::r).drop (cH (c::r)).2)).map fun x=>((cH (c::r)).1::x.1,(cH (c::r)).2+x.2)
theorem pV: ∀(f g:Nat) (m:List UInt8),m.length<=f->f<=g->pu g m=pu f m
 |0,g,m,h,_=>by
  have:m=[]:=aS (by omega);subst this
  cases g<;>rfl
 |f+1,0,m,h,hg=>by omega
 |f+1,g+1,m,h,hg=>by
  cases m with
  |nil=>rfl
  |cons c r=>
   simp only[pu];split
   ·rfl
   ·split
    ·rfl
    ·rename_i h0;rw[pV f g _ (by have:=km (c::r);simp only[bK,ae]at h⊢;omega) (by omega)]
def jx (m:List UInt8):Option (List UInt8×Nat):=pu m.length m
theorem zd (r:List UInt8):jx (34::r)=some ([],1):=by simp[jx,pu]
theorem zf {c:UInt8} {r:List UInt8} (h:c≠34) (h0:(cH (c::r)).2=0):jx (c::r)=none:=by
 simp only[jx,ae,pu];rw[if_neg h,if_pos h0]
theorem wH {c:UInt8} {r:List UInt8} (h:c≠34) (h0:(cH (c::r)).2≠0):jx (c::r)=(jx ((c::r).drop (cH (c::r)).2)).map fun x=>((cH (c::r)).1::x.1,(cH (c::r)).2+x.2):=by
 have hl:=km (c::r);simp only[jx,ae,pu];rw[if_neg h,if_neg h0,pV _ r.length _ (ah _) (by simp only[bK,ae];omega)]
def lY (l:List UInt8):Nat:=l.foldl (fun v c=>v*10+(c.toNat-48)) 0
abbrev tj:=Except Int ((Int×List UInt8×Int)×Nat)
def j6 (l:List UInt8):tj:=if wI (l.take (cu eZ l))then .ok ((2,l.take (cu eZ l),0),cu eZ l)else if 14<cu eZ l then .error 6 else .ok ((1,l.take (cu eZ l),0),cu eZ l)
def iz (l:List UInt8):tj:=
 if(l.drop (cu eM l)).head?.any eZ then .error 3
 else if 10<cu eM l\/(1<cu eM l/\l.head? =some 48)\/2147483647<lY (l.take (cu eM l))then .error 2
 else .ok ((3,[],lY (l.take (cu eM l))),cu eM l)
def je (l:List UInt8):tj:=
 if(cH (l.drop 1)).2=0\/(l.drop 1).head? =some 39\/(l.drop ((cH (l.drop 1)).2+1)).head? ≠some 39 then .error 3 else .ok ((3,[],((cH (l.drop 1)).1.toNat:Int)),(cH (l.drop 1)).2+2)
def jI (l:List UInt8):tj:=match jx (l.drop 1)with
 |none=> .error 3
 |some (t,n)=>if 128<t.length then .error 6 else .ok ((4,t,0),n+1)
def nu:List (List UInt8):=[[61,61],[33,61],[60,61],[62,61],[38,38],[124,124]]
def oa:List UInt8:=[40,41,123,125,91,93,44,59,61,43,45,42,47,37,60,62,33]
def jb (l:List UInt8):tj:=if nu.contains (l.take 2)then .ok ((5,l.take 2,0),2)else if(l.head?.any fun c=>oa.contains c)then .ok ((5,l.take 1,0),1)else .error 3
def lb (l:List UInt8):tj:=match l with
 | []=> .error 3
 |c::r=>if kO c then j6 (c::r)else if eM c then iz (c::r)else if c=39 then je (c::r)else if c=34 then jI (c::r)else jb (c::r)
structure dW where
 k:Int
 t:List UInt8
 v:Int
 f:Int
deriving DecidableEq
def iV:Nat->List UInt8->Nat->Except (Nat×Int) (List dW)
 |0,_,_=> .ok []
 |f+1,m,at_=>
  match m.drop (cT false m)with
  | []=> .ok []
  |c::r=>match lb (c::r)with
   | .error e=> .error (at_+cT false m,e)
   | .ok ((k,t,v),n)=>match iV f ((c::r).drop n) (at_+cT false m+n)with
    | .error e=> .error e
    | .ok ts=> .ok (⟨k,t,v,(at_+cT false m:Nat)⟩::ts)
def nh (l:List UInt8):Except (Nat×Int) (List dW):=iV (l.length+1) l 0
def kU (l:List UInt8):List dW×Int×Int:=if 4000<l.length then([],4000,6)else match nh l with
 | .ok ts=>(ts,0,0)
 | .error (p,e)=>([],p,e)
end
section
inductive Ex where
 |mk (k:Int) (op nm tx:List UInt8) (v:Int) (args:List Ex)
inductive St where
 |mk (k:Int) (nm:List UInt8) (ex:List Ex) (body els:List St)
structure Vr where
 nm:List UInt8
 sz:Int
structure Fc where
 nm:List UInt8
 ps:List (List UInt8)
 body:List St
structure Pg where
 vs:List Vr
 fs:List Fc
def Ex.k:Ex->Int| .mk k _ _ _ _ _=>k
def Ex.op:Ex->List UInt8| .mk _ o _ _ _ _=>o
def Ex.nm:Ex->List UInt8| .mk _ _ n _ _ _=>n
def Ex.tx:Ex->List UInt8| .mk _ _ _ t _ _=>t
def Ex.v:Ex->Int| .mk _ _ _ _ v _=>v
def Ex.args:Ex->List Ex| .mk _ _ _ _ _ a=>a
def St.k:St->Int| .mk k _ _ _ _=>k
def St.nm:St->List UInt8| .mk _ n _ _ _=>n
def St.ex:St->List Ex| .mk _ _ e _ _=>e
def St.body:St->List St| .mk _ _ _ b _=>b
def St.els:St->List St| .mk _ _ _ _ e=>e
def zT:dW:=⟨0,[],0,0⟩
def jl:List dW->dW
 | []=>zT
 |t::_=>t
def jX (s:List UInt8) (l:List dW):Bool:=((jl l).k==5||(jl l).k==2)&&(jl l).t==s
theorem zl {s:List UInt8} {l:List dW} (h:jX s l=true):l≠ []:=by
 intro e;subst e;simp[jX,jl,zT]at h
def G6 (en:Int):List dW->Int
 | []=>en
 |t::_=>t.f
def nC (s:List UInt8):Int:=
 if s=[124,124]then 1 else if s=[38,38]then 2 else if s=[61,61]then 3 else if s=[33,61]then 3
 else if s=[60]then 4 else if s=[60,61]then 4 else if s=[62]then 4 else if s=[62,61]then 4
 else if s=[43]then 5 else if s=[45]then 5 else if s=[42]then 6 else if s=[47]then 6 else if s=[37]then 6 else 0
abbrev PR (α:Type):=Except (List dW×Int) (α×List dW)
def PR.then {α β:Type} (x:PR α) (k:α->List dW->PR β):PR β:=match x with
 | .error e=> .error e
 | .ok (a,r)=>k a r
def uH (s:List UInt8) (l:List dW):PR Unit:=if jX s l then .ok ((),l.tail)else .error (l,3)
def Fq:List UInt8:=[40]
def D_:List UInt8:=[41]
def GE:List UInt8:=[123]
def D':List UInt8:=[125]
def GV:List UInt8:=[91]
def GS:List UInt8:=[93]
def GX:List UInt8:=[44]
def GD:List UInt8:=[59]
def GU:List UInt8:=[45]
def GT:List UInt8:=[33]
def yC:List UInt8:=[118,97,114]
def Cq:List UInt8:=[102,117,110,99]
def GW:List UInt8:=[105,102]
def Dg:List UInt8:=[119,104,105,108,101]
def AV:List UInt8:=[114,101,116,117,114,110]
mutual
def uT:Nat->Int->List dW->PR Ex
 |0,_,l=> .error (l,0)
 |f+1,n,l=>(r7 f l).then fun x r=>Cv f n x r
def Cv:Nat->Int->Ex->List dW->PR Ex
 |0,_,_,l=> .error (l,0)
 |f+1,n,x,l=>if(jl l).k=5/\n<=nC (jl l).t then(uT f (nC (jl l).t+1) l.tail).then fun y r=>Cv f n (.mk 7 (jl l).t [] [] 0 [x,y]) r else .ok (x,l)
def r7:Nat->List dW->PR Ex
 |0,l=> .error (l,0)
 |f+1,l=>
  if(jl l).k=3 then .ok (.mk 1 [] [] [] (jl l).v [],l.tail)
  else if(jl l).k=4 then .ok (.mk 2 [] [] (jl l).t 0 [],l.tail)
  else if(jl l).k=1 then Do f (jl l).t l.tail
  else if jX GU l||jX GT l then(r7 f l.tail).then fun x r=> .ok (.mk 6 (jl l).t [] [] 0 [x],r)
  else(uH Fq l).then fun _ r=>(uT f 1 r).then fun x r=>(uH D_ r).then fun _ r=> .ok (x,r)
def Do:Nat->List UInt8->List dW->PR Ex
 |0,_,l=> .error (l,0)
 |f+1,nm,l=>
  if jX GV l then(uT f 1 l.tail).then fun x r=>(uH GS r).then fun _ r=> .ok (.mk 4 [] nm [] 0 [x],r)
  else if jX Fq l then(EG f l.tail).then fun a r=> .ok (.mk 5 [] nm [] 0 a,r)
  else .ok (.mk 3 [] nm [] 0 [],l)
def EG:Nat->List dW->PR (List Ex)
 |0,l=> .error (l,0)
 |f+1,l=>if jX D_ l then .ok ([],l.tail)else yT f [] l
def yT:Nat->List Ex->List dW->PR (List Ex)
 |0,_,l=> .error (l,0)
 |f+1,acc,l=>(uT f 1 l).then fun x r=>if jX D_ r then .ok (acc++[x],r.tail)else(uH GX r).then fun _ r=>yT f (acc++[x]) r
end
end
section
def rm:List (List UInt8×Int×List UInt8):=
 [([101,120,105,116],0,[105]),
 ([107,105,108,108],4,[105]),
 ([103,114,111,119],6,[105]),
 ([99,108,111,115,101],8,[105]),
 ([115,101,114,118,101],16,[105]),
 ([100,105,97,108],17,[105]),
 ([115,108,101,101,112],19,[105]),
 ([102,111,114,107],1,[]),
 ([119,97,105,116],3,[]),
 ([115,101,108,102],5,[]),
 ([112,105,112,101],11,[]),
 ([116,105,109,101],18,[]),
 ([100,117,112],12,[105,105]),
 ([101,120,101,99],2,[115]),
 ([117,110,108,105,110,107],13,[115]),
 ([109,107,100,105,114],14,[115]),
 ([111,112,101,110],7,[115,105]),
 ([114,101,97,100],9,[105,97,105]),
 ([119,114,105,116,101],10,[105,98,105])]
abbrev Bi:=Option (Int×List UInt8)
def fx (s:List UInt8):Bi:=(rm.find? (fun x=>x.1==s)).map (·.2)
def EQ (s:List UInt8):Bool:=(fx s).isSome
def lQ (b:Bi) (i:Nat):Bool:=match b with
 |none=>true
 |some (_,a)=>decide (a.length<=i)||a.getD i 0==105
def ui (op:List UInt8):Bool:=op==[38,38]||op==[124,124]
mutual
def dJ:Ex->Nat
 | .mk k op nm tx v a=>if k=4\/k=6 then gI 1 a else if k=7 then fi (ui op) 0 1 a else if k=5 then fh (fx nm) 0 0 1 a else 1
def gI:Nat->List Ex->Nat
 |m,[]=>m
 |m,y::r=>gI (max m (dJ y)) r
def fi (lg:Bool):Nat->Nat->List Ex->Nat
 |i,m,[]=>m
 |i,m,y::r=>fi lg (i+1) (max m (if 0<i/\lg=false then dJ y+1 else dJ y)) r
def fh (b:Bi):Nat->Nat->Nat->List Ex->Nat
 |i,fr,m,[]=>m
 |i,fr,m,y::r=>if lQ b i=true then fh b (i+1) (fr+1) (max m (fr+dJ y)) r else fh b (i+1) fr m r
end
mutual
def mE:St->Nat
 | .mk k _ _ b e=>(if k=1 then 1 else 0)+(cJ b+cJ e)
def cJ:List St->Nat
 | []=>0
 |s::r=>mE s+cJ r
end
def il (f:Fc):Nat:=4*(8+f.ps.length+cJ f.body)
mutual
def Gd:St->Bool
 | .mk _ _ x b e=>x.any (fun y=>decide (7<dJ y))||(lP b||lP e)
def lP:List St->Bool
 | []=>false
 |s::r=>Gd s||lP r
end
abbrev Er:=List UInt8×Int
structure Gl where
 arr:List UInt8->Option Int
 int:List UInt8->Bool
 fn:List UInt8->Option Nat
abbrev Ls:=List UInt8->Bool
def fV:Ls:=fun _=>false
def Ls.add (l:Ls) (s:List UInt8):Ls:=fun x=>x==s||l x
def Gl.known (g:Gl) (lo:Ls) (s:List UInt8):Bool:=(g.arr s).isSome||((g.fn s).isSome||(g.int s||(lo s||EQ s)))
abbrev CR:=Except Er Unit
def CR.then {α:Type} (x:Except Er α) {β:Type} (k:α->Except Er β):Except Er β:=match x with
 | .error e=> .error e
 | .ok a=>k a
theorem fH {α β:Type} (e:Er) (k:α->Except Er β):CR.then (.error e) k= .error e:=rfl
theorem eP {α β:Type} (a:α) (k:α->Except Er β):CR.then (.ok a) k=k a:=rfl
def p9 (g:Gl) (lo:Ls) (s:List UInt8):CR:=if(lo s||g.int s)=true then .ok ()else if g.known lo s=true then .error (s,16)else .error (s,15)
def kZ (g:Gl) (lo:Ls) (s:List UInt8):CR:=if(g.arr s).isSome=true then .ok ()else if g.known lo s=true then .error (s,16)else .error (s,15)
def ro (c:UInt8) (k:Int):Bool:=(c==115&&k !=2)||((c==97&&k !=3)||(c==98&&(k !=3&&k !=2)))
def Bz (b:Bi) (i:Nat):UInt8:=match b with
 |none=>0
 |some (_,a)=>a.getD i 0
def An (g:Gl) (nm:List UInt8):Option Nat:=match fx nm with
 |some (_,a)=>some a.length
 |none=>g.fn nm
mutual
def rA (g:Gl) (lo:Ls):Ex->CR
 | .mk k op nm tx v a=>
  if k=3 then p9 g lo nm
  else if k=4 then CR.then (kZ g lo nm) fun _=>rg g lo a
  else if k=2 then .error ([],16)
  else if k=5 then match An g nm with
   |none=> .error (nm,15)
   |some n=>if n=a.length then uw g lo nm (fx nm) 0 a else .error (nm,16)
  else if k=6\/k=7 then rg g lo a
  else .ok ()
def rg (g:Gl) (lo:Ls):List Ex->CR
 | []=> .ok ()
 |y::r=>CR.then (rA g lo y) fun _=>rg g lo r
def uw (g:Gl) (lo:Ls) (nm:List UInt8) (b:Bi):Nat->List Ex->CR
 | _,[]=> .ok ()
 |i,y::r=>CR.then (if lQ b i=true then rA g lo y else if ro (Bz b i) y.k=true then .error (nm,16)else if y.k=3 then kZ g lo y.nm else .ok ()) fun _=>uw g lo nm b (i+1) r
end
abbrev SR:=Except Er Ls
mutual
def DQ (g:Gl):Ls->St->SR
 |lo, .mk k nm ex bd el=>
  CR.then (if k=2 then p9 g lo nm else if k=3 then kZ g lo nm else .ok ()) fun _=>
  CR.then (rg g lo ex) fun _=>
  CR.then (if k=1 then(if g.known lo nm=true then .error (nm,9)else .ok (lo.add nm))else .ok lo) fun lo1=>
  CR.then (gR g lo1 bd) fun lo2=>gR g lo2 el
def gR (g:Gl):Ls->List St->SR
 |lo,[]=> .ok lo
 |lo,s::r=>CR.then (DQ g lo s) fun lo1=>gR g lo1 r
end
def Gl.addV (g:Gl) (v:Vr):Gl:=if 0<v.sz then{g with arr:=fun x=>if x=v.nm then some v.sz else g.arr x}else{g with int:=fun x=>x==v.nm||g.int x}
def Gl.addF (g:Gl) (f:Fc):Gl:={g with fn:=fun x=>if x=f.nm then some f.ps.length else g.fn x}
def wE:Gl:=⟨fun _=>none,fun _=>false,fun _=>none⟩
def cY:List UInt8:=[109,97,105,110]
def ph:Gl->List Vr->Except Er Gl
 |g,[]=> .ok g
 |g,v::r=>if g.known fV v.nm=true then .error (v.nm,9)else ph (g.addV v) r
def ng:Gl->List Fc->Except Er Gl
 |g,[]=> .ok g
 |g,f::r=>if g.known fV f.nm=true then .error (f.nm,9)else ng (g.addF f) r
def xM (p:Pg):Except Er Gl:=
 CR.then (ph wE p.vs) fun g=>CR.then (ng g p.fs) fun g=>match g.fn cY with
  |none=> .error (cY,8)
  |some n=>if 0<n then .error (cY,16)else .ok g
def oK (g:Gl):Ls->List (List UInt8)->SR
 |lo,[]=> .ok lo
 |lo,p::r=>if g.known lo p=true then .error (p,9)else oK g (lo.add p) r
def mG (g:Gl):List Fc->CR
 | []=> .ok ()
 |f::r=>CR.then (oK g fV f.ps) fun lo=>CR.then (gR g lo f.body) fun _=>mG g r
def gU:List Fc->CR
 | []=> .ok ()
 |f::r=>if 20<f.ps.length+cJ f.body\/lP f.body=true then .error (f.nm,6)else gU r
def sV (p:Pg):CR:=CR.then (xM p) fun g=>CR.then (mG g p.fs) fun _=>gU p.fs
end
section
def tz (v:Int):Int:=IntKind.wrap .i32 v
def GP (b:Bool):Int:=if b=true then 1 else 0
structure Ms where
 ints:List UInt8->Int
 arrs:List UInt8->List UInt8
 left:Nat
 stk:Nat
 used:Nat
structure Oc where
 kind:Int
 call:Int
 a0:Int
 a1:Int
 a2:Int
 data:List UInt8
 used:Nat
abbrev Rs:=List (Int×List UInt8)
abbrev Lo:=List UInt8->Option Int
inductive Dt where
 |no
 |txt (t:List UInt8)
 |arr (nm:List UInt8)
structure Cx where
 fn:List UInt8->Fc
 R:Rs
end
end Go.Proofs.YtoedmpgicdekmaaGreatDoor
