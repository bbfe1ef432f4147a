/-
  Parts of the proof: LexP ParP TyP TyR.
-/
import Derived.Test.YtddomeddabfinaaGreatDoorProg
set_option maxRecDepth 100000
set_option maxHeartbeats 8000000
set_option linter.unusedVariables false
set_option linter.unusedSimpArgs false
set_option linter.defProp false
set_option linter.unusedSectionVars false
namespace Go.Proofs.YtddomeddabfinaaGreatDoor
def aa:=@List.length_append
def ab:=@List.drop_succ_cons
def ac:=@List.length_cons
def ah:=@List.length_nil
def ai:=@List.getElem_mem
def ak:=@Bool.and_eq_true
def an:=@Nat.le_refl
def ap:=@List.drop_zero
def aq:=@And.intro
def aw:=@Option.some.inj
def ay:=@List.drop_eq_getElem_cons
def az:=@Nat.zero_le
def aA:=@List.append_assoc
def aB:=@List.drop_of_length_le
def aC:=@Array.getD_eq_getD_getElem?
def aD:=@List.take_succ_eq_append_getElem
def aE:=@List.getElem_cons_zero
def aF:=@Nat.lt_of_lt_of_le
def aG:=@List.drop_nil
def aI:=@Nat.le_of_lt
def aJ:=@List.take_of_length_le
def aK:=@List.getElem_cons_succ
def aM:=@List.eq_nil_of_length_eq_zero
def aN:=@List.getElem?_eq_getElem
def aW:=@Nat.zero_mul
def a8:=@Nat.zero_add
def a_:=@Nat.le_trans
def bg:=@Nat.add_zero
def bm:=@Array.getElem?_setIfInBounds
def bw:=@List.take_length
def bB:=@List.take_append_drop
def bC:=@Nat.ne_of_gt
def bE:=@List.setIfInBounds_toArray
def bG:=@List.all_eq_true
def bH:=@Array.getElem?_eq_getElem
def bI:=@List.map_cons
def bJ:=@List.length_drop
def bK:=@List.getD_eq_getElem?_getD
def bM:=@Nat.one_mul
def bO:=@Option.getD_some
def bP:=@Bool.or_eq_true
def bR:=@Bool.false_eq_true
def bW:=@List.flatMap_cons
def bZ:=@List.getElem?_take
def cg:=@Bool.and_true
def cu:=@List.getElem?_append_right
def cv:=@Eq.trans
def cD:=@Bool.true_and
def cF:=@Bool.eq_iff_iff
def cJ:=@List.getElem?_append_left
def cK:=@Bool.false_or
def cO:=@List.append_nil
def cQ:=@Option.isSome_some
def cR:=@List.set_cons_zero
def c8:=@List.mem_of_find?_eq_some
def de:=@List.set_cons_succ
def df:=@List.mem_singleton
def dg:=@List.length_take
def dl:=@Array.getElem?_replicate
def du:=@List.flatMap_append
def dw:=@List.map_nil
def dx:=@List.map_map
def dB:=@List.not_mem_nil
def dE:=@Option.isSome_none
def dF:=@List.mem_range
def dG:=@List.drop_drop
def dH:=@List.contains_cons
def dI:=@Array.any_eq_true'
def dQ:=@List.all_append
def dS:=@Array.all_eq_true_iff_forall_mem
def dY:=@Option.bind_some
def dZ:=@List.map_toArray
def ee:=@Array.getElem?_eq_none
def eg:=@Nat.not_lt_zero
def eh:=@List.find?_cons
def em:=@List.mem_cons
def eH:=@Nat.lt_succ_self
def eI:=@Bool.or_comm
def eN:=@Nat.mul_le_mul_left
def eO:=@List.sum_cons
def eP:=@List.all_cons
def eT:=@Option.any_eq_true
def eU:=@List.mem_cons_self
def eV:=@List.find?_eq_none
def eX:=@List.getElem?_cons_zero
def eY:=@List.getElem?_cons_succ
def fe:=@UInt8.ofNat_toNat
def fE:=@Option.getD_none
def fF:=@List.find?_eq_some_iff_getElem
def fI:=@List.any_cons
def fP:=@List.take_eq_nil_iff
def fQ:=@List.mem_cons_of_mem
def fW:=@Option.map_some
def fX:=@List.nil_append
def fY:=@List.map_append
def fZ:=@List.length_map
def gc:=@List.length_flatMap
def gd:=@Nat.lt_or_ge
def ge:=@Bool.true_or
def gZ:=@List.all_eq_false
def g6:=@Array.toList_push
def ic:=@ByteArray.ext
def ie:=@Bool.or_false
def iq:=@List.getElem_set
def ir:=@List.cons_append
def iN:=@Option.map_eq_some_iff
def iO:=@List.range_succ_eq_map
def iP:=@List.head?_eq_getElem?
def i8:=@Option.any_some
def i_:=@List.find?_some
def i':=@Bool.decide_and
def jg:=@List.getElem?_toArray
def jh:=@List.countP_singleton
def jm:=@Nat.mul_one
def jn:=@Bool.false_and
def jo:=@Bool.and_false
def jX:=@Bool.or_assoc
def ky:=@List.all_nil
open Go.Proofs.Tryz
section
def fw (c:UInt8):Bool:=decide (97<=(c|||32).toNat/\(c|||32).toNat<=122)
def dM (c:UInt8):Bool:=decide (48<=c.toNat/\c.toNat<=57)
def dL (c:UInt8):Bool:=fw c||dM c||c==95
def xW (c:UInt8):Bool:=c==32||c==9||c==10||c==13
theorem vA (c:UInt8):fw c=(decide (97<=c.toNat/\c.toNat<=122)||decide (65<=c.toNat/\c.toNat<=90)):=by
 have: ∀n:Fin 256,fw (UInt8.ofNat n.val)=(decide (97<=(UInt8.ofNat n.val).toNat/\(UInt8.ofNat n.val).toNat<=122)||decide (65<=(UInt8.ofNat n.val).toNat/\(UInt8.ofNat n.val).toNat<=90)):=by decide+kernel
 have h:=this ⟨c.toNat,c.toNat_lt⟩;rwa [fe]at h
def zR:List (List UInt8):=[[118,97,114],[102,117,110,99],[105,102],[101,108,115,101],[119,104,105,108,101],[114,101,116,117,114,110]]
def o4 (l:List UInt8):Bool:=zR.contains l
def bS (p:UInt8->Bool):List UInt8->Nat
 | []=>0
 |c::l=>if p c then bS p l+1 else 0
theorem gF (p:UInt8->Bool): ∀l,bS p l<=l.length
 | []=>an _
 |c::l=>by
  simp only[bS];split
  ·have:=gF p l;simp;omega
  ·simp
theorem mg (p:UInt8->Bool): ∀(l:List UInt8) (j:Nat),j<=bS p l->bS p l=j+bS p (l.drop j)
 |l,0,_=>by simp
 | [],j+1,h=>by simp[bS]at h
 |c::l,j+1,h=>by
  simp only[bS]at h⊢;split at h
  ·rename_i hc;rw[if_pos hc,ab,mg p l j (by omega)];omega
  ·omega
theorem qE (p:UInt8->Bool) {l:List UInt8} {j:Nat} (h:j<l.length):bS p (l.drop j)=if p l[j]then bS p (l.drop (j+1))+1 else 0:=by
 rw[ay h];rfl
def cH:Bool->List UInt8->Nat
 | _,[]=>0
 |false,c::l=>if xW c then cH false l+1 else if c=47/\l.head? =some 47 then cH true l+1 else 0
 |true,c::l=>if c=10 then cH false l+1 else cH true l+1
theorem jx: ∀(b:Bool) (l:List UInt8),cH b l<=l.length
 |b,[]=>by cases b<;>simp[cH]
 |false,c::l=>by
  simp only[cH];split
  ·have:=jx false l;simp;omega
  ·split
   ·have:=jx true l;simp;omega
   ·simp
 |true,c::l=>by
  simp only[cH];split
  ·have:=jx false l;simp;omega
  ·have:=jx true l;simp;omega
def eE:List UInt8->Nat:=bS (fun c=>c !=10)
theorem mh: ∀l,cH true l=eE l+cH false (l.drop (eE l))
 | []=>rfl
 |c::l=>by
  simp only[cH,eE,bS];by_cases hc:c=10
  ·subst hc;have hb:((10:UInt8) !=10)=false:=by decide
   have hw:xW 10=true:=by decide
   rw[if_pos rfl,if_neg (by rw[hb];simp)];simp[cH,hw]
  ·have hb:(c !=10)=true:=by simp[hc]
   rw[if_neg hc,if_pos hb,mh l,ab];simp only[eE];omega
theorem mZ {l:List UInt8} (h: ∃r,l=47::47::r):cH false l=eE l+cH false (l.drop (eE l)):=by
 obtain⟨r,rfl⟩:=h;rw[<-mh];have h1:xW 47=false:=by decide
 have h2: ¬(47:UInt8)=10:=by decide
 simp[cH,h1,h2]
def jE (c:UInt8):Option UInt8:=if c=110 then some 10 else if c=116 then some 9 else if c=48 then some 0 else if c=92 then some 92 else if c=39 then some 39 else if c=34 then some 34 else none
def b_:List UInt8->UInt8×Nat
 | []=>(0,0)
 |c::r=>if c.toNat<32\/126<c.toNat then(0,0)else if c≠92 then(c,1)else match r with
  | []=>(0,0)
  |d::_=>match jE d with
   |some v=>(v,2)
   |none=>(0,0)
theorem jG (l:List UInt8):(b_ l).2<=l.length/\(b_ l).2<=2:=by
 match l with
 | []=>exact⟨an _,by decide⟩
 | [c]=>
  simp only[b_];split
  ·exact⟨by simp,by simp⟩
  ·split
   ·exact⟨by simp,by simp⟩
   ·exact⟨by simp,by simp⟩
 |c::d::r=>
  simp only[b_];split
  ·exact⟨by simp,by simp⟩
  ·split
   ·exact⟨by simp,by simp⟩
   ·split<;>exact⟨by simp,by simp⟩
def m8:Nat->List UInt8->Option (List UInt8×Nat)
 |0,_=>none
 |f+1,m=>match m with
  | []=>none
  |c::r=>if c=34 then some ([],1)else if(b_ (c::r)).2=0 then none else(m8 f ((c::r).drop (b_ (c::r)).2)).map fun x=>((b_ (c::r)).1::x.1,(b_ (c::r)).2+x.2)
theorem nO: ∀(f g:Nat) (m:List UInt8),m.length<=f->f<=g->m8 g m=m8 f m
 |0,g,m,h,_=>by
  have:m=[]:=aM (by omega);subst this
  cases g<;>rfl
 |f+1,0,m,h,hg=>by omega
 |f+1,g+1,m,h,hg=>by
  cases m with
  |nil=>rfl
  |cons c r=>
   simp only[m8];split
   ·rfl
   ·split
    ·rfl
    ·rename_i h0;rw[nO f g _ (by have:=jG (c::r);simp only[bJ,ac]at h⊢;omega) (by omega)]
def iV (m:List UInt8):Option (List UInt8×Nat):=m8 m.length m
theorem vu (r:List UInt8):iV (34::r)=some ([],1):=by simp[iV,m8]
theorem vw {c:UInt8} {r:List UInt8} (h:c≠34) (h0:(b_ (c::r)).2=0):iV (c::r)=none:=by
 simp only[iV,ac,m8];rw[if_neg h,if_pos h0]
theorem tn {c:UInt8} {r:List UInt8} (h:c≠34) (h0:(b_ (c::r)).2≠0):iV (c::r)=(iV ((c::r).drop (b_ (c::r)).2)).map fun x=>((b_ (c::r)).1::x.1,(b_ (c::r)).2+x.2):=by
 have hl:=jG (c::r);simp only[iV,ac,m8];rw[if_neg h,if_neg h0,nO _ r.length _ (an _) (by simp only[bJ,ac];omega)]
def kK (l:List UInt8):Nat:=l.foldl (fun v c=>v*10+(c.toNat-48)) 0
abbrev qj:=Except Int ((Int×List UInt8×Int)×Nat)
def jp (l:List UInt8):qj:=if o4 (l.take (bS dL l))then .ok ((2,l.take (bS dL l),0),bS dL l)else if 14<bS dL l then .error 6 else .ok ((1,l.take (bS dL l),0),bS dL l)
def gV (l:List UInt8):qj:=
 if(l.drop (bS dM l)).head?.any dL then .error 3
 else if 10<bS dM l\/(1<bS dM l/\l.head? =some 48)\/2147483647<kK (l.take (bS dM l))then .error 2
 else .ok ((3,[],kK (l.take (bS dM l))),bS dM l)
def iH (l:List UInt8):qj:=
 if(b_ (l.drop 1)).2=0\/(l.drop 1).head? =some 39\/(l.drop ((b_ (l.drop 1)).2+1)).head? ≠some 39 then .error 3 else .ok ((3,[],((b_ (l.drop 1)).1.toNat:Int)),(b_ (l.drop 1)).2+2)
def jb (l:List UInt8):qj:=match iV (l.drop 1)with
 |none=> .error 3
 |some (t,n)=>if 128<t.length then .error 6 else .ok ((4,t,0),n+1)
def lQ:List (List UInt8):=[[61,61],[33,61],[60,61],[62,61],[38,38],[124,124]]
def mx:List UInt8:=[40,41,123,125,91,93,44,59,61,43,45,42,47,37,60,62,33]
def iD (l:List UInt8):qj:=if lQ.contains (l.take 2)then .ok ((5,l.take 2,0),2)else if(l.head?.any fun c=>mx.contains c)then .ok ((5,l.take 1,0),1)else .error 3
def j9 (l:List UInt8):qj:=match l with
 | []=> .error 3
 |c::r=>if fw c then jp (c::r)else if dM c then gV (c::r)else if c=39 then iH (c::r)else if c=34 then jb (c::r)else iD (c::r)
structure db where
 k:Int
 t:List UInt8
 v:Int
 f:Int
deriving DecidableEq
def iw:Nat->List UInt8->Nat->Except (Nat×Int) (List db)
 |0,_,_=> .ok []
 |f+1,m,at_=>
  match m.drop (cH false m)with
  | []=> .ok []
  |c::r=>match j9 (c::r)with
   | .error e=> .error (at_+cH false m,e)
   | .ok ((k,t,v),n)=>match iw f ((c::r).drop n) (at_+cH false m+n)with
    | .error e=> .error e
    | .ok ts=> .ok (⟨k,t,v,(at_+cH false m:Nat)⟩::ts)
def lK (l:List UInt8):Except (Nat×Int) (List db):=iw (l.length+1) l 0
def jq (l:List UInt8):List db×Int×Int:=if 4000<l.length then([],4000,6)else match lK l with
 | .ok ts=>(ts,0,0)
 | .error (p,e)=>([],p,e)
end
section
inductive Ex where
 |mk (k:Int) (op nm tx:List UInt8) (v:Int) (args:List Ex)
inductive St where
 |mk (k:Int) (nm:List UInt8) (ex:List Ex) (body els:List St)
structure Vr where
 nm:List UInt8
 sz:Int
structure Fc where
 nm:List UInt8
 ps:List (List UInt8)
 body:List St
structure Pg where
 vs:List Vr
 fs:List Fc
def Ex.k:Ex->Int| .mk k _ _ _ _ _=>k
def Ex.op:Ex->List UInt8| .mk _ o _ _ _ _=>o
def Ex.nm:Ex->List UInt8| .mk _ _ n _ _ _=>n
def Ex.tx:Ex->List UInt8| .mk _ _ _ t _ _=>t
def Ex.v:Ex->Int| .mk _ _ _ _ v _=>v
def Ex.args:Ex->List Ex| .mk _ _ _ _ _ a=>a
def St.k:St->Int| .mk k _ _ _ _=>k
def St.nm:St->List UInt8| .mk _ n _ _ _=>n
def St.ex:St->List Ex| .mk _ _ e _ _=>e
def St.body:St->List St| .mk _ _ _ b _=>b
def St.els:St->List St| .mk _ _ _ _ e=>e
def zT:db:=⟨0,[],0,0⟩
def fx:List db->db
 | []=>zT
 |t::_=>t
def gy (s:List UInt8) (l:List db):Bool:=((fx l).k==5||(fx l).k==2)&&(fx l).t==s
theorem vI {s:List UInt8} {l:List db} (h:gy s l=true):l≠ []:=by
 intro e;subst e;simp[gy,fx,zT]at h
def CV (en:Int):List db->Int
 | []=>en
 |t::_=>t.f
def gL (s:List UInt8):Int:=
 if s=[124,124]then 1 else if s=[38,38]then 2 else if s=[61,61]then 3 else if s=[33,61]then 3
 else if s=[60]then 4 else if s=[60,61]then 4 else if s=[62]then 4 else if s=[62,61]then 4
 else if s=[43]then 5 else if s=[45]then 5 else if s=[42]then 6 else if s=[47]then 6 else if s=[37]then 6 else 0
theorem zm (s:List UInt8):0<=gL s/\gL s<=6:=by
 unfold gL
 (repeat' split)<;>omega
abbrev PR (α:Type):=Except (List db×Int) (α×List db)
def PR.then {α β:Type} (x:PR α) (k:α->List db->PR β):PR β:=match x with
 | .error e=> .error e
 | .ok (a,r)=>k a r
def rz (s:List UInt8) (l:List db):PR Unit:=if gy s l then .ok ((),l.tail)else .error (l,3)
def Ak:List UInt8:=[40]
def zJ:List UInt8:=[41]
def Cw:List UInt8:=[123]
def zK:List UInt8:=[125]
def Bw:List UInt8:=[91]
def Bv:List UInt8:=[93]
def CP:List UInt8:=[44]
def AY:List UInt8:=[59]
def CO:List UInt8:=[61]
def CN:List UInt8:=[45]
def CM:List UInt8:=[33]
def sV:List UInt8:=[118,97,114]
def x9:List UInt8:=[102,117,110,99]
def Cz:List UInt8:=[105,102]
def ux:List UInt8:=[119,104,105,108,101]
def rO:List UInt8:=[114,101,116,117,114,110]
mutual
def rY:Nat->Int->List db->PR Ex
 |0,_,l=> .error (l,0)
 |f+1,n,l=>(pI f l).then fun x r=>x' f n x r
def x':Nat->Int->Ex->List db->PR Ex
 |0,_,_,l=> .error (l,0)
 |f+1,n,x,l=>if(fx l).k=5/\n<=gL (fx l).t then(rY f (gL (fx l).t+1) l.tail).then fun y r=>x' f n (.mk 7 (fx l).t [] [] 0 [x,y]) r else .ok (x,l)
def pI:Nat->List db->PR Ex
 |0,l=> .error (l,0)
 |f+1,l=>
  if(fx l).k=3 then .ok (.mk 1 [] [] [] (fx l).v [],l.tail)
  else if(fx l).k=4 then .ok (.mk 2 [] [] (fx l).t 0 [],l.tail)
  else if(fx l).k=1 then y6 f (fx l).t l.tail
  else if gy CN l||gy CM l then(pI f l.tail).then fun x r=> .ok (.mk 6 (fx l).t [] [] 0 [x],r)
  else(rz Ak l).then fun _ r=>(rY f 1 r).then fun x r=>(rz zJ r).then fun _ r=> .ok (x,r)
def y6:Nat->List UInt8->List db->PR Ex
 |0,_,l=> .error (l,0)
 |f+1,nm,l=>
  if gy Bw l then(rY f 1 l.tail).then fun x r=>(rz Bv r).then fun _ r=> .ok (.mk 4 [] nm [] 0 [x],r)
  else if gy Ak l then(AB f l.tail).then fun a r=> .ok (.mk 5 [] nm [] 0 a,r)
  else .ok (.mk 3 [] nm [] 0 [],l)
def AB:Nat->List db->PR (List Ex)
 |0,l=> .error (l,0)
 |f+1,l=>if gy zJ l then .ok ([],l.tail)else uS f [] l
def uS:Nat->List Ex->List db->PR (List Ex)
 |0,_,l=> .error (l,0)
 |f+1,acc,l=>(rY f 1 l).then fun x r=>if gy zJ r then .ok (acc++[x],r.tail)else(rz CP r).then fun _ r=>uS f (acc++[x]) r
end
theorem wN {l:List db} (h:(fx l).k≠0):l.length=l.tail.length+1:=by
 cases l with
 |nil=>exact absurd rfl h
 |cons t r=>rfl
end
section
def lN:List (List UInt8×Int×List UInt8):=
 [([101,120,105,116],0,[105]),
 ([107,105,108,108],4,[105]),
 ([103,114,111,119],6,[105]),
 ([99,108,111,115,101],8,[105]),
 ([115,101,114,118,101],16,[105]),
 ([100,105,97,108],17,[105]),
 ([115,108,101,101,112],19,[105]),
 ([102,111,114,107],1,[]),
 ([119,97,105,116],3,[]),
 ([115,101,108,102],5,[]),
 ([112,105,112,101],11,[]),
 ([116,105,109,101],18,[]),
 ([100,117,112],12,[105,105]),
 ([101,120,101,99],2,[115]),
 ([117,110,108,105,110,107],13,[115]),
 ([109,107,100,105,114],14,[115]),
 ([111,112,101,110],7,[115,105]),
 ([114,101,97,100],9,[105,97,105]),
 ([119,114,105,116,101],10,[105,98,105])]
abbrev Bi:=Option (Int×List UInt8)
def bD (s:List UInt8):Bi:=(lN.find? (fun x=>x.1==s)).map (·.2)
def o6 (s:List UInt8):Bool:=(bD s).isSome
def iE (b:Bi) (i:Nat):Bool:=match b with
 |none=>true
 |some (_,a)=>decide (a.length<=i)||a.getD i 0==105
def lM (op:List UInt8):Bool:=op==[38,38]||op==[124,124]
mutual
def ci:Ex->Nat
 | .mk k op nm tx v a=>if k=4\/k=6 then eB 1 a else if k=7 then d7 (lM op) 0 1 a else if k=5 then ed (bD nm) 0 0 1 a else 1
def eB:Nat->List Ex->Nat
 |m,[]=>m
 |m,y::r=>eB (max m (ci y)) r
def d7 (lg:Bool):Nat->Nat->List Ex->Nat
 |i,m,[]=>m
 |i,m,y::r=>d7 lg (i+1) (max m (if 0<i/\lg=false then ci y+1 else ci y)) r
def ed (b:Bi):Nat->Nat->Nat->List Ex->Nat
 |i,fr,m,[]=>m
 |i,fr,m,y::r=>if iE b i=true then ed b (i+1) (fr+1) (max m (fr+ci y)) r else ed b (i+1) fr m r
end
mutual
def oN:St->Nat
 | .mk k _ _ b e=>(if k=1 then 1 else 0)+(cC b+cC e)
def cC:List St->Nat
 | []=>0
 |s::r=>oN s+cC r
end
def kt (f:Fc):Nat:=4*(8+f.ps.length+cC f.body)
mutual
def zQ:St->Bool
 | .mk _ _ x b e=>x.any (fun y=>decide (7<ci y))||(jN b||jN e)
def jN:List St->Bool
 | []=>false
 |s::r=>zQ s||jN r
end
abbrev Er:=List UInt8×Int
structure Gl where
 arr:List UInt8->Option Int
 int:List UInt8->Bool
 fn:List UInt8->Option Nat
abbrev Ls:=List UInt8->Bool
def ek:Ls:=fun _=>false
def Ls.add (l:Ls) (s:List UInt8):Ls:=fun x=>x==s||l x
def Gl.known (g:Gl) (lo:Ls) (s:List UInt8):Bool:=(g.arr s).isSome||((g.fn s).isSome||(g.int s||(lo s||o6 s)))
abbrev CR:=Except Er Unit
def CR.then {α:Type} (x:Except Er α) {β:Type} (k:α->Except Er β):Except Er β:=match x with
 | .error e=> .error e
 | .ok a=>k a
theorem eG {α β:Type} (e:Er) (k:α->Except Er β):CR.then (.error e) k= .error e:=rfl
theorem dK {α β:Type} (a:α) (k:α->Except Er β):CR.then (.ok a) k=k a:=rfl
def gN (g:Gl) (lo:Ls) (s:List UInt8):CR:=if(lo s||g.int s)=true then .ok ()else if g.known lo s=true then .error (s,16)else .error (s,15)
def d9 (g:Gl) (lo:Ls) (s:List UInt8):CR:=if(g.arr s).isSome=true then .ok ()else if g.known lo s=true then .error (s,16)else .error (s,15)
def jU (c:UInt8) (k:Int):Bool:=(c==115&&k !=2)||((c==97&&k !=3)||(c==98&&(k !=3&&k !=2)))
def tp (b:Bi) (i:Nat):UInt8:=match b with
 |none=>0
 |some (_,a)=>a.getD i 0
def qh (g:Gl) (nm:List UInt8):Option Nat:=match bD nm with
 |some (_,a)=>some a.length
 |none=>g.fn nm
mutual
def io (g:Gl) (lo:Ls):Ex->CR
 | .mk k op nm tx v a=>
  if k=3 then gN g lo nm
  else if k=4 then CR.then (d9 g lo nm) fun _=>gX g lo a
  else if k=2 then .error ([],16)
  else if k=5 then match qh g nm with
   |none=> .error (nm,15)
   |some n=>if n=a.length then jT g lo nm (bD nm) 0 a else .error (nm,16)
  else if k=6\/k=7 then gX g lo a
  else .ok ()
def gX (g:Gl) (lo:Ls):List Ex->CR
 | []=> .ok ()
 |y::r=>CR.then (io g lo y) fun _=>gX g lo r
def jT (g:Gl) (lo:Ls) (nm:List UInt8) (b:Bi):Nat->List Ex->CR
 | _,[]=> .ok ()
 |i,y::r=>CR.then (if iE b i=true then io g lo y else if jU (tp b i) y.k=true then .error (nm,16)else if y.k=3 then d9 g lo y.nm else .ok ()) fun _=>jT g lo nm b (i+1) r
end
abbrev SR:=Except Er Ls
mutual
def mO (g:Gl):Ls->St->SR
 |lo, .mk k nm ex bd el=>
  CR.then (if k=2 then gN g lo nm else if k=3 then d9 g lo nm else .ok ()) fun _=>
  CR.then (gX g lo ex) fun _=>
  CR.then (if k=1 then(if g.known lo nm=true then .error (nm,9)else .ok (lo.add nm))else .ok lo) fun lo1=>
  CR.then (dm g lo1 bd) fun lo2=>dm g lo2 el
def dm (g:Gl):Ls->List St->SR
 |lo,[]=> .ok lo
 |lo,s::r=>CR.then (mO g lo s) fun lo1=>dm g lo1 r
end
def Gl.addV (g:Gl) (v:Vr):Gl:=if 0<v.sz then{g with arr:=fun x=>if x=v.nm then some v.sz else g.arr x}else{g with int:=fun x=>x==v.nm||g.int x}
def Gl.addF (g:Gl) (f:Fc):Gl:={g with fn:=fun x=>if x=f.nm then some f.ps.length else g.fn x}
def k':Gl:=⟨fun _=>none,fun _=>false,fun _=>none⟩
def bL:List UInt8:=[109,97,105,110]
def ig:Gl->List Vr->Except Er Gl
 |g,[]=> .ok g
 |g,v::r=>if g.known ek v.nm=true then .error (v.nm,9)else ig (g.addV v) r
def f8:Gl->List Fc->Except Er Gl
 |g,[]=> .ok g
 |g,f::r=>if g.known ek f.nm=true then .error (f.nm,9)else f8 (g.addF f) r
def ji (p:Pg):Except Er Gl:=
 CR.then (ig k' p.vs) fun g=>CR.then (f8 g p.fs) fun g=>match g.fn bL with
  |none=> .error (bL,8)
  |some n=>if 0<n then .error (bL,16)else .ok g
def im (g:Gl):Ls->List (List UInt8)->SR
 |lo,[]=> .ok lo
 |lo,p::r=>if g.known lo p=true then .error (p,9)else im g (lo.add p) r
def fd (g:Gl):List Fc->CR
 | []=> .ok ()
 |f::r=>CR.then (im g ek f.ps) fun lo=>CR.then (dm g lo f.body) fun _=>fd g r
def cY:List Fc->CR
 | []=> .ok ()
 |f::r=>if 20<f.ps.length+cC f.body\/jN f.body=true then .error (f.nm,6)else cY r
def fT (p:Pg):CR:=CR.then (ji p) fun g=>CR.then (fd g p.fs) fun _=>cY p.fs
end
section
def CI (b:Bool):Int:=if b=true then 1 else 0
structure Ms where
 ints:List UInt8->Int
 arrs:List UInt8->List UInt8
 left:Nat
 stk:Nat
 used:Nat
structure Oc where
 kind:Int
 call:Int
 a0:Int
 a1:Int
 a2:Int
 data:List UInt8
 used:Nat
abbrev Rs:=List (Int×List UInt8)
abbrev Lo:=List UInt8->Option Int
inductive Dt where
 |no
 |txt (t:List UInt8)
 |arr (nm:List UInt8)
structure Cx where
 fn:List UInt8->Fc
 R:Rs
end
end Go.Proofs.YtddomeddabfinaaGreatDoor
