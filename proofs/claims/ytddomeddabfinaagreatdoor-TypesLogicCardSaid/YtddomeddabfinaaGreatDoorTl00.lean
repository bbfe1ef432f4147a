/-
  Parts of the proof: LexP ParP TyP TyR.
-/
import Derived.Test.YtddomeddabfinaaGreatDoorProg
set_option maxRecDepth 100000
set_option maxHeartbeats 8000000
set_option linter.unusedVariables false
set_option linter.unusedSimpArgs false
set_option linter.unusedSectionVars false
namespace Go.Proofs.YtddomeddabfinaaGreatDoor
open Go.Proofs.Tryz
def letB (c:UInt8):Bool:=decide (97<=(c|||32).toNat/\(c|||32).toNat<=122)
def digB (c:UInt8):Bool:=decide (48<=c.toNat/\c.toNat<=57)
def prtB (c:UInt8):Bool:=letB c||digB c||c==95
def wsB (c:UInt8):Bool:=c==32||c==9||c==10||c==13
def kws:List (List UInt8):=[[118,97,114],[102,117,110,99],[105,102],[101,108,115,101],[119,104,105,108,101],[114,101,116,117,114,110]]
def kwB (l:List UInt8):Bool:=kws.contains l
def spanN (p:UInt8->Bool):List UInt8->Nat
 | []=>0
 |c::l=>if p c then spanN p l+1 else 0
theorem spanN_le (p:UInt8->Bool): ∀l,spanN p l<=l.length
 | []=>Nat.le_refl _
 |c::l=>by
  simp only[spanN];split
  ·have:=spanN_le p l;simp;omega
  ·simp
theorem spanN_drop (p:UInt8->Bool): ∀(l:List UInt8) (j:Nat),j<=spanN p l->spanN p l=j+spanN p (l.drop j)
 |l,0,_=>by simp
 | [],j+1,h=>by simp[spanN]at h
 |c::l,j+1,h=>by
  simp only[spanN]at h⊢;split at h
  ·rename_i hc;rw[if_pos hc,List.drop_succ_cons,spanN_drop p l j (by omega)];omega
  ·omega
theorem spanN_step (p:UInt8->Bool) {l:List UInt8} {j:Nat} (h:j<l.length):spanN p (l.drop j)=if p l[j]then spanN p (l.drop (j+1))+1 else 0:=by
 rw[List.drop_eq_getElem_cons h];rfl
def skipC:Bool->List UInt8->Nat
 | _,[]=>0
 |false,c::l=>if wsB c then skipC false l+1 else if c=47/\l.head? =some 47 then skipC true l+1 else 0
 |true,c::l=>if c=10 then skipC false l+1 else skipC true l+1
theorem skipC_le: ∀(b:Bool) (l:List UInt8),skipC b l<=l.length
 |b,[]=>by cases b<;>simp[skipC]
 |false,c::l=>by
  simp only[skipC];split
  ·have:=skipC_le false l;simp;omega
  ·split
   ·have:=skipC_le true l;simp;omega
   ·simp
 |true,c::l=>by
  simp only[skipC];split
  ·have:=skipC_le false l;simp;omega
  ·have:=skipC_le true l;simp;omega
def lineN:List UInt8->Nat:=spanN (fun c=>c !=10)
theorem skipC_line: ∀l,skipC true l=lineN l+skipC false (l.drop (lineN l))
 | []=>rfl
 |c::l=>by
  simp only[skipC,lineN,spanN];by_cases hc:c=10
  ·subst hc;have hb:((10:UInt8) !=10)=false:=by decide
   have hw:wsB 10=true:=by decide
   rw[if_pos rfl,if_neg (by rw[hb];simp)];simp[skipC,hw]
  ·have hb:(c !=10)=true:=by simp[hc]
   rw[if_neg hc,if_pos hb,skipC_line l,List.drop_succ_cons];simp only[lineN];omega
theorem skipC_comment {l:List UInt8} (h: ∃r,l=47::47::r):skipC false l=lineN l+skipC false (l.drop (lineN l)):=by
 obtain⟨r,rfl⟩:=h;rw[<-skipC_line];have h1:wsB 47=false:=by decide
 have h2: ¬(47:UInt8)=10:=by decide
 simp[skipC,h1,h2]
def escV (c:UInt8):Option UInt8:=if c=110 then some 10 else if c=116 then some 9 else if c=48 then some 0 else if c=92 then some 92 else if c=39 then some 39 else if c=34 then some 34 else none
def elemL:List UInt8->UInt8×Nat
 | []=>(0,0)
 |c::r=>if c.toNat<32\/126<c.toNat then(0,0)else if c≠92 then(c,1)else match r with
  | []=>(0,0)
  |d::_=>match escV d with
   |some v=>(v,2)
   |none=>(0,0)
theorem elemL_le (l:List UInt8):(elemL l).2<=l.length/\(elemL l).2<=2:=by
 match l with
 | []=>exact⟨Nat.le_refl _,by decide⟩
 | [c]=>
  simp only[elemL];split
  ·exact⟨by simp,by simp⟩
  ·split
   ·exact⟨by simp,by simp⟩
   ·exact⟨by simp,by simp⟩
 |c::d::r=>
  simp only[elemL];split
  ·exact⟨by simp,by simp⟩
  ·split
   ·exact⟨by simp,by simp⟩
   ·split<;>exact⟨by simp,by simp⟩
def litF:Nat->List UInt8->Option (List UInt8×Nat)
 |0,_=>none
 |f+1,m=>match m with
  | []=>none
  |c::r=>if c=34 then some ([],1)else if(elemL (c::r)).2=0 then none else(litF f ((c::r).drop (elemL (c::r)).2)).map fun x=>((elemL (c::r)).1::x.1,(elemL (c::r)).2+x.2)
theorem litF_more: ∀(f g:Nat) (m:List UInt8),m.length<=f->f<=g->litF g m=litF f m
 |0,g,m,h,_=>by
  have:m=[]:=List.eq_nil_of_length_eq_zero (by omega);subst this
  cases g<;>rfl
 |f+1,0,m,h,hg=>by omega
 |f+1,g+1,m,h,hg=>by
  cases m with
  |nil=>rfl
  |cons c r=>
   simp only[litF];split
   ·rfl
   ·split
    ·rfl
    ·rename_i h0;rw[litF_more f g _ (by have:=elemL_le (c::r);simp only[List.length_drop,List.length_cons]at h⊢;omega) (by omega)]
def litL (m:List UInt8):Option (List UInt8×Nat):=litF m.length m
theorem litL_end (r:List UInt8):litL (34::r)=some ([],1):=by simp[litL,litF]
theorem litL_bad {c:UInt8} {r:List UInt8} (h:c≠34) (h0:(elemL (c::r)).2=0):litL (c::r)=none:=by
 simp only[litL,List.length_cons,litF];rw[if_neg h,if_pos h0]
theorem litL_step {c:UInt8} {r:List UInt8} (h:c≠34) (h0:(elemL (c::r)).2≠0):litL (c::r)=(litL ((c::r).drop (elemL (c::r)).2)).map fun x=>((elemL (c::r)).1::x.1,(elemL (c::r)).2+x.2):=by
 have hl:=elemL_le (c::r);simp only[litL,List.length_cons,litF];rw[if_neg h,if_neg h0,litF_more _ r.length _ (Nat.le_refl _) (by simp only[List.length_drop,List.length_cons];omega)]
def decV (l:List UInt8):Nat:=l.foldl (fun v c=>v*10+(c.toNat-48)) 0
abbrev TokR:=Except Int ((Int×List UInt8×Int)×Nat)
def wordT (l:List UInt8):TokR:=if kwB (l.take (spanN prtB l))then .ok ((2,l.take (spanN prtB l),0),spanN prtB l)else if 14<spanN prtB l then .error 6 else .ok ((1,l.take (spanN prtB l),0),spanN prtB l)
def numT (l:List UInt8):TokR:=
 if(l.drop (spanN digB l)).head?.any prtB then .error 3
 else if 10<spanN digB l\/(1<spanN digB l/\l.head? =some 48)\/2147483647<decV (l.take (spanN digB l))then .error 2
 else .ok ((3,[],decV (l.take (spanN digB l))),spanN digB l)
def charT (l:List UInt8):TokR:=
 if(elemL (l.drop 1)).2=0\/(l.drop 1).head? =some 39\/(l.drop ((elemL (l.drop 1)).2+1)).head? ≠some 39 then .error 3 else .ok ((3,[],((elemL (l.drop 1)).1.toNat:Int)),(elemL (l.drop 1)).2+2)
def textT (l:List UInt8):TokR:=match litL (l.drop 1)with
 |none=> .error 3
 |some (t,n)=>if 128<t.length then .error 6 else .ok ((4,t,0),n+1)
def two:List (List UInt8):=[[61,61],[33,61],[60,61],[62,61],[38,38],[124,124]]
def ones:List UInt8:=[40,41,123,125,91,93,44,59,61,43,45,42,47,37,60,62,33]
def markT (l:List UInt8):TokR:=if two.contains (l.take 2)then .ok ((5,l.take 2,0),2)else if(l.head?.any fun c=>ones.contains c)then .ok ((5,l.take 1,0),1)else .error 3
def tokT (l:List UInt8):TokR:=match l with
 | []=> .error 3
 |c::r=>if letB c then wordT (c::r)else if digB c then numT (c::r)else if c=39 then charT (c::r)else if c=34 then textT (c::r)else markT (c::r)
structure Tok where
 k:Int
 t:List UInt8
 v:Int
 f:Int
deriving DecidableEq
def toksF:Nat->List UInt8->Nat->Except (Nat×Int) (List Tok)
 |0,_,_=> .ok []
 |f+1,m,at_=>
  match m.drop (skipC false m)with
  | []=> .ok []
  |c::r=>match tokT (c::r)with
   | .error e=> .error (at_+skipC false m,e)
   | .ok ((k,t,v),n)=>match toksF f ((c::r).drop n) (at_+skipC false m+n)with
    | .error e=> .error e
    | .ok ts=> .ok (⟨k,t,v,(at_+skipC false m:Nat)⟩::ts)
def toks (l:List UInt8):Except (Nat×Int) (List Tok):=toksF (l.length+1) l 0
def toksR (l:List UInt8):List Tok×Int×Int:=if 4000<l.length then([],4000,6)else match toks l with
 | .ok ts=>(ts,0,0)
 | .error (p,e)=>([],p,e)
end Go.Proofs.YtddomeddabfinaaGreatDoor
namespace Go.Proofs.YtddomeddabfinaaGreatDoor
open Go.Proofs.Tryz
inductive Ex where
 |mk (k:Int) (op nm tx:List UInt8) (v:Int) (args:List Ex)
inductive St where
 |mk (k:Int) (nm:List UInt8) (ex:List Ex) (body els:List St)
structure Vr where
 nm:List UInt8
 sz:Int
structure Fc where
 nm:List UInt8
 ps:List (List UInt8)
 body:List St
structure Pg where
 vs:List Vr
 fs:List Fc
def Ex.k:Ex->Int| .mk k _ _ _ _ _=>k
def Ex.op:Ex->List UInt8| .mk _ o _ _ _ _=>o
def Ex.nm:Ex->List UInt8| .mk _ _ n _ _ _=>n
def Ex.tx:Ex->List UInt8| .mk _ _ _ t _ _=>t
def Ex.v:Ex->Int| .mk _ _ _ _ v _=>v
def Ex.args:Ex->List Ex| .mk _ _ _ _ _ a=>a
def St.k:St->Int| .mk k _ _ _ _=>k
def St.nm:St->List UInt8| .mk _ n _ _ _=>n
def St.ex:St->List Ex| .mk _ _ e _ _=>e
def St.body:St->List St| .mk _ _ _ b _=>b
def St.els:St->List St| .mk _ _ _ _ e=>e
def zT:Tok:=⟨0,[],0,0⟩
def hdT:List Tok->Tok
 | []=>zT
 |t::_=>t
def isL (s:List UInt8) (l:List Tok):Bool:=((hdT l).k==5||(hdT l).k==2)&&(hdT l).t==s
theorem isL_cons {s:List UInt8} {l:List Tok} (h:isL s l=true):l≠ []:=by
 intro e;subst e;simp[isL,hdT,zT]at h
theorem isL_tail {s:List UInt8} {l:List Tok} (h:isL s l=true):l.length=l.tail.length+1:=by
 cases l with
 |nil=>exact absurd rfl (isL_cons h)
 |cons t r=>rfl
def atT (en:Int):List Tok->Int
 | []=>en
 |t::_=>t.f
def lev (s:List UInt8):Int:=
 if s=[124,124]then 1 else if s=[38,38]then 2 else if s=[61,61]then 3 else if s=[33,61]then 3
 else if s=[60]then 4 else if s=[60,61]then 4 else if s=[62]then 4 else if s=[62,61]then 4
 else if s=[43]then 5 else if s=[45]then 5 else if s=[42]then 6 else if s=[47]then 6 else if s=[37]then 6 else 0
theorem lev_le (s:List UInt8):0<=lev s/\lev s<=6:=by
 unfold lev
 (repeat' split)<;>omega
abbrev PR (α:Type):=Except (List Tok×Int) (α×List Tok)
def PR.then {α β:Type} (x:PR α) (k:α->List Tok->PR β):PR β:=match x with
 | .error e=> .error e
 | .ok (a,r)=>k a r
def wantL (s:List UInt8) (l:List Tok):PR Unit:=if isL s l then .ok ((),l.tail)else .error (l,3)
def nameL (l:List Tok):PR (List UInt8):=if(hdT l).k=1 then .ok ((hdT l).t,l.tail)else .error (l,3)
def sLp:List UInt8:=[40]
def sRp:List UInt8:=[41]
def sLb:List UInt8:=[123]
def sRb:List UInt8:=[125]
def sLs:List UInt8:=[91]
def sRs:List UInt8:=[93]
def sCm:List UInt8:=[44]
def sSc:List UInt8:=[59]
def sEq:List UInt8:=[61]
def sMi:List UInt8:=[45]
def sNo:List UInt8:=[33]
def sVar:List UInt8:=[118,97,114]
def sFunc:List UInt8:=[102,117,110,99]
def sIf:List UInt8:=[105,102]
def sElse:List UInt8:=[101,108,115,101]
def sWhile:List UInt8:=[119,104,105,108,101]
def sReturn:List UInt8:=[114,101,116,117,114,110]
mutual
def pExpr:Nat->Int->List Tok->PR Ex
 |0,_,l=> .error (l,0)
 |f+1,n,l=>(pPrim f l).then fun x r=>pLoop f n x r
def pLoop:Nat->Int->Ex->List Tok->PR Ex
 |0,_,_,l=> .error (l,0)
 |f+1,n,x,l=>if(hdT l).k=5/\n<=lev (hdT l).t then(pExpr f (lev (hdT l).t+1) l.tail).then fun y r=>pLoop f n (.mk 7 (hdT l).t [] [] 0 [x,y]) r else .ok (x,l)
def pPrim:Nat->List Tok->PR Ex
 |0,l=> .error (l,0)
 |f+1,l=>
  if(hdT l).k=3 then .ok (.mk 1 [] [] [] (hdT l).v [],l.tail)
  else if(hdT l).k=4 then .ok (.mk 2 [] [] (hdT l).t 0 [],l.tail)
  else if(hdT l).k=1 then pNamed f (hdT l).t l.tail
  else if isL sMi l||isL sNo l then(pPrim f l.tail).then fun x r=> .ok (.mk 6 (hdT l).t [] [] 0 [x],r)
  else(wantL sLp l).then fun _ r=>(pExpr f 1 r).then fun x r=>(wantL sRp r).then fun _ r=> .ok (x,r)
def pNamed:Nat->List UInt8->List Tok->PR Ex
 |0,_,l=> .error (l,0)
 |f+1,nm,l=>
  if isL sLs l then(pExpr f 1 l.tail).then fun x r=>(wantL sRs r).then fun _ r=> .ok (.mk 4 [] nm [] 0 [x],r)
  else if isL sLp l then(pArgs f l.tail).then fun a r=> .ok (.mk 5 [] nm [] 0 a,r)
  else .ok (.mk 3 [] nm [] 0 [],l)
def pArgs:Nat->List Tok->PR (List Ex)
 |0,l=> .error (l,0)
 |f+1,l=>if isL sRp l then .ok ([],l.tail)else pArgs1 f [] l
def pArgs1:Nat->List Ex->List Tok->PR (List Ex)
 |0,_,l=> .error (l,0)
 |f+1,acc,l=>(pExpr f 1 l).then fun x r=>if isL sRp r then .ok (acc++[x],r.tail)else(wantL sCm r).then fun _ r=>pArgs1 f (acc++[x]) r
end
mutual
def pBlock:Nat->List Tok->PR (List St)
 |0,l=> .error (l,0)
 |f+1,l=>(wantL sLb l).then fun _ r=>pBlock1 f [] r
def pBlock1:Nat->List St->List Tok->PR (List St)
 |0,_,l=> .error (l,0)
 |f+1,acc,l=>if isL sRb l then .ok (acc,l.tail)else(pStmt f l).then fun s r=>pBlock1 f (acc++[s]) r
def pIf:Nat->List Tok->PR St
 |0,l=> .error (l,0)
 |f+1,l=>(pExpr f 1 l).then fun x r=>(pBlock f r).then fun b r=>
  if isL sElse r then
   if isL sIf r.tail then(pIf f r.tail.tail).then fun s r=> .ok (.mk 4 [] [x] b [s],r)
   else(pBlock f r.tail).then fun c r=> .ok (.mk 4 [] [x] b c,r)
  else .ok (.mk 4 [] [x] b [],r)
def pStmt:Nat->List Tok->PR St
 |0,l=> .error (l,0)
 |f+1,l=>
  if isL sIf l then pIf f l.tail
  else if isL sWhile l then(pExpr f 1 l.tail).then fun x r=>(pBlock f r).then fun b r=> .ok (.mk 5 [] [x] b [],r)
  else if isL sVar l then(nameL l.tail).then fun nm r=>
   (if isL sEq r then(pExpr f 1 r.tail).then fun x r=> .ok ([x],r)else .ok ([],r)).then fun ex r=>(wantL sSc r).then fun _ r=> .ok (.mk 1 nm ex [] [],r)
  else if isL sReturn l then(if isL sSc l.tail then .ok ([],l.tail)else(pExpr f 1 l.tail).then fun x r=> .ok ([x],r)).then fun ex r=>(wantL sSc r).then fun _ r=> .ok (.mk 6 [] ex [] [],r)
  else(nameL l).then fun nm r=>
   (if isL sLp r then(pNamed f nm r).then fun x r=> .ok (.mk 7 [] [x] [] [],r)
   else if isL sLs r then(pExpr f 1 r.tail).then fun i r=>(wantL sRs r).then fun _ r=>(wantL sEq r).then fun _ r=>(pExpr f 1 r).then fun x r=> .ok (.mk 3 nm [i,x] [] [],r)
   else(wantL sEq r).then fun _ r=>(pExpr f 1 r).then fun x r=> .ok (.mk 2 nm [x] [] [],r)).then fun s r=>(wantL sSc r).then fun _ r=> .ok (s,r)
end
def pVar (l:List Tok):PR Vr:=(nameL l).then fun nm r=>
 (if isL sLs r then
  if(hdT r.tail).k=3 then
   if(hdT r.tail).v<1\/2000<(hdT r.tail).v then .error (r.tail,2)else(wantL sRs r.tail.tail).then fun _ q=> .ok ((hdT r.tail).v,q)
  else .error (r.tail,3)
 else .ok (0,r)).then fun sz r=>(wantL sSc r).then fun _ r=> .ok (⟨nm,sz⟩,r)
def pNames1:Nat->List (List UInt8)->List Tok->PR (List (List UInt8))
 |0,_,l=> .error (l,0)
 |f+1,acc,l=>(nameL l).then fun x r=>if isL sRp r then .ok (acc++[x],r.tail)else(wantL sCm r).then fun _ r=>pNames1 f (acc++[x]) r
def pNames (f:Nat) (l:List Tok):PR (List (List UInt8)):=if isL sRp l then .ok ([],l.tail)else pNames1 f [] l
def pFunc (f:Nat) (l:List Tok):PR Fc:=(nameL l).then fun nm r=>(wantL sLp r).then fun _ r=>(pNames f r).then fun ps r=>(pBlock f r).then fun b r=> .ok (⟨nm,ps,b⟩,r)
def pProg:Nat->Pg->List Tok->PR Pg
 |0,_,l=> .error (l,0)
 |f+1,p,l=>if l=[]then .ok (p,[])
  else if isL sVar l then(pVar l.tail).then fun v r=>pProg f ⟨p.vs++[v],p.fs⟩ r
  else(wantL sFunc l).then fun _ r=>(pFunc f r).then fun c r=>pProg f ⟨p.vs,p.fs++[c]⟩ r
theorem PR.then_ok {α β:Type} {x:PR α} {k:α->List Tok->PR β} {b:β} {r:List Tok} (h:x.then k= .ok (b,r)): ∃a q,x= .ok (a,q)/\k a q= .ok (b,r):=by
 unfold PR.then at h;split at h
 ·cases h
 ·exact⟨_,_,rfl,h⟩
theorem wantL_ok {s:List UInt8} {l r:List Tok} {u:Unit} (h:wantL s l= .ok (u,r)):isL s l=true/\r=l.tail/\l.length=r.length+1:=by
 unfold wantL at h;split at h
 ·rename_i h1;injection h with h;injection h with _ h;subst h;exact⟨h1,rfl,isL_tail h1⟩
 ·cases h
theorem tail_lt {l:List Tok} (h:(hdT l).k≠0):l.length=l.tail.length+1:=by
 cases l with
 |nil=>exact absurd rfl h
 |cons t r=>rfl
theorem nameL_ok {l r:List Tok} {nm:List UInt8} (h:nameL l= .ok (nm,r)):(hdT l).k=1/\nm=(hdT l).t/\r=l.tail/\l.length=r.length+1:=by
 unfold nameL at h;split at h
 ·rename_i h1;injection h with h;injection h with h2 h;subst h h2;exact⟨h1,rfl,rfl,tail_lt (by rw[h1];decide)⟩
 ·cases h
theorem ok_inj {α:Type} {a b:α} {r q:List Tok} (h:(Except.ok (a,r):PR α)= .ok (b,q)):a=b/\r=q:=by
 injection h with h;injection h with h1 h2;exact⟨h1,h2⟩
theorem expr_lt: ∀(f:Nat),
  (∀n l x r,pExpr f n l= .ok (x,r)->r.length<l.length)/\(∀n y l x r,pLoop f n y l= .ok (x,r)->r.length<=l.length)/\
  (∀l x r,pPrim f l= .ok (x,r)->r.length<l.length)/\(∀nm l x r,pNamed f nm l= .ok (x,r)->r.length<=l.length)/\
  (∀l x r,pArgs f l= .ok (x,r)->r.length<l.length)/\(∀acc l x r,pArgs1 f acc l= .ok (x,r)->r.length<l.length)
 |0=>by
  refine⟨?_,?_,?_,?_,?_,?_⟩;all_goals (intros;rename_i h;simp[pExpr,pLoop,pPrim,pNamed,pArgs,pArgs1]at h)
 |f+1=>by
  obtain⟨iE,iL,iP,iN,iA,iB⟩:=expr_lt f;refine⟨?_,?_,?_,?_,?_,?_⟩
  ·intro n l x r h;rw[pExpr]at h;obtain⟨a,q,h1,h2⟩:=PR.then_ok h;have:=iP _ _ _ h1;have:=iL _ _ _ _ _ h2;omega
  ·intro n y l x r h;rw[pLoop]at h;split at h
   ·rename_i hk;obtain⟨a,q,h1,h2⟩:=PR.then_ok h;have:=iE _ _ _ _ h1;have:=iL _ _ _ _ _ h2;have:=tail_lt (l:=l) (by rw[hk.1];decide);omega
   ·rw[(ok_inj h).2];exact Nat.le_refl _
  ·intro l x r h;rw[pPrim]at h;split at h
   ·rename_i hk;have:=tail_lt (l:=l) (by rw[hk];decide);rw[<-(ok_inj h).2];omega
   ·split at h
    ·rename_i hk;have:=tail_lt (l:=l) (by rw[hk];decide);rw[<-(ok_inj h).2];omega
    ·split at h
     ·rename_i hk;have:=tail_lt (l:=l) (by rw[hk];decide);have:=iN _ _ _ _ h;omega
     ·split at h
      ·rename_i hk;obtain⟨a,q,h1,h2⟩:=PR.then_ok h;have:=iP _ _ _ h1;have h3:=(ok_inj h2).2;have:l.length=l.tail.length+1:=by
        rw[Bool.or_eq_true]at hk;rcases hk with hk|hk<;>exact isL_tail hk
       subst h3;omega
      ·obtain⟨a,q,h1,h2⟩:=PR.then_ok h;obtain⟨a',q',h3,h4⟩:=PR.then_ok h2;obtain⟨a'',q'',h5,h6⟩:=PR.then_ok h4;have:=(wantL_ok h1).2.2;have:=iE _ _ _ _ h3;have:=(wantL_ok h5).2.2;have h7:=(ok_inj h6).2;subst h7;omega
  ·intro nm l x r h;rw[pNamed]at h;split at h
   ·rename_i hk;obtain⟨a,q,h1,h2⟩:=PR.then_ok h;obtain⟨a',q',h3,h4⟩:=PR.then_ok h2;have:=isL_tail hk;have:=iE _ _ _ _ h1;have:=(wantL_ok h3).2.2;have h7:=(ok_inj h4).2;subst h7;omega
   ·split at h
    ·rename_i hk;obtain⟨a,q,h1,h2⟩:=PR.then_ok h;have:=isL_tail hk;have:=iA _ _ _ h1;have h7:=(ok_inj h2).2;subst h7;omega
    ·have:=(ok_inj h).2;subst this;omega
  ·intro l x r h;rw[pArgs]at h;split at h
   ·rename_i hk;have:=isL_tail hk;have h7:=(ok_inj h).2;subst h7;omega
   ·exact iB _ _ _ _ h
  ·intro acc l x r h;rw[pArgs1]at h;obtain⟨a,q,h1,h2⟩:=PR.then_ok h;have:=iE _ _ _ _ h1;split at h2
   ·rename_i hk;have:=isL_tail hk;have h7:=(ok_inj h2).2;subst h7;omega
   ·obtain⟨a',q',h3,h4⟩:=PR.then_ok h2;have:=(wantL_ok h3).2.2;have:=iB _ _ _ _ h4;omega
theorem stmt_lt: ∀(f:Nat),
  (∀l x r,pBlock f l= .ok (x,r)->r.length<l.length)/\(∀acc l x r,pBlock1 f acc l= .ok (x,r)->r.length<l.length)/\
  (∀l x r,pIf f l= .ok (x,r)->r.length<l.length)/\(∀l x r,pStmt f l= .ok (x,r)->r.length<l.length)
 |0=>by
  refine⟨?_,?_,?_,?_⟩;all_goals (intros;rename_i h;simp[pBlock,pBlock1,pIf,pStmt]at h)
 |f+1=>by
  obtain⟨iB,iC,iI,iS⟩:=stmt_lt f;obtain⟨iE,_,_,iN,_,_⟩:=expr_lt f;refine⟨?_,?_,?_,?_⟩
  ·intro l x r h;rw[pBlock]at h;obtain⟨a,q,h1,h2⟩:=PR.then_ok h;have:=(wantL_ok h1).2.2;have:=iC _ _ _ _ h2;omega
  ·intro acc l x r h;rw[pBlock1]at h;split at h
   ·rename_i hk;have:=isL_tail hk;have h7:=(ok_inj h).2;subst h7;omega
   ·obtain⟨a,q,h1,h2⟩:=PR.then_ok h;have:=iS _ _ _ h1;have:=iC _ _ _ _ h2;omega
  ·intro l x r h;rw[pIf]at h;obtain⟨a,q,h1,h2⟩:=PR.then_ok h;obtain⟨a',q',h3,h4⟩:=PR.then_ok h2;have:=iE _ _ _ _ h1;have:=iB _ _ _ h3;split at h4
   ·rename_i hk;have:=isL_tail hk;split at h4
    ·rename_i hk2;have:=isL_tail hk2;obtain⟨a2,q2,h5,h6⟩:=PR.then_ok h4;have:=iI _ _ _ h5;have h7:=(ok_inj h6).2;subst h7;omega
    ·obtain⟨a2,q2,h5,h6⟩:=PR.then_ok h4;have:=iB _ _ _ h5;have h7:=(ok_inj h6).2;subst h7;omega
   ·have h7:=(ok_inj h4).2;subst h7;omega
  ·intro l x r h;rw[pStmt]at h;split at h
   ·rename_i hk;have:=isL_tail hk;have:=iI _ _ _ h;omega
   split at h
   ·rename_i hk;have:=isL_tail hk;obtain⟨a,q,h1,h2⟩:=PR.then_ok h;obtain⟨a',q',h3,h4⟩:=PR.then_ok h2;have:=iE _ _ _ _ h1;have:=iB _ _ _ h3;have h7:=(ok_inj h4).2;subst h7;omega
   split at h
   ·rename_i hk;have:=isL_tail hk;obtain⟨a,q,h1,h2⟩:=PR.then_ok h;obtain⟨a',q',h3,h4⟩:=PR.then_ok h2;obtain⟨a2,q2,h5,h6⟩:=PR.then_ok h4;have:=(nameL_ok h1).2.2.2;have:=(wantL_ok h5).2.2;have h7:=(ok_inj h6).2;subst h7;split at h3
    ·rename_i hk2;have:=isL_tail hk2;obtain⟨a3,q3,h8,h9⟩:=PR.then_ok h3;have:=iE _ _ _ _ h8;have h10:=(ok_inj h9).2;subst h10;omega
    ·have h10:=(ok_inj h3).2;subst h10;omega
   split at h
   ·rename_i hk;have:=isL_tail hk;obtain⟨a',q',h3,h4⟩:=PR.then_ok h;obtain⟨a2,q2,h5,h6⟩:=PR.then_ok h4;have:=(wantL_ok h5).2.2;have h7:=(ok_inj h6).2;subst h7;split at h3
    ·have h10:=(ok_inj h3).2;subst h10;omega
    ·obtain⟨a3,q3,h8,h9⟩:=PR.then_ok h3;have:=iE _ _ _ _ h8;have h10:=(ok_inj h9).2;subst h10;omega
   ·obtain⟨a,q,h1,h2⟩:=PR.then_ok h;obtain⟨a',q',h3,h4⟩:=PR.then_ok h2;obtain⟨a2,q2,h5,h6⟩:=PR.then_ok h4;have:=(nameL_ok h1).2.2.2;have:=(wantL_ok h5).2.2;have h7:=(ok_inj h6).2;subst h7;split at h3
    ·obtain⟨a3,q3,h8,h9⟩:=PR.then_ok h3;have:=iN _ _ _ _ h8;have h10:=(ok_inj h9).2;subst h10;omega
    ·split at h3
     ·rename_i hk;have:=isL_tail hk;obtain⟨b1,r1,g1,g2⟩:=PR.then_ok h3;obtain⟨b2,r2,g3,g4⟩:=PR.then_ok g2;obtain⟨b3,r3,g5,g6⟩:=PR.then_ok g4;obtain⟨b4,r4,g7,g8⟩:=PR.then_ok g6;have:=iE _ _ _ _ g1;have:=(wantL_ok g3).2.2;have:=(wantL_ok g5).2.2;have:=iE _ _ _ _ g7;have h10:=(ok_inj g8).2;subst h10;omega
     ·obtain⟨b1,r1,g1,g2⟩:=PR.then_ok h3;obtain⟨b2,r2,g3,g4⟩:=PR.then_ok g2;have:=(wantL_ok g1).2.2;have:=iE _ _ _ _ g3;have h10:=(ok_inj g4).2;subst h10;omega
end Go.Proofs.YtddomeddabfinaaGreatDoor
namespace Go.Proofs.YtddomeddabfinaaGreatDoor
open Go.Proofs.Tryz
def biT:List (List UInt8×Int×List UInt8):=
 [([101,120,105,116],0,[105]),
 ([107,105,108,108],4,[105]),
 ([103,114,111,119],6,[105]),
 ([99,108,111,115,101],8,[105]),
 ([115,101,114,118,101],16,[105]),
 ([100,105,97,108],17,[105]),
 ([115,108,101,101,112],19,[105]),
 ([102,111,114,107],1,[]),
 ([119,97,105,116],3,[]),
 ([115,101,108,102],5,[]),
 ([112,105,112,101],11,[]),
 ([116,105,109,101],18,[]),
 ([100,117,112],12,[105,105]),
 ([101,120,101,99],2,[115]),
 ([117,110,108,105,110,107],13,[115]),
 ([109,107,100,105,114],14,[115]),
 ([111,112,101,110],7,[115,105]),
 ([114,101,97,100],9,[105,97,105]),
 ([119,114,105,116,101],10,[105,98,105])]
abbrev Bi:=Option (Int×List UInt8)
def bltn (s:List UInt8):Bi:=(biT.find? (fun x=>x.1==s)).map (·.2)
def isB (s:List UInt8):Bool:=(bltn s).isSome
def intA (b:Bi) (i:Nat):Bool:=match b with
 |none=>true
 |some (_,a)=>decide (a.length<=i)||a.getD i 0==105
def lgOp (op:List UInt8):Bool:=op==[38,38]||op==[124,124]
mutual
def need:Ex->Nat
 | .mk k op nm tx v a=>if k=4\/k=6 then needM 1 a else if k=7 then needB (lgOp op) 0 1 a else if k=5 then needC (bltn nm) 0 0 1 a else 1
def needM:Nat->List Ex->Nat
 |m,[]=>m
 |m,y::r=>needM (max m (need y)) r
def needB (lg:Bool):Nat->Nat->List Ex->Nat
 |i,m,[]=>m
 |i,m,y::r=>needB lg (i+1) (max m (if 0<i/\lg=false then need y+1 else need y)) r
def needC (b:Bi):Nat->Nat->Nat->List Ex->Nat
 |i,fr,m,[]=>m
 |i,fr,m,y::r=>if intA b i=true then needC b (i+1) (fr+1) (max m (fr+need y)) r else needC b (i+1) fr m r
end
mutual
def decS:St->Nat
 | .mk k _ _ b e=>(if k=1 then 1 else 0)+(decL' b+decL' e)
def decL':List St->Nat
 | []=>0
 |s::r=>decS s+decL' r
end
def frameL (f:Fc):Nat:=4*(8+f.ps.length+decL' f.body)
mutual
def ndS:St->Bool
 | .mk _ _ x b e=>x.any (fun y=>decide (7<need y))||(ndL b||ndL e)
def ndL:List St->Bool
 | []=>false
 |s::r=>ndS s||ndL r
end
abbrev Er:=List UInt8×Int
structure Gl where
 arr:List UInt8->Option Int
 int:List UInt8->Bool
 fn:List UInt8->Option Nat
abbrev Ls:=List UInt8->Bool
def noLs:Ls:=fun _=>false
def Ls.add (l:Ls) (s:List UInt8):Ls:=fun x=>x==s||l x
def Gl.known (g:Gl) (lo:Ls) (s:List UInt8):Bool:=(g.arr s).isSome||((g.fn s).isSome||(g.int s||(lo s||isB s)))
abbrev CR:=Except Er Unit
def CR.then {α:Type} (x:Except Er α) {β:Type} (k:α->Except Er β):Except Er β:=match x with
 | .error e=> .error e
 | .ok a=>k a
theorem cr_err {α β:Type} (e:Er) (k:α->Except Er β):CR.then (.error e) k= .error e:=rfl
theorem cr_ok {α β:Type} (a:α) (k:α->Except Er β):CR.then (.ok a) k=k a:=rfl
def ckVar (g:Gl) (lo:Ls) (s:List UInt8):CR:=if(lo s||g.int s)=true then .ok ()else if g.known lo s=true then .error (s,16)else .error (s,15)
def ckArr (g:Gl) (lo:Ls) (s:List UInt8):CR:=if(g.arr s).isSome=true then .ok ()else if g.known lo s=true then .error (s,16)else .error (s,15)
def badA (c:UInt8) (k:Int):Bool:=(c==115&&k !=2)||((c==97&&k !=3)||(c==98&&(k !=3&&k !=2)))
def letA (b:Bi) (i:Nat):UInt8:=match b with
 |none=>0
 |some (_,a)=>a.getD i 0
def arity (g:Gl) (nm:List UInt8):Option Nat:=match bltn nm with
 |some (_,a)=>some a.length
 |none=>g.fn nm
mutual
def ckE (g:Gl) (lo:Ls):Ex->CR
 | .mk k op nm tx v a=>
  if k=3 then ckVar g lo nm
  else if k=4 then CR.then (ckArr g lo nm) fun _=>ckL g lo a
  else if k=2 then .error ([],16)
  else if k=5 then match arity g nm with
   |none=> .error (nm,15)
   |some n=>if n=a.length then ckA g lo nm (bltn nm) 0 a else .error (nm,16)
  else if k=6\/k=7 then ckL g lo a
  else .ok ()
def ckL (g:Gl) (lo:Ls):List Ex->CR
 | []=> .ok ()
 |y::r=>CR.then (ckE g lo y) fun _=>ckL g lo r
def ckA (g:Gl) (lo:Ls) (nm:List UInt8) (b:Bi):Nat->List Ex->CR
 | _,[]=> .ok ()
 |i,y::r=>CR.then (if intA b i=true then ckE g lo y else if badA (letA b i) y.k=true then .error (nm,16)else if y.k=3 then ckArr g lo y.nm else .ok ()) fun _=>ckA g lo nm b (i+1) r
end
abbrev SR:=Except Er Ls
mutual
def ckSt (g:Gl):Ls->St->SR
 |lo, .mk k nm ex bd el=>
  CR.then (if k=2 then ckVar g lo nm else if k=3 then ckArr g lo nm else .ok ()) fun _=>
  CR.then (ckL g lo ex) fun _=>
  CR.then (if k=1 then(if g.known lo nm=true then .error (nm,9)else .ok (lo.add nm))else .ok lo) fun lo1=>
  CR.then (ckSs g lo1 bd) fun lo2=>ckSs g lo2 el
def ckSs (g:Gl):Ls->List St->SR
 |lo,[]=> .ok lo
 |lo,s::r=>CR.then (ckSt g lo s) fun lo1=>ckSs g lo1 r
end
def Gl.addV (g:Gl) (v:Vr):Gl:=if 0<v.sz then{g with arr:=fun x=>if x=v.nm then some v.sz else g.arr x}else{g with int:=fun x=>x==v.nm||g.int x}
def Gl.addF (g:Gl) (f:Fc):Gl:={g with fn:=fun x=>if x=f.nm then some f.ps.length else g.fn x}
def noGl:Gl:=⟨fun _=>none,fun _=>false,fun _=>none⟩
def tyMain:List UInt8:=[109,97,105,110]
def topV:Gl->List Vr->Except Er Gl
 |g,[]=> .ok g
 |g,v::r=>if g.known noLs v.nm=true then .error (v.nm,9)else topV (g.addV v) r
def topF:Gl->List Fc->Except Er Gl
 |g,[]=> .ok g
 |g,f::r=>if g.known noLs f.nm=true then .error (f.nm,9)else topF (g.addF f) r
def tops (p:Pg):Except Er Gl:=
 CR.then (topV noGl p.vs) fun g=>CR.then (topF g p.fs) fun g=>match g.fn tyMain with
  |none=> .error (tyMain,8)
  |some n=>if 0<n then .error (tyMain,16)else .ok g
def ckPs (g:Gl):Ls->List (List UInt8)->SR
 |lo,[]=> .ok lo
 |lo,p::r=>if g.known lo p=true then .error (p,9)else ckPs g (lo.add p) r
def ckFs (g:Gl):List Fc->CR
 | []=> .ok ()
 |f::r=>CR.then (ckPs g noLs f.ps) fun lo=>CR.then (ckSs g lo f.body) fun _=>ckFs g r
def ckLim:List Fc->CR
 | []=> .ok ()
 |f::r=>if 20<f.ps.length+decL' f.body\/ndL f.body=true then .error (f.nm,6)else ckLim r
def ckAll (p:Pg):CR:=CR.then (tops p) fun g=>CR.then (ckFs g p.fs) fun _=>ckLim p.fs
end Go.Proofs.YtddomeddabfinaaGreatDoor
namespace Go.Proofs.YtddomeddabfinaaGreatDoor
open Go.Proofs.Tryz
def w32 (v:Int):Int:=IntKind.wrap .i32 v
def word (b:Bool):Int:=if b=true then 1 else 0
structure Ms where
 ints:List UInt8->Int
 arrs:List UInt8->List UInt8
 left:Nat
 stk:Nat
 used:Nat
structure Oc where
 kind:Int
 call:Int
 a0:Int
 a1:Int
 a2:Int
 data:List UInt8
 used:Nat
abbrev ER (α:Type):=Except Oc (α×Ms)
def ER.then {α β:Type} (x:ER α) (k:α->Ms->ER β):ER β:=match x with
 | .error e=> .error e
 | .ok (a,s)=>k a s
theorem er_err {α β:Type} (e:Oc) (k:α->Ms->ER β):ER.then (.error e) k= .error e:=rfl
theorem er_ok {α β:Type} (a:α) (s:Ms) (k:α->Ms->ER β):ER.then (.ok (a,s)) k=k a s:=rfl
def Ms.fails (s:Ms):Oc:=⟨2,0,0,0,0,[],s.used⟩
def Ms.long (s:Ms):Oc:=⟨3,0,0,0,0,[],s.used⟩
abbrev Rs:=List (Int×List UInt8)
def sysL (R:Rs) (s:Ms) (call a0 a1 a2:Int) (data:List UInt8):ER (Int×List UInt8):=match R[s.used]? with
 |none=> .error ⟨1,call,a0,a1,a2,data,s.used⟩
 |some r=> .ok (r,{s with used:=s.used+1})
abbrev Lo:=List UInt8->Option Int
def Lo.upd (l:Lo) (s:List UInt8) (v:Int):Lo:=fun x=>if x=s then some v else l x
def Ms.setI (s:Ms) (nm:List UInt8) (v:Int):Ms:={s with ints:=fun x=>if x=nm then v else s.ints x}
def Ms.setA (s:Ms) (nm:List UInt8) (a:List UInt8):Ms:={s with arrs:=fun x=>if x=nm then a else s.arrs x}
inductive Dt where
 |no
 |txt (t:List UInt8)
 |arr (nm:List UInt8)
def Dt.rd (s:Ms):Dt->List UInt8
 | .no=>[]
 | .txt t=>t
 | .arr nm=>s.arrs nm
def Dt.put (s:Ms) (n:Nat) (r:List UInt8):Dt->Ms
 | .no=>s
 | .txt _=>s
 | .arr nm=>s.setA nm (r.take n++(s.arrs nm).drop (min n r.length))
def bArgs (E:Ms->Ex->ER Int):List UInt8->List Ex->List Int->Int->Dt->Ms->ER (List Int×Int×Dt)
 |c::ls,y::ys,vs,la,d,s=>if c=105 then(E s y).then fun v s=>bArgs E ls ys (vs++[v]) v d s else if y.k=2 then bArgs E ls ys vs la (.txt y.tx) s else bArgs E ls ys vs la (.arr y.nm) s
 | _,_,vs,la,d,s=> .ok ((vs,la,d),s)
def bltE (R:Rs) (call:Int) (vs:List Int) (la:Int) (d:Dt) (s:Ms):ER Int:=
 if call≠9/\call≠10 then(sysL R s call (vs.getD 0 0) (vs.getD 1 0) (vs.getD 2 0) (d.rd s)).then fun r s=> .ok (w32 r.1,s)
 else if la<0\/(d.rd s).length<la\/128<la then .error s.fails
 else if call=10 then(sysL R s call (vs.getD 0 0) 0 0 ((d.rd s).take la.toNat)).then fun r s=> .ok (w32 r.1,s)
 else(sysL R s call (vs.getD 0 0) (vs.getD 1 0) (vs.getD 2 0) []).then fun r s=> .ok (w32 r.1,d.put s la.toNat r.2)
def bltC (R:Rs) (E:Ms->Ex->ER Int) (s:Ms) (call:Int) (ls:List UInt8) (a:List Ex):ER Int:=(bArgs E ls a [] 0 .no s).then fun p s=>bltE R call p.1 p.2.1 p.2.2 s
def evs (E:Ms->Ex->ER Int):List Int->Ms->List Ex->ER (List Int)
 |vs,s,[]=> .ok (vs,s)
 |vs,s,y::r=>(E s y).then fun v s=>evs E (vs++[v]) s r
def loP:Lo->List (List UInt8)->List Int->Lo
 |l,p::ps,v::vs=>loP (l.upd p v) ps vs
 |l,_,_=>l
mutual
def defS:Lo->St->Lo
 |l, .mk k nm _ b e=>defL (defL (if k=1 then l.upd nm 0 else l) b) e
def defL:Lo->List St->Lo
 |l,[]=>l
 |l,s::r=>defL (defS l s) r
end
abbrev SRes:=ER (Option Int×Lo)
def ssL (S:Ms->Lo->St->SRes):Ms->Lo->List St->SRes
 |s,l,[]=> .ok ((none,l),s)
 |s,l,x::r=>(S s l x).then fun p s=>match p.1 with
  |some v=> .ok ((some v,p.2),s)
  |none=>ssL S s p.2 r
def callF (S:Ms->Lo->St->SRes) (f:Fc) (vs:List Int) (s:Ms):ER Int:=
 if 1024<s.stk+frameL f then .error s.fails
 else(ssL S {s with stk:=s.stk+frameL f} (defL (loP (fun _=>none) f.ps vs) f.body) f.body).then fun p s=> .ok (p.1.getD 0,{s with stk:=s.stk-frameL f})
def binL (op:List UInt8) (a b:Int) (s:Ms):ER Int:=
 if op=[43]then .ok (w32 (a+b),s)else if op=[45]then .ok (w32 (a-b),s)else if op=[42]then .ok (w32 (a*b),s)
 else if op=[47]\/op=[37]then(if b=0 then .error s.fails else if op=[47]then .ok (w32 (a.tdiv b),s)else .ok (w32 (a.tmod b),s))
 else if op=[61,61]then .ok (word (a==b),s)else if op=[33,61]then .ok (word (a !=b),s)else if op=[60]then .ok (word (decide (a<b)),s)
 else if op=[60,61]then .ok (word (decide (a<=b)),s)else if op=[62]then .ok (word (decide (b<a)),s)else .ok (word (decide (b<=a)),s)
structure Cx where
 fn:List UInt8->Fc
 R:Rs
def zEx:Ex:= .mk 0 [] [] [] 0 []
def Ms.step (s:Ms):Ms:={s with left:=s.left-1}
def isAnd (op:List UInt8):Bool:=op==[38,38]
def isOr (op:List UInt8):Bool:=op==[124,124]
mutual
def ev (C:Cx):Nat->Ms->Lo->Ex->ER Int
 |0,s,_,_=> .error s.long
 |n+1,s,l,x=>
  if s.left=0 then .error s.long
  else if x.k=1 then .ok (w32 x.v,s.step)
  else if x.k=3 then .ok ((l x.nm).getD (s.ints x.nm),s.step)
  else if x.k=4 then(ev C n s.step l (x.args.getD 0 zEx)).then fun i s=>if 0<=i/\i<(s.arrs x.nm).length then .ok ((((s.arrs x.nm).getD i.toNat 0).toNat:Int),s)else .error s.fails
  else if x.k=5 then(match bltn x.nm with
   |some (c,ls)=>bltC C.R (fun s y=>ev C n s l y) s.step c ls x.args
   |none=>(evs (fun s y=>ev C n s l y) [] s.step x.args).then fun vs s=>callF (fun s l y=>st C n s l y) (C.fn x.nm) vs s)
  else if x.k=6 then(ev C n s.step l (x.args.getD 0 zEx)).then fun a s=>if x.op=[33]then .ok (word (a==0),s)else .ok (w32 (-a),s)
  else(ev C n s.step l (x.args.getD 0 zEx)).then fun a s=>
   if isAnd x.op=true/\a=0 then .ok (0,s)else if isOr x.op=true/\a≠0 then .ok (1,s)
   else(ev C n s l (x.args.getD 1 zEx)).then fun b s=>if(isAnd x.op||isOr x.op)=true then .ok (word (b !=0),s)else binL x.op a b s
def st (C:Cx):Nat->Ms->Lo->St->SRes
 |0,s,_,_=> .error s.long
 |n+1,s,l,x=>
  if s.left=0 then .error s.long
  else if x.k=5 then wh C n s.step l (x.ex.getD 0 zEx) x.body
  else(if x.ex=[]then .ok (0,s.step)else ev C n s.step l (x.ex.getD 0 zEx):ER Int).then fun v s=>
   if x.k=1 then .ok ((none,l.upd x.nm v),s)
   else if x.k=2 then(if(l x.nm).isSome=true then .ok ((none,l.upd x.nm v),s)else .ok ((none,l),s.setI x.nm v))
   else if x.k=3 then(ev C n s l (x.ex.getD 1 zEx)).then fun u s=>if 0<=v/\v<(s.arrs x.nm).length then .ok ((none,l),s.setA x.nm ((s.arrs x.nm).set v.toNat (UInt8.ofNat (u%256).toNat)))else .error s.fails
   else if x.k=4 then ssL (fun s l y=>st C n s l y) s l (if v≠0 then x.body else x.els)
   else if x.k=6 then .ok ((some v,l),s)
   else .ok ((none,l),s)
def wh (C:Cx):Nat->Ms->Lo->Ex->List St->SRes
 |0,s,_,_,_=> .error s.long
 |n+1,s,l,c,b=>(ev C n s l c).then fun v s=>if v=0 then .ok ((none,l),s)else(ssL (fun s l y=>st C n s l y) s l b).then fun p s=>match p.1 with
  |some v=> .ok ((some v,p.2),s)
  |none=>wh C n s p.2 c b
end
section
variable {C:Cx} {n:Nat} {s:Ms} {l:Lo} {op nm tx:List UInt8} {v:Int} {a:List Ex} {e:List Ex} {b c:List St}
theorem ev_k1 (h:s.left≠0):ev C (n+1) s l (.mk 1 op nm tx v a)= .ok (w32 v,s.step):=by rw[ev,if_neg h];rfl
theorem ev_k3 (h:s.left≠0):ev C (n+1) s l (.mk 3 op nm tx v a)= .ok ((l nm).getD (s.ints nm),s.step):=by rw[ev,if_neg h];rfl
theorem ev_k4 (h:s.left≠0):ev C (n+1) s l (.mk 4 op nm tx v a)=(ev C n s.step l (a.getD 0 zEx)).then fun i s=>if 0<=i/\i<(s.arrs nm).length then .ok ((((s.arrs nm).getD i.toNat 0).toNat:Int),s)else .error s.fails:=by rw[ev,if_neg h];rfl
theorem ev_k5 (h:s.left≠0):ev C (n+1) s l (.mk 5 op nm tx v a)=match bltn nm with
  |some (c,ls)=>bltC C.R (fun s y=>ev C n s l y) s.step c ls a
  |none=>(evs (fun s y=>ev C n s l y) [] s.step a).then fun vs s=>callF (fun s l y=>st C n s l y) (C.fn nm) vs s:=by rw[ev,if_neg h];rfl
theorem ev_k6 (h:s.left≠0):ev C (n+1) s l (.mk 6 op nm tx v a)=(ev C n s.step l (a.getD 0 zEx)).then fun a s=>if op=[33]then .ok (word (a==0),s)else .ok (w32 (-a),s):=by rw[ev,if_neg h];rfl
theorem ev_k7 (h:s.left≠0):ev C (n+1) s l (.mk 7 op nm tx v a)=(ev C n s.step l (a.getD 0 zEx)).then fun x s=>
   if isAnd op=true/\x=0 then .ok (0,s)else if isOr op=true/\x≠0 then .ok (1,s)
   else(ev C n s l (a.getD 1 zEx)).then fun b s=>if(isAnd op||isOr op)=true then .ok (word (b !=0),s)else binL op x b s:=by rw[ev,if_neg h];rfl
def val (C:Cx) (n:Nat) (s:Ms) (l:Lo) (e:List Ex):ER Int:=if e=[]then .ok (0,s)else ev C n s l (e.getD 0 zEx)
theorem st_k1 (h:s.left≠0):st C (n+1) s l (.mk 1 nm e b c)=(val C n s.step l e).then fun v s=> .ok ((none,l.upd nm v),s):=by rw[st,if_neg h];rfl
theorem st_k2 (h:s.left≠0):st C (n+1) s l (.mk 2 nm e b c)=(val C n s.step l e).then fun v s=>if(l nm).isSome=true then .ok ((none,l.upd nm v),s)else .ok ((none,l),s.setI nm v):=by rw[st,if_neg h];rfl
theorem st_k3 (h:s.left≠0):st C (n+1) s l (.mk 3 nm e b c)=(val C n s.step l e).then fun v s=>(ev C n s l (e.getD 1 zEx)).then fun u s=>if 0<=v/\v<(s.arrs nm).length then .ok ((none,l),s.setA nm ((s.arrs nm).set v.toNat (UInt8.ofNat (u%256).toNat)))else .error s.fails:=by rw[st,if_neg h];rfl
theorem st_k4 (h:s.left≠0):st C (n+1) s l (.mk 4 nm e b c)=(val C n s.step l e).then fun v s=>ssL (fun s l y=>st C n s l y) s l (if v≠0 then b else c):=by rw[st,if_neg h];rfl
theorem st_k5 (h:s.left≠0):st C (n+1) s l (.mk 5 nm e b c)=wh C n s.step l (e.getD 0 zEx) b:=by rw[st,if_neg h];rfl
theorem st_k6 (h:s.left≠0):st C (n+1) s l (.mk 6 nm e b c)=(val C n s.step l e).then fun v s=> .ok ((some v,l),s):=by rw[st,if_neg h];rfl
theorem st_k7 (h:s.left≠0):st C (n+1) s l (.mk 7 nm e b c)=(val C n s.step l e).then fun v s=> .ok ((none,l),s):=by rw[st,if_neg h];rfl
end
def arr0:List Vr->List UInt8->List UInt8
 | [],_=>[]
 |v::r,s=>if s=v.nm/\0<v.sz then List.replicate v.sz.toNat 0 else arr0 r s
def fn0:List Fc->List UInt8->Fc
 | [],_=>⟨[],[],[]⟩
 |f::r,s=>if s=f.nm then f else fn0 r s
def cx (p:Pg) (R:Rs):Cx:=⟨fn0 p.fs,R⟩
def ms0 (p:Pg) (n:Nat):Ms:=⟨fun _=>0,arr0 p.vs,n,0,0⟩
def runF (p:Pg) (R:Rs) (k n:Nat):Oc:=
 match ((callF (fun s l y=>st (cx p R) k s l y) (fn0 p.fs tyMain) [] (ms0 p n)).then fun v s=>(sysL R s 0 (v%256) 0 0 []).then fun _ s=> .error s.long:ER Unit)with
 | .error o=>o
 | .ok (_,s)=>s.long
def runL (p:Pg) (R:Rs) (n:Nat):Oc:=runF p R (2*n) n
end Go.Proofs.YtddomeddabfinaaGreatDoor
