/-
  Parts of the proof: PlLexQ PlLexU ParP ParH ParI.
-/
import Derived.BigQuiet
import Derived.Test.YtelplgkppalmfaaGreatDoorPb08
import Derived.Test.YtelplgkppalmfaaGreatDoorPb04
import Derived.Maps.AppendAt
set_option maxRecDepth 100000
set_option maxHeartbeats 8000000
set_option linter.unusedVariables false
set_option linter.unusedSimpArgs false
namespace Go.Proofs.YtelplgkppalmfaaGreatDoor
open Go.Proofs.Tryz
open Go.RowKit
theorem tkRow_get: ∀(ts:List Tok) (i:Nat) (h:i<ts.length) (k:Nat),k<4->(tkRow ts)[i*4+k]? =(tkCells ts[i])[k]?
 |t::ts,0,h,k,hk=>by
  show(tkCells t++tkRow ts)[0*4+k]? =(tkCells t)[k]?;rw[Nat.zero_mul,Nat.zero_add,List.getElem?_append_left (by simpa[tkCells]using hk)]
 |t::ts,i+1,h,k,hk=>by
  have h':i<ts.length:=by simpa using h
  show(tkCells t++tkRow ts)[(i+1)*4+k]? =(tkCells ts[i])[k]?;rw[List.getElem?_append_right (by simp[tkCells];omega),<-tkRow_get ts i h' k hk]
  congr 1
  simp[tkCells];omega
structure Tks (w:World) (A:Option Addr) (cap:Nat) (ts:List Tok):Prop where
 le:ts.length<=cap
 max:cap<=maxLen
 rd:ts=[]\/ ∃b off,A=some ⟨b,off,none⟩/\b<w.heap.size/\ ∀i,(h:i<ts.length)->w.cell? ⟨b,off+i*4,none⟩=some (.int .i64 ts[i].k)/\w.cell? ⟨b,off+i*4+1,none⟩=some (.string (str ts[i].t))/\
  w.cell? ⟨b,off+i*4+2,none⟩=some (.int .i64 ts[i].v)/\w.cell? ⟨b,off+i*4+3,none⟩=some (.int .i64 ts[i].f)
theorem Tks.ext {w w':World} {A:Option Addr} {cap:Nat} {ts:List Tok} (h:Tks w A cap ts) (he:Ext w w'):Tks w' A cap ts:=
 ⟨h.le,h.max,h.rd.imp id fun⟨b,off,ha,hb,hc⟩=>⟨b,off,ha,Nat.lt_of_lt_of_le hb he.size,fun i hi=>
  let⟨h1,h2,h3,h4⟩:=hc i hi;⟨(he.cell b _ hb).trans h1,(he.cell b _ hb).trans h2,(he.cell b _ hb).trans h3,(he.cell b _ hb).trans h4⟩⟩⟩
theorem Tks.at_ {w:World} {A:Option Addr} {cap:Nat} {ts:List Tok} (h:Tks w A cap ts) (i:Nat) (hi:i<ts.length):
  ∃b off,A=some ⟨b,off,none⟩/\b<w.heap.size/\w.cell? ⟨b,off+i*4,none⟩=some (.int .i64 ts[i].k)/\w.cell? ⟨b,off+i*4+1,none⟩=some (.string (str ts[i].t))/\
  w.cell? ⟨b,off+i*4+2,none⟩=some (.int .i64 ts[i].v)/\w.cell? ⟨b,off+i*4+3,none⟩=some (.int .i64 ts[i].f):=by
 rcases h.rd with h0|⟨b,off,ha,hb,hc⟩
 ·subst h0;simp at hi
 ·exact⟨b,off,ha,hb,hc i hi⟩
theorem OwnT.tks {w:World} {base:Nat} {e:TypeId} {A:Option Addr} {n cap:Nat} {ts:List Tok} (h:OwnT w base e (.slice A n cap) ts):n=ts.length/\Tks w A cap ts:=by
 rcases h.2 with⟨hv,hn⟩|⟨g,c,cur,hv,hb,hg,hnc,hcm,hcs,ht⟩
 ·injection hv with a1 a2 a3;subst a1 a2 a3;have:ts=[]:=List.eq_nil_of_length_eq_zero hn;subst this;exact⟨rfl,by simp,by simp[maxLen], .inl rfl⟩
 ·injection hv with a1 a2 a3;subst a1 a2 a3;refine⟨rfl,hnc,hcm, .inr ⟨g,0,rfl,(Array.getElem?_eq_some_iff.1 hg).1,fun i hi=> ?_⟩⟩;have cell: ∀j y,(tkRow ts)[j]? =some y->w.cell? ⟨g,j,none⟩=some y:=fun j y hy=>by
   rw[cell_of_row w g j cur e (0,0) hg];rw[<-ht,List.getElem?_take]at hy;split at hy
   ·simpa using hy
   ·cases hy
  have g0:=tkRow_get ts i hi 0 (by omega);have g1:=tkRow_get ts i hi 1 (by omega);have g2:=tkRow_get ts i hi 2 (by omega);have g3:=tkRow_get ts i hi 3 (by omega);rw[Nat.zero_add];exact⟨cell _ _ g0,cell _ _ g1,cell _ _ g2,cell _ _ g3⟩
end Go.Proofs.YtelplgkppalmfaaGreatDoor
namespace Go.Proofs.YtelplgkppalmfaaGreatDoor
open Go.Proofs.Tryz
open Go.RowKit
theorem tokens_all (l:List UInt8) (w:World) (hz:EZ w):Calls prog 28 #[.string (str l)] w fun e w'=>TokensP 116 w.heap.size (toksR l) e w'/\Ext w w':=by
 by_cases hl:l.length<=100000
 ·exact tokens_any l hl w hz
 ·have hsz:(str l).size=l.length:=str_size l;have HRb:=hide (toksR_big l);have hbig:4000<l.length:=by omega
  have hbig':(4000:Int)<l.length:=by omega
  go_enter func28,ntmps28;go_wp2_with fail;exact bodyPost_ret (v:= .tuple #[.slice none 0 0, .int .i64 4000, .int .i64 6]) (by simp[results,results28,go_sem]) rfl ⟨by rw[HRb.out hbig];exact⟨none,0,rfl,OwnT.nil_ _ _ _⟩,Ext.refl _⟩
end Go.Proofs.YtelplgkppalmfaaGreatDoor
namespace Go.Proofs.YtelplgkppalmfaaGreatDoor
open Go.Proofs.Tryz
inductive Ex where
 |mk (k:Int) (op nm tx:List UInt8) (v:Int) (args:List Ex)
inductive St where
 |mk (k:Int) (nm:List UInt8) (ex:List Ex) (body els:List St)
structure Vr where
 nm:List UInt8
 sz:Int
structure Fc where
 nm:List UInt8
 ps:List (List UInt8)
 body:List St
structure Pg where
 vs:List Vr
 fs:List Fc
def Ex.k:Ex->Int| .mk k _ _ _ _ _=>k
def Ex.op:Ex->List UInt8| .mk _ o _ _ _ _=>o
def Ex.nm:Ex->List UInt8| .mk _ _ n _ _ _=>n
def Ex.tx:Ex->List UInt8| .mk _ _ _ t _ _=>t
def Ex.v:Ex->Int| .mk _ _ _ _ v _=>v
def Ex.args:Ex->List Ex| .mk _ _ _ _ _ a=>a
def St.k:St->Int| .mk k _ _ _ _=>k
def St.nm:St->List UInt8| .mk _ n _ _ _=>n
def St.ex:St->List Ex| .mk _ _ e _ _=>e
def St.body:St->List St| .mk _ _ _ b _=>b
def St.els:St->List St| .mk _ _ _ _ e=>e
def zT:Tok:=⟨0,[],0,0⟩
def hdT:List Tok->Tok
 | []=>zT
 |t::_=>t
def isL (s:List UInt8) (l:List Tok):Bool:=((hdT l).k==5||(hdT l).k==2)&&(hdT l).t==s
theorem isL_cons {s:List UInt8} {l:List Tok} (h:isL s l=true):l≠ []:=by
 intro e;subst e;simp[isL,hdT,zT]at h
theorem isL_tail {s:List UInt8} {l:List Tok} (h:isL s l=true):l.length=l.tail.length+1:=by
 cases l with
 |nil=>exact absurd rfl (isL_cons h)
 |cons t r=>rfl
def atT (en:Int):List Tok->Int
 | []=>en
 |t::_=>t.f
def lev (s:List UInt8):Int:=
 if s=[124,124]then 1 else if s=[38,38]then 2 else if s=[61,61]then 3 else if s=[33,61]then 3
 else if s=[60]then 4 else if s=[60,61]then 4 else if s=[62]then 4 else if s=[62,61]then 4
 else if s=[43]then 5 else if s=[45]then 5 else if s=[42]then 6 else if s=[47]then 6 else if s=[37]then 6 else 0
theorem lev_le (s:List UInt8):0<=lev s/\lev s<=6:=by
 unfold lev
 (repeat' split)<;>omega
abbrev PR (α:Type):=Except (List Tok×Int) (α×List Tok)
def PR.then {α β:Type} (x:PR α) (k:α->List Tok->PR β):PR β:=match x with
 | .error e=> .error e
 | .ok (a,r)=>k a r
def wantL (s:List UInt8) (l:List Tok):PR Unit:=if isL s l then .ok ((),l.tail)else .error (l,3)
def nameL (l:List Tok):PR (List UInt8):=if(hdT l).k=1 then .ok ((hdT l).t,l.tail)else .error (l,3)
def sLp:List UInt8:=[40]
def sRp:List UInt8:=[41]
def sLb:List UInt8:=[123]
def sRb:List UInt8:=[125]
def sLs:List UInt8:=[91]
def sRs:List UInt8:=[93]
def sCm:List UInt8:=[44]
def sSc:List UInt8:=[59]
def sEq:List UInt8:=[61]
def sMi:List UInt8:=[45]
def sNo:List UInt8:=[33]
def sVar:List UInt8:=[118,97,114]
def sFunc:List UInt8:=[102,117,110,99]
def sIf:List UInt8:=[105,102]
def sElse:List UInt8:=[101,108,115,101]
def sWhile:List UInt8:=[119,104,105,108,101]
def sReturn:List UInt8:=[114,101,116,117,114,110]
mutual
def pExpr:Nat->Int->List Tok->PR Ex
 |0,_,l=> .error (l,0)
 |f+1,n,l=>(pPrim f l).then fun x r=>pLoop f n x r
def pLoop:Nat->Int->Ex->List Tok->PR Ex
 |0,_,_,l=> .error (l,0)
 |f+1,n,x,l=>if(hdT l).k=5/\n<=lev (hdT l).t then(pExpr f (lev (hdT l).t+1) l.tail).then fun y r=>pLoop f n (.mk 7 (hdT l).t [] [] 0 [x,y]) r else .ok (x,l)
def pPrim:Nat->List Tok->PR Ex
 |0,l=> .error (l,0)
 |f+1,l=>
  if(hdT l).k=3 then .ok (.mk 1 [] [] [] (hdT l).v [],l.tail)
  else if(hdT l).k=4 then .ok (.mk 2 [] [] (hdT l).t 0 [],l.tail)
  else if(hdT l).k=1 then pNamed f (hdT l).t l.tail
  else if isL sMi l||isL sNo l then(pPrim f l.tail).then fun x r=> .ok (.mk 6 (hdT l).t [] [] 0 [x],r)
  else(wantL sLp l).then fun _ r=>(pExpr f 1 r).then fun x r=>(wantL sRp r).then fun _ r=> .ok (x,r)
def pNamed:Nat->List UInt8->List Tok->PR Ex
 |0,_,l=> .error (l,0)
 |f+1,nm,l=>
  if isL sLs l then(pExpr f 1 l.tail).then fun x r=>(wantL sRs r).then fun _ r=> .ok (.mk 4 [] nm [] 0 [x],r)
  else if isL sLp l then(pArgs f l.tail).then fun a r=> .ok (.mk 5 [] nm [] 0 a,r)
  else .ok (.mk 3 [] nm [] 0 [],l)
def pArgs:Nat->List Tok->PR (List Ex)
 |0,l=> .error (l,0)
 |f+1,l=>if isL sRp l then .ok ([],l.tail)else pArgs1 f [] l
def pArgs1:Nat->List Ex->List Tok->PR (List Ex)
 |0,_,l=> .error (l,0)
 |f+1,acc,l=>(pExpr f 1 l).then fun x r=>if isL sRp r then .ok (acc++[x],r.tail)else(wantL sCm r).then fun _ r=>pArgs1 f (acc++[x]) r
end
mutual
def pBlock:Nat->List Tok->PR (List St)
 |0,l=> .error (l,0)
 |f+1,l=>(wantL sLb l).then fun _ r=>pBlock1 f [] r
def pBlock1:Nat->List St->List Tok->PR (List St)
 |0,_,l=> .error (l,0)
 |f+1,acc,l=>if isL sRb l then .ok (acc,l.tail)else(pStmt f l).then fun s r=>pBlock1 f (acc++[s]) r
def pIf:Nat->List Tok->PR St
 |0,l=> .error (l,0)
 |f+1,l=>(pExpr f 1 l).then fun x r=>(pBlock f r).then fun b r=>
  if isL sElse r then
   if isL sIf r.tail then(pIf f r.tail.tail).then fun s r=> .ok (.mk 4 [] [x] b [s],r)
   else(pBlock f r.tail).then fun c r=> .ok (.mk 4 [] [x] b c,r)
  else .ok (.mk 4 [] [x] b [],r)
def pStmt:Nat->List Tok->PR St
 |0,l=> .error (l,0)
 |f+1,l=>
  if isL sIf l then pIf f l.tail
  else if isL sWhile l then(pExpr f 1 l.tail).then fun x r=>(pBlock f r).then fun b r=> .ok (.mk 5 [] [x] b [],r)
  else if isL sVar l then(nameL l.tail).then fun nm r=>
   (if isL sEq r then(pExpr f 1 r.tail).then fun x r=> .ok ([x],r)else .ok ([],r)).then fun ex r=>(wantL sSc r).then fun _ r=> .ok (.mk 1 nm ex [] [],r)
  else if isL sReturn l then(if isL sSc l.tail then .ok ([],l.tail)else(pExpr f 1 l.tail).then fun x r=> .ok ([x],r)).then fun ex r=>(wantL sSc r).then fun _ r=> .ok (.mk 6 [] ex [] [],r)
  else(nameL l).then fun nm r=>
   (if isL sLp r then(pNamed f nm r).then fun x r=> .ok (.mk 7 [] [x] [] [],r)
   else if isL sLs r then(pExpr f 1 r.tail).then fun i r=>(wantL sRs r).then fun _ r=>(wantL sEq r).then fun _ r=>(pExpr f 1 r).then fun x r=> .ok (.mk 3 nm [i,x] [] [],r)
   else(wantL sEq r).then fun _ r=>(pExpr f 1 r).then fun x r=> .ok (.mk 2 nm [x] [] [],r)).then fun s r=>(wantL sSc r).then fun _ r=> .ok (s,r)
end
def pVar (l:List Tok):PR Vr:=(nameL l).then fun nm r=>
 (if isL sLs r then
  if(hdT r.tail).k=3 then
   if(hdT r.tail).v<1\/2000<(hdT r.tail).v then .error (r.tail,2)else(wantL sRs r.tail.tail).then fun _ q=> .ok ((hdT r.tail).v,q)
  else .error (r.tail,3)
 else .ok (0,r)).then fun sz r=>(wantL sSc r).then fun _ r=> .ok (⟨nm,sz⟩,r)
def pNames1:Nat->List (List UInt8)->List Tok->PR (List (List UInt8))
 |0,_,l=> .error (l,0)
 |f+1,acc,l=>(nameL l).then fun x r=>if isL sRp r then .ok (acc++[x],r.tail)else(wantL sCm r).then fun _ r=>pNames1 f (acc++[x]) r
def pNames (f:Nat) (l:List Tok):PR (List (List UInt8)):=if isL sRp l then .ok ([],l.tail)else pNames1 f [] l
def pFunc (f:Nat) (l:List Tok):PR Fc:=(nameL l).then fun nm r=>(wantL sLp r).then fun _ r=>(pNames f r).then fun ps r=>(pBlock f r).then fun b r=> .ok (⟨nm,ps,b⟩,r)
def pProg:Nat->Pg->List Tok->PR Pg
 |0,_,l=> .error (l,0)
 |f+1,p,l=>if l=[]then .ok (p,[])
  else if isL sVar l then(pVar l.tail).then fun v r=>pProg f ⟨p.vs++[v],p.fs⟩ r
  else(wantL sFunc l).then fun _ r=>(pFunc f r).then fun c r=>pProg f ⟨p.vs,p.fs++[c]⟩ r
theorem PR.then_ok {α β:Type} {x:PR α} {k:α->List Tok->PR β} {b:β} {r:List Tok} (h:x.then k= .ok (b,r)): ∃a q,x= .ok (a,q)/\k a q= .ok (b,r):=by
 unfold PR.then at h;split at h
 ·cases h
 ·exact⟨_,_,rfl,h⟩
theorem wantL_ok {s:List UInt8} {l r:List Tok} {u:Unit} (h:wantL s l= .ok (u,r)):isL s l=true/\r=l.tail/\l.length=r.length+1:=by
 unfold wantL at h;split at h
 ·rename_i h1;injection h with h;injection h with _ h;subst h;exact⟨h1,rfl,isL_tail h1⟩
 ·cases h
theorem tail_lt {l:List Tok} (h:(hdT l).k≠0):l.length=l.tail.length+1:=by
 cases l with
 |nil=>exact absurd rfl h
 |cons t r=>rfl
theorem nameL_ok {l r:List Tok} {nm:List UInt8} (h:nameL l= .ok (nm,r)):(hdT l).k=1/\nm=(hdT l).t/\r=l.tail/\l.length=r.length+1:=by
 unfold nameL at h;split at h
 ·rename_i h1;injection h with h;injection h with h2 h;subst h h2;exact⟨h1,rfl,rfl,tail_lt (by rw[h1];decide)⟩
 ·cases h
theorem ok_inj {α:Type} {a b:α} {r q:List Tok} (h:(Except.ok (a,r):PR α)= .ok (b,q)):a=b/\r=q:=by
 injection h with h;injection h with h1 h2;exact⟨h1,h2⟩
theorem expr_lt: ∀(f:Nat),
  (∀n l x r,pExpr f n l= .ok (x,r)->r.length<l.length)/\(∀n y l x r,pLoop f n y l= .ok (x,r)->r.length<=l.length)/\
  (∀l x r,pPrim f l= .ok (x,r)->r.length<l.length)/\(∀nm l x r,pNamed f nm l= .ok (x,r)->r.length<=l.length)/\
  (∀l x r,pArgs f l= .ok (x,r)->r.length<l.length)/\(∀acc l x r,pArgs1 f acc l= .ok (x,r)->r.length<l.length)
 |0=>by
  refine⟨?_,?_,?_,?_,?_,?_⟩;all_goals (intros;rename_i h;simp[pExpr,pLoop,pPrim,pNamed,pArgs,pArgs1]at h)
 |f+1=>by
  obtain⟨iE,iL,iP,iN,iA,iB⟩:=expr_lt f;refine⟨?_,?_,?_,?_,?_,?_⟩
  ·intro n l x r h;rw[pExpr]at h;obtain⟨a,q,h1,h2⟩:=PR.then_ok h;have:=iP _ _ _ h1;have:=iL _ _ _ _ _ h2;omega
  ·intro n y l x r h;rw[pLoop]at h;split at h
   ·rename_i hk;obtain⟨a,q,h1,h2⟩:=PR.then_ok h;have:=iE _ _ _ _ h1;have:=iL _ _ _ _ _ h2;have:=tail_lt (l:=l) (by rw[hk.1];decide);omega
   ·rw[(ok_inj h).2];exact Nat.le_refl _
  ·intro l x r h;rw[pPrim]at h;split at h
   ·rename_i hk;have:=tail_lt (l:=l) (by rw[hk];decide);rw[<-(ok_inj h).2];omega
   ·split at h
    ·rename_i hk;have:=tail_lt (l:=l) (by rw[hk];decide);rw[<-(ok_inj h).2];omega
    ·split at h
     ·rename_i hk;have:=tail_lt (l:=l) (by rw[hk];decide);have:=iN _ _ _ _ h;omega
     ·split at h
      ·rename_i hk;obtain⟨a,q,h1,h2⟩:=PR.then_ok h;have:=iP _ _ _ h1;have h3:=(ok_inj h2).2;have:l.length=l.tail.length+1:=by
        rw[Bool.or_eq_true]at hk;rcases hk with hk|hk<;>exact isL_tail hk
       subst h3;omega
      ·obtain⟨a,q,h1,h2⟩:=PR.then_ok h;obtain⟨a',q',h3,h4⟩:=PR.then_ok h2;obtain⟨a'',q'',h5,h6⟩:=PR.then_ok h4;have:=(wantL_ok h1).2.2;have:=iE _ _ _ _ h3;have:=(wantL_ok h5).2.2;have h7:=(ok_inj h6).2;subst h7;omega
  ·intro nm l x r h;rw[pNamed]at h;split at h
   ·rename_i hk;obtain⟨a,q,h1,h2⟩:=PR.then_ok h;obtain⟨a',q',h3,h4⟩:=PR.then_ok h2;have:=isL_tail hk;have:=iE _ _ _ _ h1;have:=(wantL_ok h3).2.2;have h7:=(ok_inj h4).2;subst h7;omega
   ·split at h
    ·rename_i hk;obtain⟨a,q,h1,h2⟩:=PR.then_ok h;have:=isL_tail hk;have:=iA _ _ _ h1;have h7:=(ok_inj h2).2;subst h7;omega
    ·have:=(ok_inj h).2;subst this;omega
  ·intro l x r h;rw[pArgs]at h;split at h
   ·rename_i hk;have:=isL_tail hk;have h7:=(ok_inj h).2;subst h7;omega
   ·exact iB _ _ _ _ h
  ·intro acc l x r h;rw[pArgs1]at h;obtain⟨a,q,h1,h2⟩:=PR.then_ok h;have:=iE _ _ _ _ h1;split at h2
   ·rename_i hk;have:=isL_tail hk;have h7:=(ok_inj h2).2;subst h7;omega
   ·obtain⟨a',q',h3,h4⟩:=PR.then_ok h2;have:=(wantL_ok h3).2.2;have:=iB _ _ _ _ h4;omega
theorem stmt_lt: ∀(f:Nat),
  (∀l x r,pBlock f l= .ok (x,r)->r.length<l.length)/\(∀acc l x r,pBlock1 f acc l= .ok (x,r)->r.length<l.length)/\
  (∀l x r,pIf f l= .ok (x,r)->r.length<l.length)/\(∀l x r,pStmt f l= .ok (x,r)->r.length<l.length)
 |0=>by
  refine⟨?_,?_,?_,?_⟩;all_goals (intros;rename_i h;simp[pBlock,pBlock1,pIf,pStmt]at h)
 |f+1=>by
  obtain⟨iB,iC,iI,iS⟩:=stmt_lt f;obtain⟨iE,_,_,iN,_,_⟩:=expr_lt f;refine⟨?_,?_,?_,?_⟩
  ·intro l x r h;rw[pBlock]at h;obtain⟨a,q,h1,h2⟩:=PR.then_ok h;have:=(wantL_ok h1).2.2;have:=iC _ _ _ _ h2;omega
  ·intro acc l x r h;rw[pBlock1]at h;split at h
   ·rename_i hk;have:=isL_tail hk;have h7:=(ok_inj h).2;subst h7;omega
   ·obtain⟨a,q,h1,h2⟩:=PR.then_ok h;have:=iS _ _ _ h1;have:=iC _ _ _ _ h2;omega
  ·intro l x r h;rw[pIf]at h;obtain⟨a,q,h1,h2⟩:=PR.then_ok h;obtain⟨a',q',h3,h4⟩:=PR.then_ok h2;have:=iE _ _ _ _ h1;have:=iB _ _ _ h3;split at h4
   ·rename_i hk;have:=isL_tail hk;split at h4
    ·rename_i hk2;have:=isL_tail hk2;obtain⟨a2,q2,h5,h6⟩:=PR.then_ok h4;have:=iI _ _ _ h5;have h7:=(ok_inj h6).2;subst h7;omega
    ·obtain⟨a2,q2,h5,h6⟩:=PR.then_ok h4;have:=iB _ _ _ h5;have h7:=(ok_inj h6).2;subst h7;omega
   ·have h7:=(ok_inj h4).2;subst h7;omega
  ·intro l x r h;rw[pStmt]at h;split at h
   ·rename_i hk;have:=isL_tail hk;have:=iI _ _ _ h;omega
   split at h
   ·rename_i hk;have:=isL_tail hk;obtain⟨a,q,h1,h2⟩:=PR.then_ok h;obtain⟨a',q',h3,h4⟩:=PR.then_ok h2;have:=iE _ _ _ _ h1;have:=iB _ _ _ h3;have h7:=(ok_inj h4).2;subst h7;omega
   split at h
   ·rename_i hk;have:=isL_tail hk;obtain⟨a,q,h1,h2⟩:=PR.then_ok h;obtain⟨a',q',h3,h4⟩:=PR.then_ok h2;obtain⟨a2,q2,h5,h6⟩:=PR.then_ok h4;have:=(nameL_ok h1).2.2.2;have:=(wantL_ok h5).2.2;have h7:=(ok_inj h6).2;subst h7;split at h3
    ·rename_i hk2;have:=isL_tail hk2;obtain⟨a3,q3,h8,h9⟩:=PR.then_ok h3;have:=iE _ _ _ _ h8;have h10:=(ok_inj h9).2;subst h10;omega
    ·have h10:=(ok_inj h3).2;subst h10;omega
   split at h
   ·rename_i hk;have:=isL_tail hk;obtain⟨a',q',h3,h4⟩:=PR.then_ok h;obtain⟨a2,q2,h5,h6⟩:=PR.then_ok h4;have:=(wantL_ok h5).2.2;have h7:=(ok_inj h6).2;subst h7;split at h3
    ·have h10:=(ok_inj h3).2;subst h10;omega
    ·obtain⟨a3,q3,h8,h9⟩:=PR.then_ok h3;have:=iE _ _ _ _ h8;have h10:=(ok_inj h9).2;subst h10;omega
   ·obtain⟨a,q,h1,h2⟩:=PR.then_ok h;obtain⟨a',q',h3,h4⟩:=PR.then_ok h2;obtain⟨a2,q2,h5,h6⟩:=PR.then_ok h4;have:=(nameL_ok h1).2.2.2;have:=(wantL_ok h5).2.2;have h7:=(ok_inj h6).2;subst h7;split at h3
    ·obtain⟨a3,q3,h8,h9⟩:=PR.then_ok h3;have:=iN _ _ _ _ h8;have h10:=(ok_inj h9).2;subst h10;omega
    ·split at h3
     ·rename_i hk;have:=isL_tail hk;obtain⟨b1,r1,g1,g2⟩:=PR.then_ok h3;obtain⟨b2,r2,g3,g4⟩:=PR.then_ok g2;obtain⟨b3,r3,g5,g6⟩:=PR.then_ok g4;obtain⟨b4,r4,g7,g8⟩:=PR.then_ok g6;have:=iE _ _ _ _ g1;have:=(wantL_ok g3).2.2;have:=(wantL_ok g5).2.2;have:=iE _ _ _ _ g7;have h10:=(ok_inj g8).2;subst h10;omega
     ·obtain⟨b1,r1,g1,g2⟩:=PR.then_ok h3;obtain⟨b2,r2,g3,g4⟩:=PR.then_ok g2;have:=(wantL_ok g1).2.2;have:=iE _ _ _ _ g3;have h10:=(ok_inj g4).2;subst h10;omega
end Go.Proofs.YtelplgkppalmfaaGreatDoor
namespace Go.Proofs.YtelplgkppalmfaaGreatDoor
open Go.Proofs.Tryz
open Go.RowKit
inductive RdE (w:World) (P:Nat->Prop):Value->List Ex->Prop where
 |nil (A:Option Addr) (c:Nat):RdE w P (.slice A 0 c) []
 |row (b o n c:Nat) (xs:List Ex) (av:Nat->Value) (hP:P b) (hb:b<w.heap.size) (hn:xs.length=n) (hnc:n<=c) (hm:c<=maxLen)
   (hc: ∀i,(h:i<xs.length)->w.cell? ⟨b,o+i*6,none⟩=some (.int .i64 xs[i].k)/\w.cell? ⟨b,o+i*6+1,none⟩=some (.string (str xs[i].op))/\w.cell? ⟨b,o+i*6+2,none⟩=some (.string (str xs[i].nm))/\
    w.cell? ⟨b,o+i*6+3,none⟩=some (.string (str xs[i].tx))/\w.cell? ⟨b,o+i*6+4,none⟩=some (.int .i64 xs[i].v)/\w.cell? ⟨b,o+i*6+5,none⟩=some (av i))
   (hs: ∀i,(h:i<xs.length)->RdE w P (av i) (Ex.args xs[i])):RdE w P (.slice (some ⟨b,o,none⟩) n c) xs
structure KeepP (P:Nat->Prop) (w w':World):Prop where
 size:w.heap.size<=w'.heap.size
 block: ∀b,P b->b<w.heap.size->w'.heap[b]? =w.heap[b]?
theorem KeepP.cell {P:Nat->Prop} {w w':World} (h:KeepP P w w') {b:Nat} (o:Nat) (hP:P b) (hb:b<w.heap.size):w'.cell? ⟨b,o,none⟩=w.cell? ⟨b,o,none⟩:=
 World.cell?_of_block (w:=w) (a:=⟨b,o,none⟩) (h.block b hP hb)
theorem KeepP.of_grown {P:Nat->Prop} {w w':World} {row:Option Nat} (h:w.grownBy w' row) (hr: ∀b,P b->some b≠row):KeepP P w w':=⟨h.size,fun b hP hb=>h.block b hb (hr b hP)⟩
theorem KeepP.of_ext {P:Nat->Prop} {w w':World} (h:Ext w w'):KeepP P w w':=⟨h.size,fun b _ hb=>h.obj hb⟩
theorem RdE.keep {w w':World} {P Q:Nat->Prop} {v:Value} {xs:List Ex} (h:RdE w P v xs) (hk:KeepP P w w') (hQ: ∀b,P b->b<w.heap.size->Q b):RdE w' Q v xs:=by
 induction h with
 |nil A c=>exact .nil A c
 |row b o n c xs av hP hb hn hnc hm hc hs ih=>
  refine .row b o n c xs av (hQ b hP hb) (Nat.lt_of_lt_of_le hb hk.size) hn hnc hm (fun i hi=> ?_) ih;obtain⟨h0,h1,h2,h3,h4,h5⟩:=hc i hi;exact⟨(hk.cell _ hP hb).trans h0,(hk.cell _ hP hb).trans h1,(hk.cell _ hP hb).trans h2,(hk.cell _ hP hb).trans h3,(hk.cell _ hP hb).trans h4,(hk.cell _ hP hb).trans h5⟩
theorem RdE.mono {w:World} {P Q:Nat->Prop} {v:Value} {xs:List Ex} (h:RdE w P v xs) (hQ: ∀b,P b->b<w.heap.size->Q b):RdE w Q v xs:=h.keep ⟨Nat.le_refl _,fun _ _ _=>rfl⟩ hQ
theorem RdE.form {w:World} {P:Nat->Prop} {v:Value} {xs:List Ex} (h:RdE w P v xs): ∃A c,v= .slice A xs.length c/\(xs=[]\/xs.length<=c/\c<=maxLen/\ ∃b o,A=some ⟨b,o,none⟩/\b<w.heap.size):=by
 cases h with
 |nil A c=>exact⟨A,c,rfl, .inl rfl⟩
 |row b o n c xs av hP hb hn hnc hm hc hs=>exact⟨_,c,by rw[hn], .inr ⟨by omega,hm,b,o,rfl,hb⟩⟩
theorem RdE.at_ {w:World} {P:Nat->Prop} {A:Option Addr} {n c:Nat} {xs:List Ex} (h:RdE w P (.slice A n c) xs) (i:Nat) (hi:i<xs.length):
  ∃b o a,A=some ⟨b,o,none⟩/\b<w.heap.size/\P b/\w.cell? ⟨b,o+i*6,none⟩=some (.int .i64 xs[i].k)/\w.cell? ⟨b,o+i*6+1,none⟩=some (.string (str xs[i].op))/\w.cell? ⟨b,o+i*6+2,none⟩=some (.string (str xs[i].nm))/\
   w.cell? ⟨b,o+i*6+3,none⟩=some (.string (str xs[i].tx))/\w.cell? ⟨b,o+i*6+4,none⟩=some (.int .i64 xs[i].v)/\w.cell? ⟨b,o+i*6+5,none⟩=some a/\RdE w P a (Ex.args xs[i]):=by
 cases h with
 |nil=>simp at hi
 |row b o n c xs av hP hb hn hnc hm hc hs=>
  obtain⟨h0,h1,h2,h3,h4,h5⟩:=hc i hi;exact⟨b,o,av i,rfl,hb,hP,h0,h1,h2,h3,h4,h5,hs i hi⟩
def exC (x:Ex) (a:Value):List Value:=[.int .i64 x.k, .string (str x.op), .string (str x.nm), .string (str x.tx), .int .i64 x.v,a]
def exRow (l:List (Ex×Value)):List Value:=l.flatMap fun p=>exC p.1 p.2
theorem exRow_length: ∀l:List (Ex×Value),(exRow l).length=l.length*6
 | []=>rfl
 |p::l=>by
  have:=exRow_length l;simp only[exRow,List.flatMap_cons,List.length_append,exC,List.length_cons,List.length_nil]at this⊢;omega
theorem exRow_app (a b:List (Ex×Value)):exRow (a++b)=exRow a++exRow b:=by simp[exRow]
theorem exRow_get: ∀(l:List (Ex×Value)) (i:Nat) (h:i<l.length) (k:Nat),k<6->(exRow l)[i*6+k]? =(exC l[i].1 l[i].2)[k]?
 | [],i,h,k,hk=>by simp at h
 |p::l,0,h,k,hk=>by
  simp only[exRow,List.flatMap_cons,Nat.zero_mul,Nat.zero_add,List.getElem_cons_zero];rw[List.getElem?_append_left (by simp[exC];omega)]
 |p::l,i+1,h,k,hk=>by
  have:=exRow_get l i (by simpa using h) k hk;simp only[exRow,List.flatMap_cons,List.getElem_cons_succ]at this⊢;rw[List.getElem?_append_right (by simp[exC];omega),<-this]
  congr 1
  simp[exC];omega
def OwnE (w:World) (base:Nat) (e:TypeId) (v:Value) (l:List (Ex×Value)):Prop:=
 w.ownsRow base e 6 v l.length (exRow l)/\ ∀p,p∈l->RdE w (fun b=>base<=b/\some b≠v.ownBlock) p.2 p.1.args
theorem OwnE.nil_ (w:World) (base:Nat) (e:TypeId):OwnE w base e (.slice none 0 0) []:=⟨World.ownsRow_nil w base e 6,fun p hp=>by cases hp⟩
theorem OwnE.grown {w w':World} {base:Nat} {e:TypeId} {v:Value} {l:List (Ex×Value)} {row:Option Nat} (h:OwnE w base e v l) (hg:w.grownBy w' row) (hr: ∀k,row=some k->k<base):OwnE w' base e v l:=by
 refine⟨World.ownsRow.kept h.1 hg ?_,fun p hp=> ?_⟩
 ·cases hv:v.ownBlock with
  |none=>exact .inl rfl
  |some k=>
   refine .inr fun e=> ?_;have:=(World.ownsRow.lt h.1 k hv).1;have:=hr k e.symm;omega
 ·exact(h.2 p hp).keep (.of_grown hg fun b hb e=>by have:=hr b e.symm;omega) fun b hb _=>hb
theorem OwnE.ext {w w':World} {base:Nat} {e:TypeId} {v:Value} {l:List (Ex×Value)} (h:OwnE w base e v l) (he:Ext w w'):OwnE w' base e v l:=h.grown (he.grownBy none) (fun k hk=>by cases hk)
theorem OwnE.rd {w:World} {base:Nat} {e:TypeId} {v:Value} {l:List (Ex×Value)} (h:OwnE w base e v l):RdE w (fun b=>base<=b) v (l.map (·.1)):=by
 rcases h.1.2 with⟨rfl,h0⟩|⟨g,cap,cur,rfl,hb,hg,hnc,hcm,hcs,ht⟩
 ·have:l=[]:=List.eq_nil_of_length_eq_zero h0;subst this;exact .nil _ _
 ·have hlt:g<w.heap.size:=(Array.getElem?_eq_some_iff.1 hg).1;have cell: ∀j y,(exRow l)[j]? =some y->w.cell? ⟨g,j,none⟩=some y:=fun j y hy=>by
   rw[cell_of_row w g j cur e (0,0) hg];rw[<-ht,List.getElem?_take]at hy;split at hy
   ·simpa using hy
   ·cases hy
  refine .row g 0 l.length cap _ (fun i=>if h:i<l.length then l[i].2 else .slice none 0 0) hb hlt (by simp) hnc hcm (fun i hi=> ?_) (fun i hi=> ?_)
  ·have hi':i<l.length:=by simpa using hi
   have q:=fun k hk=>exRow_get l i hi' k hk;have e0:(l.map (·.1))[i]=l[i].1:=by simp
   rw[e0,dif_pos hi',Nat.zero_add];exact⟨cell _ _ (q 0 (by omega)),cell _ _ (q 1 (by omega)),cell _ _ (q 2 (by omega)),cell _ _ (q 3 (by omega)),cell _ _ (q 4 (by omega)),cell _ _ (q 5 (by omega))⟩
  ·have hi':i<l.length:=by simpa using hi
   have e0:(l.map (·.1))[i]=l[i].1:=by simp
   rw[e0,dif_pos hi'];exact(h.2 l[i] (List.getElem_mem hi')).mono fun b hb _=>hb.1
theorem RdE.one {w:World} {P:Nat->Prop} {gb:Nat} {e:TypeId} {x:Ex} {a:Value} (hB:Blk w gb e #[.int .i64 x.k, .string (str x.op), .string (str x.nm), .string (str x.tx), .int .i64 x.v,a]) (hP:P gb) (h:RdE w P a x.args):RdE w P (.slice (some ⟨gb,0,none⟩) 1 1) [x]:=by
 refine .row gb 0 1 1 [x] (fun _=>a) hP hB.lt rfl (Nat.le_refl _) (by simp[maxLen]) (fun i hi=> ?_) (fun i hi=> ?_)
 ·have hi:i=0:=by simpa using hi
  subst hi;exact⟨hB.cell 0,hB.cell 1,hB.cell 2,hB.cell 3,hB.cell 4,hB.cell 5⟩
 ·have hi:i=0:=by simpa using hi
  subst hi;exact h
theorem RdE.two {w:World} {P:Nat->Prop} {gb:Nat} {e:TypeId} {x y:Ex} {a b:Value} (hB:Blk w gb e #[.int .i64 x.k, .string (str x.op), .string (str x.nm), .string (str x.tx), .int .i64 x.v,a, .int .i64 y.k, .string (str y.op), .string (str y.nm), .string (str y.tx), .int .i64 y.v,b]) (hP:P gb) (h:RdE w P a x.args) (h':RdE w P b y.args):RdE w P (.slice (some ⟨gb,0,none⟩) 2 2) [x,y]:=by
 refine .row gb 0 2 2 [x,y] (fun i=>if i=0 then a else b) hP hB.lt rfl (Nat.le_refl _) (by simp[maxLen]) (fun i hi=> ?_) (fun i hi=> ?_)
 ·have hi:i<2:=hi;obtain rfl|rfl:i=0\/i=1:=by omega
  ·exact⟨hB.cell 0,hB.cell 1,hB.cell 2,hB.cell 3,hB.cell 4,hB.cell 5⟩
  ·exact⟨hB.cell 6,hB.cell 7,hB.cell 8,hB.cell 9,hB.cell 10,hB.cell 11⟩
 ·have hi:i<2:=hi;obtain rfl|rfl:i=0\/i=1:=by omega
  ·exact h
  ·exact h'
structure RowT (P:Program) (t e:TypeId) (size bytes:Nat) (z:Value):Prop where
 under:P.underlying t=some (.slice e)
 info:(P.info? e).map (fun i=>(i.zero,i.size,i.bytes))=some (some z,size,bytes)
 cells:z.cells.size=size
 pos:0<size
theorem run_app1 {P:Program} {w:World} {t e:TypeId} {size bytes:Nat} {z:Value} (hT:RowT P t e size bytes z) (ty:TypeId) (base:Nat) (v:Value) (n:Nat) (xs:List Value) (hown:w.ownsRow base e size v n xs) (g:Nat) (news:List Value)
  (hg:w.heap[g]? =some (.cells news.toArray e (0,0))) (hl:news.length=size) (h1: ∀u∈news,u.oneCell'=true) (hb:n<=1073741824) (hy:bytes<=1000) (hbase:base<=w.heap.size):
  ∃A' cap' w',(Builtin.append_ #[t,t] ty #[v, .slice (some ⟨g,0,none⟩) 1 1]).run P w= .ok (.slice (some ⟨A',0,none⟩) (n+1) cap') w'/\w'.ownsRow base e size (.slice (some ⟨A',0,none⟩) (n+1) cap') (n+1) (xs++news)/\w.grownBy w' v.ownBlock/\
   (some A'=v.ownBlock\/A'=w.heap.size):=by
 obtain⟨i,hi,hz,hz1,hz2⟩:=info_parts hT.info;obtain⟨v',w',hr,h2,h3,_,h5⟩:=run_append_own_at (P:=P) w base t ty e i z size bytes hT.under hi hz hz1 hz2 hT.cells hT.pos v n xs hown ⟨g,0,none⟩ 1 1 news (by rw[hl,Nat.one_mul])
  (fun j y hj=>by
   rw[Addr.add_lit,Nat.zero_add,cell_of_row w g j _ e (0,0) hg];simpa using hj) h1 (by simp only[maxLen];omega) (by
    have:(n+1)*bytes<=(n+1)*1000:=Nat.mul_le_mul_left _ hy
    omega) hbase
 rcases h2.2 with⟨_,h0⟩|⟨g',cap',cur,rfl,hx⟩
 ·omega
 ·refine⟨g',cap',w',hr,h2,h3,?_⟩;rcases h5 with h5|h5
  ·exact .inl h5
  ·exact .inr (Option.some.inj h5)
theorem wpList_app1 {P:Program} {w:World} {ops:Array Oper} {rest:List Oper} {o:Oper} {a:Act} {Q:Exit->Act->World->Prop} {t e:TypeId} {size bytes:Nat} {z:Value} (hT:RowT P t e size bytes z) (hgd:o.guard=none) (s x:Operand)
  (ho:o.op= .call {callee:= .builtin .append,args:= #[s,x],argTypes:= #[t,t]}) (base:Nat) (v:Value) (n:Nat) (xs:List Value) (hv:a.eval s=v) (hown:w.ownsRow base e size v n xs)
  (g:Nat) (news:List Value) (hx:a.eval x= .slice (some ⟨g,0,none⟩) 1 1) (hg:w.heap[g]? =some (.cells news.toArray e (0,0))) (hl:news.length=size) (h1: ∀u∈news,u.oneCell'=true) (hb:n<=1073741824) (hy:bytes<=1000) (hbase:base<=w.heap.size)
  (h: ∀A' cap' w',w'.ownsRow base e size (.slice (some ⟨A',0,none⟩) (n+1) cap') (n+1) (xs++news)->w.grownBy w' v.ownBlock->(some A'=v.ownBlock\/A'=w.heap.size)->
   wpList P ops Q rest (a.put o.dst (.slice (some ⟨A',0,none⟩) (n+1) cap')) w'):
  wpList P ops Q (o::rest) a w:=by
 obtain⟨A',cap',w',hr,h1,h2,h3⟩:=run_app1 (P:=P) (w:=w) hT o.type base v n xs hown g news hg hl h1 hb hy hbase;refine wpList_plain hgd fun K hK=> ?_;unfold Oper.wp execOp;simp only[ho,resolve,invoke,builtin,Sem.run_bind,Sem.run_pure,Result.andThen_ok,List.map_toArray,List.map_cons,List.map_nil,hv,hx,hr];exact hK _ _ (h A' cap' w' h1 h2 h3)
theorem wp_app1 {P:Program} {w:World} {o:Oper} {a:Act} {K:Act->World->Prop} {Q:Exit->Act->World->Prop} {t e:TypeId} {size bytes:Nat} {z:Value} (hT:RowT P t e size bytes z) (s x:Operand)
  (ho:o.op= .call {callee:= .builtin .append,args:= #[s,x],argTypes:= #[t,t]}) (base:Nat) (v:Value) (n:Nat) (xs:List Value) (hv:a.eval s=v) (hown:w.ownsRow base e size v n xs)
  (g:Nat) (news:List Value) (hx:a.eval x= .slice (some ⟨g,0,none⟩) 1 1) (hg:w.heap[g]? =some (.cells news.toArray e (0,0))) (hl:news.length=size) (h1: ∀u∈news,u.oneCell'=true) (hb:n<=1073741824) (hy:bytes<=1000) (hbase:base<=w.heap.size)
  (h: ∀A' cap' w',w'.ownsRow base e size (.slice (some ⟨A',0,none⟩) (n+1) cap') (n+1) (xs++news)->w.grownBy w' v.ownBlock->(some A'=v.ownBlock\/A'=w.heap.size)->
   K (a.put o.dst (.slice (some ⟨A',0,none⟩) (n+1) cap')) w'):
  o.wp P a w K Q:=by
 obtain⟨A',cap',w',hr,h1,h2,h3⟩:=run_app1 (P:=P) (w:=w) hT o.type base v n xs hown g news hg hl h1 hb hy hbase;unfold Oper.wp execOp;simp only[ho,resolve,invoke,builtin,Sem.run_bind,Sem.run_pure,Result.andThen_ok,List.map_toArray,List.map_cons,List.map_nil,hv,hx,hr];exact h A' cap' w' h1 h2 h3
theorem OwnE.snoc {w w':World} {base:Nat} {e:TypeId} {v:Value} {l:List (Ex×Value)} {x:Ex} {a:Value} {A cap:Nat} (h:OwnE w base e v l) (ha:RdE w (fun b=>base<=b/\some b≠v.ownBlock) a x.args)
  (hn:w'.ownsRow base e 6 (.slice (some ⟨A,0,none⟩) (l.length+1) cap) (l.length+1) (exRow l++exC x a)) (hg:w.grownBy w' v.ownBlock) (hA:some A=v.ownBlock\/A=w.heap.size):
  OwnE w' base e (.slice (some ⟨A,0,none⟩) (l.length+1) cap) (l++[(x,a)]):=by
 have hk:KeepP (fun b=>base<=b/\some b≠v.ownBlock) w w':= .of_grown hg fun b hb=>hb.2;have hq: ∀b,(base<=b/\some b≠v.ownBlock)->b<w.heap.size->(base<=b/\some b≠Value.ownBlock (.slice (some ⟨A,0,none⟩) (l.length+1) cap)):=fun b hb hlt=>by
  refine⟨hb.1,fun e=> ?_⟩;have e:b=A:=Option.some.inj e;rcases hA with hA|hA
  ·exact hb.2 (by rw[e,hA])
  ·omega
 refine⟨by rw[List.length_append,exRow_app];simpa[exRow]using hn,fun p hp=> ?_⟩;rcases List.mem_append.1 hp with hp|hp
 ·exact(h.2 p hp).keep hk hq
 ·rw[List.mem_singleton]at hp;subst hp;exact ha.keep hk hq
end Go.Proofs.YtelplgkppalmfaaGreatDoor
namespace Go.Proofs.YtelplgkppalmfaaGreatDoor
open Go.Proofs.Tryz
open Go.RowKit
inductive RdS (w:World) (P:Nat->Prop):Value->List St->Prop where
 |nil (A:Option Addr) (c:Nat):RdS w P (.slice A 0 c) []
 |row (b o n c:Nat) (xs:List St) (es bs ls:Nat->Value) (hP:P b) (hb:b<w.heap.size) (hn:xs.length=n) (hnc:n<=c) (hm:c<=maxLen)
   (hc: ∀i,(h:i<xs.length)->w.cell? ⟨b,o+i*5,none⟩=some (.int .i64 xs[i].k)/\w.cell? ⟨b,o+i*5+1,none⟩=some (.string (str xs[i].nm))/\w.cell? ⟨b,o+i*5+2,none⟩=some (es i)/\
    w.cell? ⟨b,o+i*5+3,none⟩=some (bs i)/\w.cell? ⟨b,o+i*5+4,none⟩=some (ls i))
   (he: ∀i,(h:i<xs.length)->RdE w P (es i) (St.ex xs[i]))
   (hs: ∀i,(h:i<xs.length)->RdS w P (bs i) (St.body xs[i]))
   (hl: ∀i,(h:i<xs.length)->RdS w P (ls i) (St.els xs[i])):RdS w P (.slice (some ⟨b,o,none⟩) n c) xs
theorem RdS.keep {w w':World} {P Q:Nat->Prop} {v:Value} {xs:List St} (h:RdS w P v xs) (hk:KeepP P w w') (hQ: ∀b,P b->b<w.heap.size->Q b):RdS w' Q v xs:=by
 induction h with
 |nil A c=>exact .nil A c
 |row b o n c xs es bs ls hP hb hn hnc hm hc he hs hl ih1 ih2=>
  refine .row b o n c xs es bs ls (hQ b hP hb) (Nat.lt_of_lt_of_le hb hk.size) hn hnc hm (fun i hi=> ?_) (fun i hi=>(he i hi).keep hk hQ) ih1 ih2;obtain⟨h0,h1,h2,h3,h4⟩:=hc i hi;exact⟨(hk.cell _ hP hb).trans h0,(hk.cell _ hP hb).trans h1,(hk.cell _ hP hb).trans h2,(hk.cell _ hP hb).trans h3,(hk.cell _ hP hb).trans h4⟩
theorem RdS.mono {w:World} {P Q:Nat->Prop} {v:Value} {xs:List St} (h:RdS w P v xs) (hQ: ∀b,P b->b<w.heap.size->Q b):RdS w Q v xs:=h.keep ⟨Nat.le_refl _,fun _ _ _=>rfl⟩ hQ
theorem RdS.form {w:World} {P:Nat->Prop} {v:Value} {xs:List St} (h:RdS w P v xs): ∃A c,v= .slice A xs.length c/\(xs=[]\/xs.length<=c/\c<=maxLen/\ ∃b o,A=some ⟨b,o,none⟩/\b<w.heap.size):=by
 cases h with
 |nil A c=>exact⟨A,c,rfl, .inl rfl⟩
 |row b o n c xs es bs ls hP hb hn hnc hm hc he hs hl=>exact⟨_,c,by rw[hn], .inr ⟨by omega,hm,b,o,rfl,hb⟩⟩
theorem RdS.at_ {w:World} {P:Nat->Prop} {A:Option Addr} {n c:Nat} {xs:List St} (h:RdS w P (.slice A n c) xs) (i:Nat) (hi:i<xs.length):
  ∃b o u v z,A=some ⟨b,o,none⟩/\b<w.heap.size/\P b/\w.cell? ⟨b,o+i*5,none⟩=some (.int .i64 xs[i].k)/\w.cell? ⟨b,o+i*5+1,none⟩=some (.string (str xs[i].nm))/\w.cell? ⟨b,o+i*5+2,none⟩=some u/\
   w.cell? ⟨b,o+i*5+3,none⟩=some v/\w.cell? ⟨b,o+i*5+4,none⟩=some z/\RdE w P u (St.ex xs[i])/\RdS w P v (St.body xs[i])/\RdS w P z (St.els xs[i]):=by
 cases h with
 |nil=>simp at hi
 |row b o n c xs es bs ls hP hb hn hnc hm hc he hs hl=>
  obtain⟨h0,h1,h2,h3,h4⟩:=hc i hi;exact⟨b,o,es i,bs i,ls i,rfl,hb,hP,h0,h1,h2,h3,h4,he i hi,hs i hi,hl i hi⟩
structure SV where
 s:St
 e:Value
 b:Value
 l:Value
def stC (p:SV):List Value:=[.int .i64 p.s.k, .string (str p.s.nm),p.e,p.b,p.l]
def stRow (l:List SV):List Value:=l.flatMap stC
theorem stRow_length: ∀l:List SV,(stRow l).length=l.length*5
 | []=>rfl
 |p::l=>by
  have:=stRow_length l;simp only[stRow,List.flatMap_cons,List.length_append,stC,List.length_cons,List.length_nil]at this⊢;omega
theorem stRow_app (a b:List SV):stRow (a++b)=stRow a++stRow b:=by simp[stRow]
theorem stRow_get: ∀(l:List SV) (i:Nat) (h:i<l.length) (k:Nat),k<5->(stRow l)[i*5+k]? =(stC l[i])[k]?
 | [],i,h,k,hk=>by simp at h
 |p::l,0,h,k,hk=>by
  simp only[stRow,List.flatMap_cons,Nat.zero_mul,Nat.zero_add,List.getElem_cons_zero];rw[List.getElem?_append_left (by simp[stC];omega)]
 |p::l,i+1,h,k,hk=>by
  have:=stRow_get l i (by simpa using h) k hk;simp only[stRow,List.flatMap_cons,List.getElem_cons_succ]at this⊢;rw[List.getElem?_append_right (by simp[stC];omega),<-this]
  congr 1
  simp[stC];omega
def SV.ok (w:World) (P:Nat->Prop) (p:SV):Prop:=RdE w P p.e p.s.ex/\RdS w P p.b p.s.body/\RdS w P p.l p.s.els
theorem SV.ok.keep {w w':World} {P Q:Nat->Prop} {p:SV} (h:p.ok w P) (hk:KeepP P w w') (hQ: ∀b,P b->b<w.heap.size->Q b):p.ok w' Q:=⟨h.1.keep hk hQ,h.2.1.keep hk hQ,h.2.2.keep hk hQ⟩
def OwnSt (w:World) (base:Nat) (e:TypeId) (v:Value) (l:List SV):Prop:=
 w.ownsRow base e 5 v l.length (stRow l)/\ ∀p,p∈l->p.ok w (fun b=>base<=b/\some b≠v.ownBlock)
theorem OwnSt.nil_ (w:World) (base:Nat) (e:TypeId):OwnSt w base e (.slice none 0 0) []:=⟨World.ownsRow_nil w base e 5,fun p hp=>by cases hp⟩
theorem OwnSt.grown {w w':World} {base:Nat} {e:TypeId} {v:Value} {l:List SV} {row:Option Nat} (h:OwnSt w base e v l) (hg:w.grownBy w' row) (hr: ∀k,row=some k->k<base):OwnSt w' base e v l:=by
 refine⟨World.ownsRow.kept h.1 hg ?_,fun p hp=> ?_⟩
 ·cases hv:v.ownBlock with
  |none=>exact .inl rfl
  |some k=>
   refine .inr fun e=> ?_;have:=(World.ownsRow.lt h.1 k hv).1;have:=hr k e.symm;omega
 ·exact(h.2 p hp).keep (.of_grown hg fun b hb e=>by have:=hr b e.symm;omega) fun b hb _=>hb
theorem OwnSt.ext {w w':World} {base:Nat} {e:TypeId} {v:Value} {l:List SV} (h:OwnSt w base e v l) (he:Ext w w'):OwnSt w' base e v l:=h.grown (he.grownBy none) (fun k hk=>by cases hk)
theorem OwnSt.rd {w:World} {base:Nat} {e:TypeId} {v:Value} {l:List SV} (h:OwnSt w base e v l):RdS w (fun b=>base<=b) v (l.map (·.s)):=by
 rcases h.1.2 with⟨rfl,h0⟩|⟨g,cap,cur,rfl,hb,hg,hnc,hcm,hcs,ht⟩
 ·have:l=[]:=List.eq_nil_of_length_eq_zero h0;subst this;exact .nil _ _
 ·have hlt:g<w.heap.size:=(Array.getElem?_eq_some_iff.1 hg).1;have cell: ∀j y,(stRow l)[j]? =some y->w.cell? ⟨g,j,none⟩=some y:=fun j y hy=>by
   rw[cell_of_row w g j cur e (0,0) hg];rw[<-ht,List.getElem?_take]at hy;split at hy
   ·simpa using hy
   ·cases hy
  have ok: ∀i (hi:i<l.length),SV.ok w (fun b=>base<=b) l[i]:=fun i hi=>(h.2 l[i] (List.getElem_mem hi)).keep ⟨Nat.le_refl _,fun _ _ _=>rfl⟩ fun b hb _=>hb.1;refine .row g 0 l.length cap _ (fun i=>if h:i<l.length then l[i].e else .slice none 0 0) (fun i=>if h:i<l.length then l[i].b else .slice none 0 0) (fun i=>if h:i<l.length then l[i].l else .slice none 0 0) hb hlt (by simp) hnc hcm (fun i hi=> ?_) (fun i hi=> ?_) (fun i hi=> ?_) (fun i hi=> ?_)
  ·have hi':i<l.length:=by simpa using hi
   have q:=fun k hk=>stRow_get l i hi' k hk;have e0:(l.map (·.s))[i]=l[i].s:=by simp
   rw[e0,dif_pos hi',dif_pos hi',dif_pos hi',Nat.zero_add];exact⟨cell _ _ (q 0 (by omega)),cell _ _ (q 1 (by omega)),cell _ _ (q 2 (by omega)),cell _ _ (q 3 (by omega)),cell _ _ (q 4 (by omega))⟩
  all_goals
   have hi':i<l.length:=by simpa using hi
   have e0:(l.map (·.s))[i]=l[i].s:=by simp
   rw[e0,dif_pos hi']
  ·exact(ok i hi').1
  ·exact(ok i hi').2.1
  ·exact(ok i hi').2.2
theorem OwnSt.snoc {w w':World} {base:Nat} {e:TypeId} {v:Value} {l:List SV} {p:SV} {A cap:Nat} (h:OwnSt w base e v l) (ha:p.ok w (fun b=>base<=b/\some b≠v.ownBlock))
  (hn:w'.ownsRow base e 5 (.slice (some ⟨A,0,none⟩) (l.length+1) cap) (l.length+1) (stRow l++stC p)) (hg:w.grownBy w' v.ownBlock) (hA:some A=v.ownBlock\/A=w.heap.size):
  OwnSt w' base e (.slice (some ⟨A,0,none⟩) (l.length+1) cap) (l++[p]):=by
 have hk:KeepP (fun b=>base<=b/\some b≠v.ownBlock) w w':= .of_grown hg fun b hb=>hb.2;have hq: ∀b,(base<=b/\some b≠v.ownBlock)->b<w.heap.size->(base<=b/\some b≠Value.ownBlock (.slice (some ⟨A,0,none⟩) (l.length+1) cap)):=fun b hb hlt=>by
  refine⟨hb.1,fun e=> ?_⟩;have e:b=A:=Option.some.inj e;rcases hA with hA|hA
  ·exact hb.2 (by rw[e,hA])
  ·omega
 refine⟨by rw[List.length_append,stRow_app];simpa[stRow]using hn,fun q hp=> ?_⟩;rcases List.mem_append.1 hp with hp|hp
 ·exact(h.2 q hp).keep hk hq
 ·rw[List.mem_singleton]at hp;subst hp;exact ha.keep hk hq
end Go.Proofs.YtelplgkppalmfaaGreatDoor
