/-
  Parts of the proof: PlLexQ PlLexU ParP ParH ParI.
-/
import Derived.Test.YtelplgkppalmfaaGreatDoorPs00
import Derived.BigQuiet
import Derived.Test.YtelplgkppalmfaaGreatDoorPs08
import Derived.Test.YtelplgkppalmfaaGreatDoorPs04
import Derived.Maps.AppendAt
set_option maxRecDepth 100000
set_option maxHeartbeats 8000000
set_option linter.unusedVariables false
set_option linter.unusedSimpArgs false
set_option linter.defProp false
namespace Go.Proofs.YtelplgkppalmfaaGreatDoor
open Go.Proofs.Tryz
section
open Go.RowKit
theorem iZ: ∀(ts:List bB) (i:Nat) (h:i<ts.length) (k:Nat),k<4->(jN ts)[i*4+k]? =(fB ts[i])[k]?
 |t::ts,0,h,k,hk=>by
  show(fB t++jN ts)[0*4+k]? =(fB t)[k]?;rw[bl,ak,dh (by simpa[fB]using hk)]
 |t::ts,i+1,h,k,hk=>by
  have h':i<ts.length:=by simpa using h
  show(fB t++jN ts)[(i+1)*4+k]? =(fB ts[i])[k]?;rw[cF (by simp[fB];omega),<-iZ ts i h' k hk]
  congr 1
  simp[fB];omega
structure qD (w:World) (A:Option Addr) (cap:Nat) (ts:List bB):Prop where
 le:ts.length<=cap
 max:cap<=maxLen
 rd:ts=[]\/ ∃b off,A=some ⟨b,off,none⟩/\b<w.heap.size/\ ∀i,(h:i<ts.length)->w.cell? ⟨b,off+i*4,none⟩=some (.int .i64 ts[i].k)/\w.cell? ⟨b,off+i*4+1,none⟩=some (.string (ae ts[i].t))/\
  w.cell? ⟨b,off+i*4+2,none⟩=some (.int .i64 ts[i].v)/\w.cell? ⟨b,off+i*4+3,none⟩=some (.int .i64 ts[i].f)
theorem qD.ext {w w':World} {A:Option Addr} {cap:Nat} {ts:List bB} (h:qD w A cap ts) (he:al w w'):qD w' A cap ts:=
 ⟨h.le,h.max,h.rd.imp id fun⟨b,off,ha,hb,hc⟩=>⟨b,off,ha,an hb he.size,fun i hi=>
  let⟨h1,h2,h3,h4⟩:=hc i hi;⟨(he.cell b _ hb).trans h1,(he.cell b _ hb).trans h2,(he.cell b _ hb).trans h3,(he.cell b _ hb).trans h4⟩⟩⟩
theorem qD.at_ {w:World} {A:Option Addr} {cap:Nat} {ts:List bB} (h:qD w A cap ts) (i:Nat) (hi:i<ts.length):
  ∃b off,A=some ⟨b,off,none⟩/\b<w.heap.size/\w.cell? ⟨b,off+i*4,none⟩=some (.int .i64 ts[i].k)/\w.cell? ⟨b,off+i*4+1,none⟩=some (.string (ae ts[i].t))/\
  w.cell? ⟨b,off+i*4+2,none⟩=some (.int .i64 ts[i].v)/\w.cell? ⟨b,off+i*4+3,none⟩=some (.int .i64 ts[i].f):=by
 rcases h.rd with h0|⟨b,off,ha,hb,hc⟩
 ·subst h0;simp at hi
 ·exact⟨b,off,ha,hb,hc i hi⟩
theorem fx.tks {w:World} {base:Nat} {e:TypeId} {A:Option Addr} {n cap:Nat} {ts:List bB} (h:fx w base e (.slice A n cap) ts):n=ts.length/\qD w A cap ts:=by
 rcases h.2 with⟨hv,hn⟩|⟨g,c,cur,hv,hb,hg,hnc,hcm,hcs,ht⟩
 ·injection hv with a1 a2 a3;subst a1 a2 a3;have:ts=[]:=aV hn;subst this;exact⟨rfl,by simp,by simp[maxLen], .inl rfl⟩
 ·injection hv with a1 a2 a3;subst a1 a2 a3;refine⟨rfl,hnc,hcm, .inr ⟨g,0,rfl,(Array.getElem?_eq_some_iff.1 hg).1,fun i hi=> ?_⟩⟩;have cell: ∀j y,(jN ts)[j]? =some y->w.cell? ⟨g,j,none⟩=some y:=fun j y hy=>by
   rw[cell_of_row w g j cur e (0,0) hg];rw[<-ht,cr]at hy;split at hy
   ·simpa using hy
   ·cases hy
  have g0:=iZ ts i hi 0 (by omega);have g1:=iZ ts i hi 1 (by omega);have g2:=iZ ts i hi 2 (by omega);have g3:=iZ ts i hi 3 (by omega);rw[ak];exact⟨cell _ _ g0,cell _ _ g1,cell _ _ g2,cell _ _ g3⟩
end
section
open Go.RowKit
theorem qQ (l:List UInt8) (w:World) (hz:EZ w):Calls prog 28 #[.string (ae l)] w fun e w'=>py 116 w.heap.size (fz l) e w'/\al w w':=by
 by_cases hl:l.length<=100000
 ·exact qP l hl w hz
 ·have hsz:(ae l).size=l.length:=aM l;have HRb:=G (lw l);have hbig:4000<l.length:=by omega
  have hbig':(4000:Int)<l.length:=by omega
  go_enter func28,ntmps28;go_wp2_with fail;exact bodyPost_ret (v:= .tuple #[.slice none 0 0, .int .i64 4000, .int .i64 6]) (by simp[results,results28,go_sem]) rfl ⟨by rw[HRb.out hbig];exact⟨none,0,rfl,lN _ _ _⟩,aG _⟩
end
section
inductive Ex where
 |mk (k:Int) (op nm tx:List UInt8) (v:Int) (args:List Ex)
inductive St where
 |mk (k:Int) (nm:List UInt8) (ex:List Ex) (body els:List St)
structure Vr where
 nm:List UInt8
 sz:Int
structure Fc where
 nm:List UInt8
 ps:List (List UInt8)
 body:List St
structure Pg where
 vs:List Vr
 fs:List Fc
def Ex.k:Ex->Int| .mk k _ _ _ _ _=>k
def Ex.op:Ex->List UInt8| .mk _ o _ _ _ _=>o
def Ex.nm:Ex->List UInt8| .mk _ _ n _ _ _=>n
def Ex.tx:Ex->List UInt8| .mk _ _ _ t _ _=>t
def Ex.v:Ex->Int| .mk _ _ _ _ v _=>v
def Ex.args:Ex->List Ex| .mk _ _ _ _ _ a=>a
def St.k:St->Int| .mk k _ _ _ _=>k
def St.nm:St->List UInt8| .mk _ n _ _ _=>n
def St.ex:St->List Ex| .mk _ _ e _ _=>e
def St.body:St->List St| .mk _ _ _ b _=>b
def St.els:St->List St| .mk _ _ _ _ e=>e
def zT:bB:=⟨0,[],0,0⟩
def bV:List bB->bB
 | []=>zT
 |t::_=>t
def b6 (s:List UInt8) (l:List bB):Bool:=((bV l).k==5||(bV l).k==2)&&(bV l).t==s
theorem k9 {s:List UInt8} {l:List bB} (h:b6 s l=true):l≠ []:=by
 intro e;subst e;simp[b6,bV,zT]at h
theorem aW {s:List UInt8} {l:List bB} (h:b6 s l=true):l.length=l.tail.length+1:=by
 cases l with
 |nil=>exact absurd rfl (k9 h)
 |cons t r=>rfl
def pq (en:Int):List bB->Int
 | []=>en
 |t::_=>t.f
def eW (s:List UInt8):Int:=
 if s=[124,124]then 1 else if s=[38,38]then 2 else if s=[61,61]then 3 else if s=[33,61]then 3
 else if s=[60]then 4 else if s=[60,61]then 4 else if s=[62]then 4 else if s=[62,61]then 4
 else if s=[43]then 5 else if s=[45]then 5 else if s=[42]then 6 else if s=[47]then 6 else if s=[37]then 6 else 0
theorem ry (s:List UInt8):0<=eW s/\eW s<=6:=by
 unfold eW
 (repeat' split)<;>omega
abbrev PR (α:Type):=Except (List bB×Int) (α×List bB)
def PR.then {α β:Type} (x:PR α) (k:α->List bB->PR β):PR β:=match x with
 | .error e=> .error e
 | .ok (a,r)=>k a r
def bP (s:List UInt8) (l:List bB):PR Unit:=if b6 s l then .ok ((),l.tail)else .error (l,3)
def ge (l:List bB):PR (List UInt8):=if(bV l).k=1 then .ok ((bV l).t,l.tail)else .error (l,3)
def fi:List UInt8:=[40]
def eg:List UInt8:=[41]
def t_:List UInt8:=[123]
def pF:List UInt8:=[125]
def jD:List UInt8:=[91]
def jq:List UInt8:=[93]
def kh:List UInt8:=[44]
def iu:List UInt8:=[59]
def l9:List UInt8:=[61]
def ln:List UInt8:=[45]
def l8:List UInt8:=[33]
def gA:List UInt8:=[118,97,114]
def gc:List UInt8:=[102,117,110,99]
def sF:List UInt8:=[105,102]
def nS:List UInt8:=[101,108,115,101]
def lz:List UInt8:=[119,104,105,108,101]
def j6:List UInt8:=[114,101,116,117,114,110]
mutual
def bT:Nat->Int->List bB->PR Ex
 |0,_,l=> .error (l,0)
 |f+1,n,l=>(cE f l).then fun x r=>gd f n x r
def gd:Nat->Int->Ex->List bB->PR Ex
 |0,_,_,l=> .error (l,0)
 |f+1,n,x,l=>if(bV l).k=5/\n<=eW (bV l).t then(bT f (eW (bV l).t+1) l.tail).then fun y r=>gd f n (.mk 7 (bV l).t [] [] 0 [x,y]) r else .ok (x,l)
def cE:Nat->List bB->PR Ex
 |0,l=> .error (l,0)
 |f+1,l=>
  if(bV l).k=3 then .ok (.mk 1 [] [] [] (bV l).v [],l.tail)
  else if(bV l).k=4 then .ok (.mk 2 [] [] (bV l).t 0 [],l.tail)
  else if(bV l).k=1 then ch f (bV l).t l.tail
  else if b6 ln l||b6 l8 l then(cE f l.tail).then fun x r=> .ok (.mk 6 (bV l).t [] [] 0 [x],r)
  else(bP fi l).then fun _ r=>(bT f 1 r).then fun x r=>(bP eg r).then fun _ r=> .ok (x,r)
def ch:Nat->List UInt8->List bB->PR Ex
 |0,_,l=> .error (l,0)
 |f+1,nm,l=>
  if b6 jD l then(bT f 1 l.tail).then fun x r=>(bP jq r).then fun _ r=> .ok (.mk 4 [] nm [] 0 [x],r)
  else if b6 fi l then(eL f l.tail).then fun a r=> .ok (.mk 5 [] nm [] 0 a,r)
  else .ok (.mk 3 [] nm [] 0 [],l)
def eL:Nat->List bB->PR (List Ex)
 |0,l=> .error (l,0)
 |f+1,l=>if b6 eg l then .ok ([],l.tail)else fu f [] l
def fu:Nat->List Ex->List bB->PR (List Ex)
 |0,_,l=> .error (l,0)
 |f+1,acc,l=>(bT f 1 l).then fun x r=>if b6 eg r then .ok (acc++[x],r.tail)else(bP kh r).then fun _ r=>fu f (acc++[x]) r
end
mutual
def cZ:Nat->List bB->PR (List St)
 |0,l=> .error (l,0)
 |f+1,l=>(bP t_ l).then fun _ r=>dS f [] r
def dS:Nat->List St->List bB->PR (List St)
 |0,_,l=> .error (l,0)
 |f+1,acc,l=>if b6 pF l then .ok (acc,l.tail)else(de f l).then fun s r=>dS f (acc++[s]) r
def lW:Nat->List bB->PR St
 |0,l=> .error (l,0)
 |f+1,l=>(bT f 1 l).then fun x r=>(cZ f r).then fun b r=>
  if b6 nS r then
   if b6 sF r.tail then(lW f r.tail.tail).then fun s r=> .ok (.mk 4 [] [x] b [s],r)
   else(cZ f r.tail).then fun c r=> .ok (.mk 4 [] [x] b c,r)
  else .ok (.mk 4 [] [x] b [],r)
def de:Nat->List bB->PR St
 |0,l=> .error (l,0)
 |f+1,l=>
  if b6 sF l then lW f l.tail
  else if b6 lz l then(bT f 1 l.tail).then fun x r=>(cZ f r).then fun b r=> .ok (.mk 5 [] [x] b [],r)
  else if b6 gA l then(ge l.tail).then fun nm r=>
   (if b6 l9 r then(bT f 1 r.tail).then fun x r=> .ok ([x],r)else .ok ([],r)).then fun ex r=>(bP iu r).then fun _ r=> .ok (.mk 1 nm ex [] [],r)
  else if b6 j6 l then(if b6 iu l.tail then .ok ([],l.tail)else(bT f 1 l.tail).then fun x r=> .ok ([x],r)).then fun ex r=>(bP iu r).then fun _ r=> .ok (.mk 6 [] ex [] [],r)
  else(ge l).then fun nm r=>
   (if b6 fi r then(ch f nm r).then fun x r=> .ok (.mk 7 [] [x] [] [],r)
   else if b6 jD r then(bT f 1 r.tail).then fun i r=>(bP jq r).then fun _ r=>(bP l9 r).then fun _ r=>(bT f 1 r).then fun x r=> .ok (.mk 3 nm [i,x] [] [],r)
   else(bP l9 r).then fun _ r=>(bT f 1 r).then fun x r=> .ok (.mk 2 nm [x] [] [],r)).then fun s r=>(bP iu r).then fun _ r=> .ok (s,r)
end
def ig (l:List bB):PR Vr:=(ge l).then fun nm r=>
 (if b6 jD r then
  if(bV r.tail).k=3 then
   if(bV r.tail).v<1\/2000<(bV r.tail).v then .error (r.tail,2)else(bP jq r.tail.tail).then fun _ q=> .ok ((bV r.tail).v,q)
  else .error (r.tail,3)
 else .ok (0,r)).then fun sz r=>(bP iu r).then fun _ r=> .ok (⟨nm,sz⟩,r)
def em:Nat->List (List UInt8)->List bB->PR (List (List UInt8))
 |0,_,l=> .error (l,0)
 |f+1,acc,l=>(ge l).then fun x r=>if b6 eg r then .ok (acc++[x],r.tail)else(bP kh r).then fun _ r=>em f (acc++[x]) r
def eI (f:Nat) (l:List bB):PR (List (List UInt8)):=if b6 eg l then .ok ([],l.tail)else em f [] l
def gE (f:Nat) (l:List bB):PR Fc:=(ge l).then fun nm r=>(bP fi r).then fun _ r=>(eI f r).then fun ps r=>(cZ f r).then fun b r=> .ok (⟨nm,ps,b⟩,r)
def df:Nat->Pg->List bB->PR Pg
 |0,_,l=> .error (l,0)
 |f+1,p,l=>if l=[]then .ok (p,[])
  else if b6 gA l then(ig l.tail).then fun v r=>df f ⟨p.vs++[v],p.fs⟩ r
  else(bP gc l).then fun _ r=>(gE f r).then fun c r=>df f ⟨p.vs,p.fs++[c]⟩ r
theorem PR.then_ok {α β:Type} {x:PR α} {k:α->List bB->PR β} {b:β} {r:List bB} (h:x.then k= .ok (b,r)): ∃a q,x= .ok (a,q)/\k a q= .ok (b,r):=by
 unfold PR.then at h;split at h
 ·cases h
 ·exact⟨_,_,rfl,h⟩
theorem dz {s:List UInt8} {l r:List bB} {u:Unit} (h:bP s l= .ok (u,r)):b6 s l=true/\r=l.tail/\l.length=r.length+1:=by
 unfold bP at h;split at h
 ·rename_i h1;injection h with h;injection h with _ h;subst h;exact⟨h1,rfl,aW h1⟩
 ·cases h
theorem fh {l:List bB} (h:(bV l).k≠0):l.length=l.tail.length+1:=by
 cases l with
 |nil=>exact absurd rfl h
 |cons t r=>rfl
theorem jd {l r:List bB} {nm:List UInt8} (h:ge l= .ok (nm,r)):(bV l).k=1/\nm=(bV l).t/\r=l.tail/\l.length=r.length+1:=by
 unfold ge at h;split at h
 ·rename_i h1;injection h with h;injection h with h2 h;subst h h2;exact⟨h1,rfl,rfl,fh (by rw[h1];decide)⟩
 ·cases h
theorem bD {α:Type} {a b:α} {r q:List bB} (h:(Except.ok (a,r):PR α)= .ok (b,q)):a=b/\r=q:=by
 injection h with h;injection h with h1 h2;exact⟨h1,h2⟩
theorem f7: ∀(f:Nat),
  (∀n l x r,bT f n l= .ok (x,r)->r.length<l.length)/\(∀n y l x r,gd f n y l= .ok (x,r)->r.length<=l.length)/\
  (∀l x r,cE f l= .ok (x,r)->r.length<l.length)/\(∀nm l x r,ch f nm l= .ok (x,r)->r.length<=l.length)/\
  (∀l x r,eL f l= .ok (x,r)->r.length<l.length)/\(∀acc l x r,fu f acc l= .ok (x,r)->r.length<l.length)
 |0=>by
  refine⟨?_,?_,?_,?_,?_,?_⟩;all_goals (intros;rename_i h;simp[bT,gd,cE,ch,eL,fu]at h)
 |f+1=>by
  obtain⟨iE,iL,iP,iN,iA,iB⟩:=f7 f;refine⟨?_,?_,?_,?_,?_,?_⟩
  ·intro n l x r h;rw[bT]at h;obtain⟨a,q,h1,h2⟩:=PR.then_ok h;have:=iP _ _ _ h1;have:=iL _ _ _ _ _ h2;omega
  ·intro n y l x r h;rw[gd]at h;split at h
   ·rename_i hk;obtain⟨a,q,h1,h2⟩:=PR.then_ok h;have:=iE _ _ _ _ h1;have:=iL _ _ _ _ _ h2;have:=fh (l:=l) (by rw[hk.1];decide);omega
   ·rw[(bD h).2];exact ag _
  ·intro l x r h;rw[cE]at h;split at h
   ·rename_i hk;have:=fh (l:=l) (by rw[hk];decide);rw[<-(bD h).2];omega
   ·split at h
    ·rename_i hk;have:=fh (l:=l) (by rw[hk];decide);rw[<-(bD h).2];omega
    ·split at h
     ·rename_i hk;have:=fh (l:=l) (by rw[hk];decide);have:=iN _ _ _ _ h;omega
     ·split at h
      ·rename_i hk;obtain⟨a,q,h1,h2⟩:=PR.then_ok h;have:=iP _ _ _ h1;have h3:=(bD h2).2;have:l.length=l.tail.length+1:=by
        rw[cx]at hk;rcases hk with hk|hk<;>exact aW hk
       subst h3;omega
      ·obtain⟨a,q,h1,h2⟩:=PR.then_ok h;obtain⟨a',q',h3,h4⟩:=PR.then_ok h2;obtain⟨a'',q'',h5,h6⟩:=PR.then_ok h4;have:=(dz h1).2.2;have:=iE _ _ _ _ h3;have:=(dz h5).2.2;have h7:=(bD h6).2;subst h7;omega
  ·intro nm l x r h;rw[ch]at h;split at h
   ·rename_i hk;obtain⟨a,q,h1,h2⟩:=PR.then_ok h;obtain⟨a',q',h3,h4⟩:=PR.then_ok h2;have:=aW hk;have:=iE _ _ _ _ h1;have:=(dz h3).2.2;have h7:=(bD h4).2;subst h7;omega
   ·split at h
    ·rename_i hk;obtain⟨a,q,h1,h2⟩:=PR.then_ok h;have:=aW hk;have:=iA _ _ _ h1;have h7:=(bD h2).2;subst h7;omega
    ·have:=(bD h).2;subst this;omega
  ·intro l x r h;rw[eL]at h;split at h
   ·rename_i hk;have:=aW hk;have h7:=(bD h).2;subst h7;omega
   ·exact iB _ _ _ _ h
  ·intro acc l x r h;rw[fu]at h;obtain⟨a,q,h1,h2⟩:=PR.then_ok h;have:=iE _ _ _ _ h1;split at h2
   ·rename_i hk;have:=aW hk;have h7:=(bD h2).2;subst h7;omega
   ·obtain⟨a',q',h3,h4⟩:=PR.then_ok h2;have:=(dz h3).2.2;have:=iB _ _ _ _ h4;omega
theorem iz: ∀(f:Nat),
  (∀l x r,cZ f l= .ok (x,r)->r.length<l.length)/\(∀acc l x r,dS f acc l= .ok (x,r)->r.length<l.length)/\
  (∀l x r,lW f l= .ok (x,r)->r.length<l.length)/\(∀l x r,de f l= .ok (x,r)->r.length<l.length)
 |0=>by
  refine⟨?_,?_,?_,?_⟩;all_goals (intros;rename_i h;simp[cZ,dS,lW,de]at h)
 |f+1=>by
  obtain⟨iB,iC,iI,iS⟩:=iz f;obtain⟨iE,_,_,iN,_,_⟩:=f7 f;refine⟨?_,?_,?_,?_⟩
  ·intro l x r h;rw[cZ]at h;obtain⟨a,q,h1,h2⟩:=PR.then_ok h;have:=(dz h1).2.2;have:=iC _ _ _ _ h2;omega
  ·intro acc l x r h;rw[dS]at h;split at h
   ·rename_i hk;have:=aW hk;have h7:=(bD h).2;subst h7;omega
   ·obtain⟨a,q,h1,h2⟩:=PR.then_ok h;have:=iS _ _ _ h1;have:=iC _ _ _ _ h2;omega
  ·intro l x r h;rw[lW]at h;obtain⟨a,q,h1,h2⟩:=PR.then_ok h;obtain⟨a',q',h3,h4⟩:=PR.then_ok h2;have:=iE _ _ _ _ h1;have:=iB _ _ _ h3;split at h4
   ·rename_i hk;have:=aW hk;split at h4
    ·rename_i hk2;have:=aW hk2;obtain⟨a2,q2,h5,h6⟩:=PR.then_ok h4;have:=iI _ _ _ h5;have h7:=(bD h6).2;subst h7;omega
    ·obtain⟨a2,q2,h5,h6⟩:=PR.then_ok h4;have:=iB _ _ _ h5;have h7:=(bD h6).2;subst h7;omega
   ·have h7:=(bD h4).2;subst h7;omega
  ·intro l x r h;rw[de]at h;split at h
   ·rename_i hk;have:=aW hk;have:=iI _ _ _ h;omega
   split at h
   ·rename_i hk;have:=aW hk;obtain⟨a,q,h1,h2⟩:=PR.then_ok h;obtain⟨a',q',h3,h4⟩:=PR.then_ok h2;have:=iE _ _ _ _ h1;have:=iB _ _ _ h3;have h7:=(bD h4).2;subst h7;omega
   split at h
   ·rename_i hk;have:=aW hk;obtain⟨a,q,h1,h2⟩:=PR.then_ok h;obtain⟨a',q',h3,h4⟩:=PR.then_ok h2;obtain⟨a2,q2,h5,h6⟩:=PR.then_ok h4;have:=(jd h1).2.2.2;have:=(dz h5).2.2;have h7:=(bD h6).2;subst h7;split at h3
    ·rename_i hk2;have:=aW hk2;obtain⟨a3,q3,h8,h9⟩:=PR.then_ok h3;have:=iE _ _ _ _ h8;have h10:=(bD h9).2;subst h10;omega
    ·have h10:=(bD h3).2;subst h10;omega
   split at h
   ·rename_i hk;have:=aW hk;obtain⟨a',q',h3,h4⟩:=PR.then_ok h;obtain⟨a2,q2,h5,h6⟩:=PR.then_ok h4;have:=(dz h5).2.2;have h7:=(bD h6).2;subst h7;split at h3
    ·have h10:=(bD h3).2;subst h10;omega
    ·obtain⟨a3,q3,h8,h9⟩:=PR.then_ok h3;have:=iE _ _ _ _ h8;have h10:=(bD h9).2;subst h10;omega
   ·obtain⟨a,q,h1,h2⟩:=PR.then_ok h;obtain⟨a',q',h3,h4⟩:=PR.then_ok h2;obtain⟨a2,q2,h5,h6⟩:=PR.then_ok h4;have:=(jd h1).2.2.2;have:=(dz h5).2.2;have h7:=(bD h6).2;subst h7;split at h3
    ·obtain⟨a3,q3,h8,h9⟩:=PR.then_ok h3;have:=iN _ _ _ _ h8;have h10:=(bD h9).2;subst h10;omega
    ·split at h3
     ·rename_i hk;have:=aW hk;obtain⟨b1,r1,g1,g2⟩:=PR.then_ok h3;obtain⟨b2,r2,g3,g4⟩:=PR.then_ok g2;obtain⟨b3,r3,g5,g6⟩:=PR.then_ok g4;obtain⟨b4,r4,g7,g8⟩:=PR.then_ok g6;have:=iE _ _ _ _ g1;have:=(dz g3).2.2;have:=(dz g5).2.2;have:=iE _ _ _ _ g7;have h10:=(bD g8).2;subst h10;omega
     ·obtain⟨b1,r1,g1,g2⟩:=PR.then_ok h3;obtain⟨b2,r2,g3,g4⟩:=PR.then_ok g2;have:=(dz g1).2.2;have:=iE _ _ _ _ g3;have h10:=(bD g4).2;subst h10;omega
end
section
open Go.RowKit
inductive bZ (w:World) (P:Nat->Prop):Value->List Ex->Prop where
 |nil (A:Option Addr) (c:Nat):bZ w P (.slice A 0 c) []
 |row (b o n c:Nat) (xs:List Ex) (av:Nat->Value) (hP:P b) (hb:b<w.heap.size) (hn:xs.length=n) (hnc:n<=c) (hm:c<=maxLen)
   (hc: ∀i,(h:i<xs.length)->w.cell? ⟨b,o+i*6,none⟩=some (.int .i64 xs[i].k)/\w.cell? ⟨b,o+i*6+1,none⟩=some (.string (ae xs[i].op))/\w.cell? ⟨b,o+i*6+2,none⟩=some (.string (ae xs[i].nm))/\
    w.cell? ⟨b,o+i*6+3,none⟩=some (.string (ae xs[i].tx))/\w.cell? ⟨b,o+i*6+4,none⟩=some (.int .i64 xs[i].v)/\w.cell? ⟨b,o+i*6+5,none⟩=some (av i))
   (hs: ∀i,(h:i<xs.length)->bZ w P (av i) (Ex.args xs[i])):bZ w P (.slice (some ⟨b,o,none⟩) n c) xs
structure cV (P:Nat->Prop) (w w':World):Prop where
 size:w.heap.size<=w'.heap.size
 block: ∀b,P b->b<w.heap.size->w'.heap[b]? =w.heap[b]?
theorem cV.cell {P:Nat->Prop} {w w':World} (h:cV P w w') {b:Nat} (o:Nat) (hP:P b) (hb:b<w.heap.size):w'.cell? ⟨b,o,none⟩=w.cell? ⟨b,o,none⟩:=
 b8 (w:=w) (a:=⟨b,o,none⟩) (h.block b hP hb)
theorem cV.of_grown {P:Nat->Prop} {w w':World} {row:Option Nat} (h:w.grownBy w' row) (hr: ∀b,P b->some b≠row):cV P w w':=⟨h.size,fun b hP hb=>h.block b hb (hr b hP)⟩
theorem cV.of_ext {P:Nat->Prop} {w w':World} (h:al w w'):cV P w w':=⟨h.size,fun b _ hb=>h.obj hb⟩
theorem bZ.keep {w w':World} {P Q:Nat->Prop} {v:Value} {xs:List Ex} (h:bZ w P v xs) (hk:cV P w w') (hQ: ∀b,P b->b<w.heap.size->Q b):bZ w' Q v xs:=by
 induction h with
 |nil A c=>exact .nil A c
 |row b o n c xs av hP hb hn hnc hm hc hs ih=>
  refine .row b o n c xs av (hQ b hP hb) (an hb hk.size) hn hnc hm (fun i hi=> ?_) ih;obtain⟨h0,h1,h2,h3,h4,h5⟩:=hc i hi;exact⟨(hk.cell _ hP hb).trans h0,(hk.cell _ hP hb).trans h1,(hk.cell _ hP hb).trans h2,(hk.cell _ hP hb).trans h3,(hk.cell _ hP hb).trans h4,(hk.cell _ hP hb).trans h5⟩
theorem bZ.mono {w:World} {P Q:Nat->Prop} {v:Value} {xs:List Ex} (h:bZ w P v xs) (hQ: ∀b,P b->b<w.heap.size->Q b):bZ w Q v xs:=h.keep ⟨ag _,fun _ _ _=>rfl⟩ hQ
theorem bZ.form {w:World} {P:Nat->Prop} {v:Value} {xs:List Ex} (h:bZ w P v xs): ∃A c,v= .slice A xs.length c/\(xs=[]\/xs.length<=c/\c<=maxLen/\ ∃b o,A=some ⟨b,o,none⟩/\b<w.heap.size):=by
 cases h with
 |nil A c=>exact⟨A,c,rfl, .inl rfl⟩
 |row b o n c xs av hP hb hn hnc hm hc hs=>exact⟨_,c,by rw[hn], .inr ⟨by omega,hm,b,o,rfl,hb⟩⟩
theorem bZ.at_ {w:World} {P:Nat->Prop} {A:Option Addr} {n c:Nat} {xs:List Ex} (h:bZ w P (.slice A n c) xs) (i:Nat) (hi:i<xs.length):
  ∃b o a,A=some ⟨b,o,none⟩/\b<w.heap.size/\P b/\w.cell? ⟨b,o+i*6,none⟩=some (.int .i64 xs[i].k)/\w.cell? ⟨b,o+i*6+1,none⟩=some (.string (ae xs[i].op))/\w.cell? ⟨b,o+i*6+2,none⟩=some (.string (ae xs[i].nm))/\
   w.cell? ⟨b,o+i*6+3,none⟩=some (.string (ae xs[i].tx))/\w.cell? ⟨b,o+i*6+4,none⟩=some (.int .i64 xs[i].v)/\w.cell? ⟨b,o+i*6+5,none⟩=some a/\bZ w P a (Ex.args xs[i]):=by
 cases h with
 |nil=>simp at hi
 |row b o n c xs av hP hb hn hnc hm hc hs=>
  obtain⟨h0,h1,h2,h3,h4,h5⟩:=hc i hi;exact⟨b,o,av i,rfl,hb,hP,h0,h1,h2,h3,h4,h5,hs i hi⟩
def qK (x:Ex) (a:Value):List Value:=[.int .i64 x.k, .string (ae x.op), .string (ae x.nm), .string (ae x.tx), .int .i64 x.v,a]
def fe (l:List (Ex×Value)):List Value:=l.flatMap fun p=>qK p.1 p.2
theorem lc: ∀l:List (Ex×Value),(fe l).length=l.length*6
 | []=>rfl
 |p::l=>by
  have:=lc l;simp only[fe,cd,aa,qK,ac,af]at this⊢;omega
theorem oh (a b:List (Ex×Value)):fe (a++b)=fe a++fe b:=by simp[fe]
theorem og: ∀(l:List (Ex×Value)) (i:Nat) (h:i<l.length) (k:Nat),k<6->(fe l)[i*6+k]? =(qK l[i].1 l[i].2)[k]?
 | [],i,h,k,hk=>by simp at h
 |p::l,0,h,k,hk=>by
  simp only[fe,cd,bl,ak,aL];rw[dh (by simp[qK];omega)]
 |p::l,i+1,h,k,hk=>by
  have:=og l i (by simpa using h) k hk;simp only[fe,cd,aP]at this⊢;rw[cF (by simp[qK];omega),<-this]
  congr 1
  simp[qK];omega
def eV (w:World) (base:Nat) (e:TypeId) (v:Value) (l:List (Ex×Value)):Prop:=
 w.ownsRow base e 6 v l.length (fe l)/\ ∀p,p∈l->bZ w (fun b=>base<=b/\some b≠v.ownBlock) p.2 p.1.args
theorem eV.nil_ (w:World) (base:Nat) (e:TypeId):eV w base e (.slice none 0 0) []:=⟨b7 w base e 6,fun p hp=>by cases hp⟩
theorem eV.grown {w w':World} {base:Nat} {e:TypeId} {v:Value} {l:List (Ex×Value)} {row:Option Nat} (h:eV w base e v l) (hg:w.grownBy w' row) (hr: ∀k,row=some k->k<base):eV w' base e v l:=by
 refine⟨bH h.1 hg ?_,fun p hp=> ?_⟩
 ·cases hv:v.ownBlock with
  |none=>exact .inl rfl
  |some k=>
   refine .inr fun e=> ?_;have:=(aJ h.1 k hv).1;have:=hr k e.symm;omega
 ·exact(h.2 p hp).keep (.of_grown hg fun b hb e=>by have:=hr b e.symm;omega) fun b hb _=>hb
theorem eV.ext {w w':World} {base:Nat} {e:TypeId} {v:Value} {l:List (Ex×Value)} (h:eV w base e v l) (he:al w w'):eV w' base e v l:=h.grown (he.grownBy none) (fun k hk=>by cases hk)
theorem eV.rd {w:World} {base:Nat} {e:TypeId} {v:Value} {l:List (Ex×Value)} (h:eV w base e v l):bZ w (fun b=>base<=b) v (l.map (·.1)):=by
 rcases h.1.2 with⟨rfl,h0⟩|⟨g,cap,cur,rfl,hb,hg,hnc,hcm,hcs,ht⟩
 ·have:l=[]:=aV h0;subst this;exact .nil _ _
 ·have hlt:g<w.heap.size:=(Array.getElem?_eq_some_iff.1 hg).1;have cell: ∀j y,(fe l)[j]? =some y->w.cell? ⟨g,j,none⟩=some y:=fun j y hy=>by
   rw[cell_of_row w g j cur e (0,0) hg];rw[<-ht,cr]at hy;split at hy
   ·simpa using hy
   ·cases hy
  refine .row g 0 l.length cap _ (fun i=>if h:i<l.length then l[i].2 else .slice none 0 0) hb hlt (by simp) hnc hcm (fun i hi=> ?_) (fun i hi=> ?_)
  ·have hi':i<l.length:=by simpa using hi
   have q:=fun k hk=>og l i hi' k hk;have e0:(l.map (·.1))[i]=l[i].1:=by simp
   rw[e0,dif_pos hi',ak];exact⟨cell _ _ (q 0 (by omega)),cell _ _ (q 1 (by omega)),cell _ _ (q 2 (by omega)),cell _ _ (q 3 (by omega)),cell _ _ (q 4 (by omega)),cell _ _ (q 5 (by omega))⟩
  ·have hi':i<l.length:=by simpa using hi
   have e0:(l.map (·.1))[i]=l[i].1:=by simp
   rw[e0,dif_pos hi'];exact(h.2 l[i] (aE hi')).mono fun b hb _=>hb.1
theorem bZ.one {w:World} {P:Nat->Prop} {gb:Nat} {e:TypeId} {x:Ex} {a:Value} (hB:aT w gb e #[.int .i64 x.k, .string (ae x.op), .string (ae x.nm), .string (ae x.tx), .int .i64 x.v,a]) (hP:P gb) (h:bZ w P a x.args):bZ w P (.slice (some ⟨gb,0,none⟩) 1 1) [x]:=by
 refine .row gb 0 1 1 [x] (fun _=>a) hP hB.lt rfl (ag _) (by simp[maxLen]) (fun i hi=> ?_) (fun i hi=> ?_)
 ·have hi:i=0:=by simpa using hi
  subst hi;exact⟨hB.cell 0,hB.cell 1,hB.cell 2,hB.cell 3,hB.cell 4,hB.cell 5⟩
 ·have hi:i=0:=by simpa using hi
  subst hi;exact h
theorem bZ.two {w:World} {P:Nat->Prop} {gb:Nat} {e:TypeId} {x y:Ex} {a b:Value} (hB:aT w gb e #[.int .i64 x.k, .string (ae x.op), .string (ae x.nm), .string (ae x.tx), .int .i64 x.v,a, .int .i64 y.k, .string (ae y.op), .string (ae y.nm), .string (ae y.tx), .int .i64 y.v,b]) (hP:P gb) (h:bZ w P a x.args) (h':bZ w P b y.args):bZ w P (.slice (some ⟨gb,0,none⟩) 2 2) [x,y]:=by
 refine .row gb 0 2 2 [x,y] (fun i=>if i=0 then a else b) hP hB.lt rfl (ag _) (by simp[maxLen]) (fun i hi=> ?_) (fun i hi=> ?_)
 ·have hi:i<2:=hi;obtain rfl|rfl:i=0\/i=1:=by omega
  ·exact⟨hB.cell 0,hB.cell 1,hB.cell 2,hB.cell 3,hB.cell 4,hB.cell 5⟩
  ·exact⟨hB.cell 6,hB.cell 7,hB.cell 8,hB.cell 9,hB.cell 10,hB.cell 11⟩
 ·have hi:i<2:=hi;obtain rfl|rfl:i=0\/i=1:=by omega
  ·exact h
  ·exact h'
structure jw (P:Program) (t e:TypeId) (size bytes:Nat) (z:Value):Prop where
 under:P.underlying t=some (.slice e)
 info:(P.info? e).map (fun i=>(i.zero,i.size,i.bytes))=some (some z,size,bytes)
 cells:z.cells.size=size
 pos:0<size
theorem p6 {P:Program} {w:World} {t e:TypeId} {size bytes:Nat} {z:Value} (hT:jw P t e size bytes z) (ty:TypeId) (base:Nat) (v:Value) (n:Nat) (xs:List Value) (hown:w.ownsRow base e size v n xs) (g:Nat) (news:List Value)
  (hg:w.heap[g]? =some (.cells news.toArray e (0,0))) (hl:news.length=size) (h1: ∀u∈news,u.oneCell'=true) (hb:n<=1073741824) (hy:bytes<=1000) (hbase:base<=w.heap.size):
  ∃A' cap' w',(Builtin.append_ #[t,t] ty #[v, .slice (some ⟨g,0,none⟩) 1 1]).run P w= .ok (.slice (some ⟨A',0,none⟩) (n+1) cap') w'/\w'.ownsRow base e size (.slice (some ⟨A',0,none⟩) (n+1) cap') (n+1) (xs++news)/\w.grownBy w' v.ownBlock/\
   (some A'=v.ownBlock\/A'=w.heap.size):=by
 obtain⟨i,hi,hz,hz1,hz2⟩:=info_parts hT.info;obtain⟨v',w',hr,h2,h3,_,h5⟩:=run_append_own_at (P:=P) w base t ty e i z size bytes hT.under hi hz hz1 hz2 hT.cells hT.pos v n xs hown ⟨g,0,none⟩ 1 1 news (by rw[hl,ca])
  (fun j y hj=>by
   rw[gQ,ak,cell_of_row w g j _ e (0,0) hg];simpa using hj) h1 (by simp only[maxLen];omega) (by
    have:(n+1)*bytes<=(n+1)*1000:=fp _ hy
    omega) hbase
 rcases h2.2 with⟨_,h0⟩|⟨g',cap',cur,rfl,hx⟩
 ·omega
 ·refine⟨g',cap',w',hr,h2,h3,?_⟩;rcases h5 with h5|h5
  ·exact .inl h5
  ·exact .inr (M h5)
theorem cQ {P:Program} {w:World} {ops:Array Oper} {rest:List Oper} {o:Oper} {a:Act} {Q:Exit->Act->World->Prop} {t e:TypeId} {size bytes:Nat} {z:Value} (hT:jw P t e size bytes z) (hgd:o.guard=none) (s x:Operand)
  (ho:o.op= .call {callee:= .builtin .append,args:= #[s,x],argTypes:= #[t,t]}) (base:Nat) (v:Value) (n:Nat) (xs:List Value) (hv:a.eval s=v) (hown:w.ownsRow base e size v n xs)
  (g:Nat) (news:List Value) (hx:a.eval x= .slice (some ⟨g,0,none⟩) 1 1) (hg:w.heap[g]? =some (.cells news.toArray e (0,0))) (hl:news.length=size) (h1: ∀u∈news,u.oneCell'=true) (hb:n<=1073741824) (hy:bytes<=1000) (hbase:base<=w.heap.size)
  (h: ∀A' cap' w',w'.ownsRow base e size (.slice (some ⟨A',0,none⟩) (n+1) cap') (n+1) (xs++news)->w.grownBy w' v.ownBlock->(some A'=v.ownBlock\/A'=w.heap.size)->
   wpList P ops Q rest (a.put o.dst (.slice (some ⟨A',0,none⟩) (n+1) cap')) w'):
  wpList P ops Q (o::rest) a w:=by
 obtain⟨A',cap',w',hr,h1,h2,h3⟩:=p6 (P:=P) (w:=w) hT o.type base v n xs hown g news hg hl h1 hb hy hbase;refine wpList_plain hgd fun K hK=> ?_;unfold Oper.wp execOp;simp only[ho,resolve,invoke,builtin,fT,fS,dW,eo,cA,dX,hv,hx,hr];exact hK _ _ (h A' cap' w' h1 h2 h3)
theorem oC {P:Program} {w:World} {o:Oper} {a:Act} {K:Act->World->Prop} {Q:Exit->Act->World->Prop} {t e:TypeId} {size bytes:Nat} {z:Value} (hT:jw P t e size bytes z) (s x:Operand)
  (ho:o.op= .call {callee:= .builtin .append,args:= #[s,x],argTypes:= #[t,t]}) (base:Nat) (v:Value) (n:Nat) (xs:List Value) (hv:a.eval s=v) (hown:w.ownsRow base e size v n xs)
  (g:Nat) (news:List Value) (hx:a.eval x= .slice (some ⟨g,0,none⟩) 1 1) (hg:w.heap[g]? =some (.cells news.toArray e (0,0))) (hl:news.length=size) (h1: ∀u∈news,u.oneCell'=true) (hb:n<=1073741824) (hy:bytes<=1000) (hbase:base<=w.heap.size)
  (h: ∀A' cap' w',w'.ownsRow base e size (.slice (some ⟨A',0,none⟩) (n+1) cap') (n+1) (xs++news)->w.grownBy w' v.ownBlock->(some A'=v.ownBlock\/A'=w.heap.size)->
   K (a.put o.dst (.slice (some ⟨A',0,none⟩) (n+1) cap')) w'):
  o.wp P a w K Q:=by
 obtain⟨A',cap',w',hr,h1,h2,h3⟩:=p6 (P:=P) (w:=w) hT o.type base v n xs hown g news hg hl h1 hb hy hbase;unfold Oper.wp execOp;simp only[ho,resolve,invoke,builtin,fT,fS,dW,eo,cA,dX,hv,hx,hr];exact h A' cap' w' h1 h2 h3
theorem eV.snoc {w w':World} {base:Nat} {e:TypeId} {v:Value} {l:List (Ex×Value)} {x:Ex} {a:Value} {A cap:Nat} (h:eV w base e v l) (ha:bZ w (fun b=>base<=b/\some b≠v.ownBlock) a x.args)
  (hn:w'.ownsRow base e 6 (.slice (some ⟨A,0,none⟩) (l.length+1) cap) (l.length+1) (fe l++qK x a)) (hg:w.grownBy w' v.ownBlock) (hA:some A=v.ownBlock\/A=w.heap.size):
  eV w' base e (.slice (some ⟨A,0,none⟩) (l.length+1) cap) (l++[(x,a)]):=by
 have hk:cV (fun b=>base<=b/\some b≠v.ownBlock) w w':= .of_grown hg fun b hb=>hb.2;have hq: ∀b,(base<=b/\some b≠v.ownBlock)->b<w.heap.size->(base<=b/\some b≠Value.ownBlock (.slice (some ⟨A,0,none⟩) (l.length+1) cap)):=fun b hb hlt=>by
  refine⟨hb.1,fun e=> ?_⟩;have e:b=A:=M e;rcases hA with hA|hA
  ·exact hb.2 (by rw[e,hA])
  ·omega
 refine⟨by rw[aa,oh];simpa[fe]using hn,fun p hp=> ?_⟩;rcases List.mem_append.1 hp with hp|hp
 ·exact(h.2 p hp).keep hk hq
 ·rw[cS]at hp;subst hp;exact ha.keep hk hq
end
section
open Go.RowKit
inductive cP (w:World) (P:Nat->Prop):Value->List St->Prop where
 |nil (A:Option Addr) (c:Nat):cP w P (.slice A 0 c) []
 |row (b o n c:Nat) (xs:List St) (es bs ls:Nat->Value) (hP:P b) (hb:b<w.heap.size) (hn:xs.length=n) (hnc:n<=c) (hm:c<=maxLen)
   (hc: ∀i,(h:i<xs.length)->w.cell? ⟨b,o+i*5,none⟩=some (.int .i64 xs[i].k)/\w.cell? ⟨b,o+i*5+1,none⟩=some (.string (ae xs[i].nm))/\w.cell? ⟨b,o+i*5+2,none⟩=some (es i)/\
    w.cell? ⟨b,o+i*5+3,none⟩=some (bs i)/\w.cell? ⟨b,o+i*5+4,none⟩=some (ls i))
   (he: ∀i,(h:i<xs.length)->bZ w P (es i) (St.ex xs[i]))
   (hs: ∀i,(h:i<xs.length)->cP w P (bs i) (St.body xs[i]))
   (hl: ∀i,(h:i<xs.length)->cP w P (ls i) (St.els xs[i])):cP w P (.slice (some ⟨b,o,none⟩) n c) xs
theorem cP.keep {w w':World} {P Q:Nat->Prop} {v:Value} {xs:List St} (h:cP w P v xs) (hk:cV P w w') (hQ: ∀b,P b->b<w.heap.size->Q b):cP w' Q v xs:=by
 induction h with
 |nil A c=>exact .nil A c
 |row b o n c xs es bs ls hP hb hn hnc hm hc he hs hl ih1 ih2=>
  refine .row b o n c xs es bs ls (hQ b hP hb) (an hb hk.size) hn hnc hm (fun i hi=> ?_) (fun i hi=>(he i hi).keep hk hQ) ih1 ih2;obtain⟨h0,h1,h2,h3,h4⟩:=hc i hi;exact⟨(hk.cell _ hP hb).trans h0,(hk.cell _ hP hb).trans h1,(hk.cell _ hP hb).trans h2,(hk.cell _ hP hb).trans h3,(hk.cell _ hP hb).trans h4⟩
theorem cP.mono {w:World} {P Q:Nat->Prop} {v:Value} {xs:List St} (h:cP w P v xs) (hQ: ∀b,P b->b<w.heap.size->Q b):cP w Q v xs:=h.keep ⟨ag _,fun _ _ _=>rfl⟩ hQ
theorem cP.form {w:World} {P:Nat->Prop} {v:Value} {xs:List St} (h:cP w P v xs): ∃A c,v= .slice A xs.length c/\(xs=[]\/xs.length<=c/\c<=maxLen/\ ∃b o,A=some ⟨b,o,none⟩/\b<w.heap.size):=by
 cases h with
 |nil A c=>exact⟨A,c,rfl, .inl rfl⟩
 |row b o n c xs es bs ls hP hb hn hnc hm hc he hs hl=>exact⟨_,c,by rw[hn], .inr ⟨by omega,hm,b,o,rfl,hb⟩⟩
theorem cP.at_ {w:World} {P:Nat->Prop} {A:Option Addr} {n c:Nat} {xs:List St} (h:cP w P (.slice A n c) xs) (i:Nat) (hi:i<xs.length):
  ∃b o u v z,A=some ⟨b,o,none⟩/\b<w.heap.size/\P b/\w.cell? ⟨b,o+i*5,none⟩=some (.int .i64 xs[i].k)/\w.cell? ⟨b,o+i*5+1,none⟩=some (.string (ae xs[i].nm))/\w.cell? ⟨b,o+i*5+2,none⟩=some u/\
   w.cell? ⟨b,o+i*5+3,none⟩=some v/\w.cell? ⟨b,o+i*5+4,none⟩=some z/\bZ w P u (St.ex xs[i])/\cP w P v (St.body xs[i])/\cP w P z (St.els xs[i]):=by
 cases h with
 |nil=>simp at hi
 |row b o n c xs es bs ls hP hb hn hnc hm hc he hs hl=>
  obtain⟨h0,h1,h2,h3,h4⟩:=hc i hi;exact⟨b,o,es i,bs i,ls i,rfl,hb,hP,h0,h1,h2,h3,h4,he i hi,hs i hi,hl i hi⟩
structure SV where
 s:St
 e:Value
 b:Value
 l:Value
def rN (p:SV):List Value:=[.int .i64 p.s.k, .string (ae p.s.nm),p.e,p.b,p.l]
def dO (l:List SV):List Value:=l.flatMap rN
theorem jp: ∀l:List SV,(dO l).length=l.length*5
 | []=>rfl
 |p::l=>by
  have:=jp l;simp only[dO,cd,aa,rN,ac,af]at this⊢;omega
theorem nO (a b:List SV):dO (a++b)=dO a++dO b:=by simp[dO]
theorem j4: ∀(l:List SV) (i:Nat) (h:i<l.length) (k:Nat),k<5->(dO l)[i*5+k]? =(rN l[i])[k]?
 | [],i,h,k,hk=>by simp at h
 |p::l,0,h,k,hk=>by
  simp only[dO,cd,bl,ak,aL];rw[dh (by simp[rN];omega)]
 |p::l,i+1,h,k,hk=>by
  have:=j4 l i (by simpa using h) k hk;simp only[dO,cd,aP]at this⊢;rw[cF (by simp[rN];omega),<-this]
  congr 1
  simp[rN];omega
def SV.ok (w:World) (P:Nat->Prop) (p:SV):Prop:=bZ w P p.e p.s.ex/\cP w P p.b p.s.body/\cP w P p.l p.s.els
theorem SV.ok.keep {w w':World} {P Q:Nat->Prop} {p:SV} (h:p.ok w P) (hk:cV P w w') (hQ: ∀b,P b->b<w.heap.size->Q b):p.ok w' Q:=⟨h.1.keep hk hQ,h.2.1.keep hk hQ,h.2.2.keep hk hQ⟩
def f8 (w:World) (base:Nat) (e:TypeId) (v:Value) (l:List SV):Prop:=
 w.ownsRow base e 5 v l.length (dO l)/\ ∀p,p∈l->p.ok w (fun b=>base<=b/\some b≠v.ownBlock)
theorem f8.nil_ (w:World) (base:Nat) (e:TypeId):f8 w base e (.slice none 0 0) []:=⟨b7 w base e 5,fun p hp=>by cases hp⟩
theorem f8.grown {w w':World} {base:Nat} {e:TypeId} {v:Value} {l:List SV} {row:Option Nat} (h:f8 w base e v l) (hg:w.grownBy w' row) (hr: ∀k,row=some k->k<base):f8 w' base e v l:=by
 refine⟨bH h.1 hg ?_,fun p hp=> ?_⟩
 ·cases hv:v.ownBlock with
  |none=>exact .inl rfl
  |some k=>
   refine .inr fun e=> ?_;have:=(aJ h.1 k hv).1;have:=hr k e.symm;omega
 ·exact(h.2 p hp).keep (.of_grown hg fun b hb e=>by have:=hr b e.symm;omega) fun b hb _=>hb
theorem f8.ext {w w':World} {base:Nat} {e:TypeId} {v:Value} {l:List SV} (h:f8 w base e v l) (he:al w w'):f8 w' base e v l:=h.grown (he.grownBy none) (fun k hk=>by cases hk)
theorem f8.rd {w:World} {base:Nat} {e:TypeId} {v:Value} {l:List SV} (h:f8 w base e v l):cP w (fun b=>base<=b) v (l.map (·.s)):=by
 rcases h.1.2 with⟨rfl,h0⟩|⟨g,cap,cur,rfl,hb,hg,hnc,hcm,hcs,ht⟩
 ·have:l=[]:=aV h0;subst this;exact .nil _ _
 ·have hlt:g<w.heap.size:=(Array.getElem?_eq_some_iff.1 hg).1;have cell: ∀j y,(dO l)[j]? =some y->w.cell? ⟨g,j,none⟩=some y:=fun j y hy=>by
   rw[cell_of_row w g j cur e (0,0) hg];rw[<-ht,cr]at hy;split at hy
   ·simpa using hy
   ·cases hy
  have ok: ∀i (hi:i<l.length),SV.ok w (fun b=>base<=b) l[i]:=fun i hi=>(h.2 l[i] (aE hi)).keep ⟨ag _,fun _ _ _=>rfl⟩ fun b hb _=>hb.1;refine .row g 0 l.length cap _ (fun i=>if h:i<l.length then l[i].e else .slice none 0 0) (fun i=>if h:i<l.length then l[i].b else .slice none 0 0) (fun i=>if h:i<l.length then l[i].l else .slice none 0 0) hb hlt (by simp) hnc hcm (fun i hi=> ?_) (fun i hi=> ?_) (fun i hi=> ?_) (fun i hi=> ?_)
  ·have hi':i<l.length:=by simpa using hi
   have q:=fun k hk=>j4 l i hi' k hk;have e0:(l.map (·.s))[i]=l[i].s:=by simp
   rw[e0,dif_pos hi',dif_pos hi',dif_pos hi',ak];exact⟨cell _ _ (q 0 (by omega)),cell _ _ (q 1 (by omega)),cell _ _ (q 2 (by omega)),cell _ _ (q 3 (by omega)),cell _ _ (q 4 (by omega))⟩
  all_goals
   have hi':i<l.length:=by simpa using hi
   have e0:(l.map (·.s))[i]=l[i].s:=by simp
   rw[e0,dif_pos hi']
  ·exact(ok i hi').1
  ·exact(ok i hi').2.1
  ·exact(ok i hi').2.2
theorem f8.snoc {w w':World} {base:Nat} {e:TypeId} {v:Value} {l:List SV} {p:SV} {A cap:Nat} (h:f8 w base e v l) (ha:p.ok w (fun b=>base<=b/\some b≠v.ownBlock))
  (hn:w'.ownsRow base e 5 (.slice (some ⟨A,0,none⟩) (l.length+1) cap) (l.length+1) (dO l++rN p)) (hg:w.grownBy w' v.ownBlock) (hA:some A=v.ownBlock\/A=w.heap.size):
  f8 w' base e (.slice (some ⟨A,0,none⟩) (l.length+1) cap) (l++[p]):=by
 have hk:cV (fun b=>base<=b/\some b≠v.ownBlock) w w':= .of_grown hg fun b hb=>hb.2;have hq: ∀b,(base<=b/\some b≠v.ownBlock)->b<w.heap.size->(base<=b/\some b≠Value.ownBlock (.slice (some ⟨A,0,none⟩) (l.length+1) cap)):=fun b hb hlt=>by
  refine⟨hb.1,fun e=> ?_⟩;have e:b=A:=M e;rcases hA with hA|hA
  ·exact hb.2 (by rw[e,hA])
  ·omega
 refine⟨by rw[aa,nO];simpa[dO]using hn,fun q hp=> ?_⟩;rcases List.mem_append.1 hp with hp|hp
 ·exact(h.2 q hp).keep hk hq
 ·rw[cS]at hp;subst hp;exact ha.keep hk hq
def aR:=@PR.then_ok
def gq:=@bZ.one
def kg:=@eV.nil_
def nj:=@f8.nil_
end
end Go.Proofs.YtelplgkppalmfaaGreatDoor
