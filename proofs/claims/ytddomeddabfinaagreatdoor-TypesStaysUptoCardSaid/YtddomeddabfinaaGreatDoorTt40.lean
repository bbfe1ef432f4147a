/- Parts of the proof. -/
import Derived.Test.YtddomeddabfinaaGreatDoorTt00
import Derived.LaidLaws
import Derived.LaidHandle
import Derived.Handed
import Derived.Lay
import Derived.LaidOnce
import Derived.MakeChecks
import Derived.SevenTiedAt
import Derived.Lib.LaidU8
import Derived.Test.YtddomeddabfinaaGreatDoorTt37
import Derived.Test.YtddomeddabfinaaGreatDoorTie
import Derived.Test.YtddomeddabfinaaGreatDoorCards
import Derived.Test.YtddomeddabfinaaGreatDoorTt39
set_option maxRecDepth 100000
set_option maxHeartbeats 8000000
set_option linter.unusedVariables false
set_option linter.unusedSimpArgs false
set_option linter.unusedSectionVars false
namespace Go.Proofs.YtddomeddabfinaaGreatDoor
open Go.Proofs.Tryz
open Go.Joins Go.ChangeShapes Go.WideShapes Go.ChangeAt Go.RowKit Go.Deep
theorem mT (s:ByteArray):J s.data.toList=s:=by
 apply j8;simp[J]
section
variable {H:Type} {enc:TypeId×Value->H} {P:Program} {W:World}
theorem jn {t e:TypeId} {M:Nat} {base:Nat} {A:Nat->Bool} {K:Bool} {c:Value} {y:DataW H×List MemPlace} (O:P.underlying t=some (.slice e)) (ac:DataW.trod enc P W base A K M t [c]=some y):
  c=.slice none 0 0\/ ∃(z:Addr) (j w n:Nat) (h:List (DataW H×List MemPlace)) (rest:List (DataW H)),M=n+1/\c=.slice (some z) j w/\j<=w/\w<=maxLen/\h.length=j/\y.1=.slice (h.map (·.1)) rest/\
   ∀i (G:i<h.length),∃o,(∀k,k<P.cellsOf e->W.cell? ((z.add (i*P.cellsOf e)).add k)=o[k]?)/\o.length=P.cellsOf e/\DataW.trod enc P W base A K n e o=some h[i]:=by
 rcases DataW.trod_slice O ac with⟨a,_⟩|⟨z,j,w,h,rest,n,hf,a,hx,hb,hl,hm,hlen,hel,_,_⟩
 ·injection a with a;exact .inl a
 ·injection a with a;refine .inr ⟨z,j,w,n,h,rest.map (·.1),hf,a,hl,hm,hlen,by rw[hx],λi G=> ?_⟩;have key:=hel i Qa;rw[aO G]at key;obtain⟨o,ab,I⟩:=Option.bind_eq_some_iff.1 key;obtain⟨_,X,V⟩:=World.cells?_some ab;exact⟨o,λk R=>V k R,X,I⟩
theorem iD {t:TypeId} {a:Array Field} {A:Nat} {base:Nat} {o:Nat->Bool} {z:Bool} {h:List Value} {y:DataW H×List MemPlace} (K:P.underlying t=some (.struct a)) (X:DataW.trod enc P W base o z A t h=some y):
  ∃(n:Nat) (xs:List (DataW H×List MemPlace)),A=n+1/\h.length=P.cellsOf t/\y.1=.agg (xs.map (·.1))/\xs.length=a.size/\ ∀(i:Nat) (f:Field),a[i]? =some f-> ∃j,xs[i]? =some j/\DataW.trod enc P W base o z n f.type ((h.drop f.offset).take (P.cellsOf f.type))=some j:=by
 obtain⟨xs,n,V,G,O,M,R⟩:=DataW.trod_struct K X;refine⟨n,xs,V,O,by rw[G],M,λi f w=> ?_⟩;have I:i<a.size:=(Array.getElem?_eq_some_iff.1 w).1;refine⟨_,aO Qa,?_⟩;rw[R i f w,aO Qa]
theorem jC {α:Type} (a:α->Nat): ∀(h:List (DataW H×List MemPlace)) (g:Nat->α),(∀i (j:i<h.length),a (g i)<=Rows.uptoBulk h[i].1)->(((List.range h.length).map g).map a).sum<=Rows.uptoBulkAll (h.map (·.1))
 | [],g,_=>by simp[Rows.uptoBulkAll]
 |y::r,g,j=>by
  have o:=j 0 Qd;have z:=jC a r (λi=>g (i+1)) (λi w=>by have:=j (i+1) (by simpa using w);simpa using this);rw[ah,kF];simp only[bF,dU,eq,Rows.uptoBulkAll]at o z⊢;simp only[aK]at o;have:(List.map (a ∘ g ∘ Nat.succ) (List.range r.length)).sum=(List.map (a ∘ λi=>g (i+1)) (List.range r.length)).sum:=rfl;omega
theorem wq: ∀l:List Ex,gA l=(l.map Ex.wt).sum
 | []=>rfl
 |x::r=>by rw[gA,wq r];rfl
theorem wk: ∀l:List St,fP l=(l.map St.wt).sum
 | []=>rfl
 |x::r=>by rw[fP,wk r];rfl
theorem iv (a:List (DataW H×List MemPlace)) (rest:List (DataW H)):Rows.uptoBulkAll (a.map (·.1))+1<=Rows.uptoBulk (DataW.slice (a.map (·.1)) rest):=by
 simp only[Rows.uptoBulk];omega
theorem BO (l:List UInt8):Rows.uptoBulk (DataW.lit (H:=H) (.string l))=l.length+1:=by simp[Rows.uptoBulk]
theorem eY (d:DataW H):1<=Rows.uptoBulk d:=by
 cases d with
 |lit l=>cases l<;>simp[Rows.uptoBulk]
 |nil=>simp[Rows.uptoBulk]
 |ptr d=>simp[Rows.uptoBulk]
 |slice elems spare=>simp[Rows.uptoBulk]
 |agg parts=>simp[Rows.uptoBulk]
 |iface t d=>simp[Rows.uptoBulk]
 |map entries=>simp[Rows.uptoBulk]
 |held h=>simp[Rows.uptoBulk]
theorem qk (b a n k:Nat):((Addr.mk b a none).add n).add k=⟨b,a+n+k,none⟩:=by rw[Addr.add_lit,Addr.add_lit]
instance:Inhabited Ex:=⟨.mk 0 [] [] [] 0 []⟩
instance:Inhabited SV:=⟨⟨.mk 0 [] [] [] [],.nilIface,.nilIface,.nilIface⟩⟩
instance:Inhabited FV:=⟨⟨⟨[],[],[]⟩,.nilIface,.nilIface⟩⟩
instance:Inhabited Vr:=⟨⟨[],0⟩⟩
def ze (W:World) (b:Nat):Prop:=b<W.heap.size
theorem yA {base ab:Nat} {R:Bool} {K:Nat->Bool} {c:Value} {y:DataW H×List MemPlace} (I:DataW.trod enc prog W base K R ab 56 [c]=some y): ∃l,mQ W (ze W) c l/\(l.map λs=>s.length+1).sum+1<=Rows.uptoBulk y.1:=by
 have ae:prog.cellsOf 9=1:=Qb
 rcases jn underlying56 I with rfl|⟨a,len,cap,n,elems,rest,rfl,rfl,hl,hm,hlen0,hy,hx⟩
 ·exact⟨[],⟨none,0,rfl,.inl rfl⟩,eY _⟩
 ·rw[ae]at hx;have key: ∀i,i<len-> ∃s:List UInt8,W.cell? (a.add (i*1))=some (.string (J s))/\ ∀hi:i<elems.length,s.length+1<=Rows.uptoBulk (elems[i]'hi).1:=λi hi=>by
   have O:i<elems.length:=Qa
   obtain⟨ad,o,A,X⟩:=hx i O
   match ad,A with
   | [u],_=>
    obtain⟨s,w,ac,_⟩:=DataW.trod_string underlying9 X;injection w with w;have:=o 0 Qa;refine⟨s.data.toList,?_,λhi=> ?_⟩
    ·rw[mT,<-w];simpa[Addr.add]using this
    ·rw[ac];exact Nat.le_of_eq (BO _).symm
  obtain⟨f,j⟩:=choose_lt (α:=List UInt8) key;have z:((List.range len).map f).length=len:=Qd
  have V:(((List.range len).map f).map λs=>s.length+1).sum+1<=Rows.uptoBulk y.1:=by
   have o:=jC (λs:List UInt8=>s.length+1) elems f (λi hi=>(j i Qa).2 hi);rw[hlen0]at o;have A:=iv elems rest;rw[hy];omega
  by_cases h0:len=0
  ·subst h0;exact⟨[],⟨some a,cap,rfl,.inl rfl⟩,eY _⟩
  ·obtain⟨b,off,G⟩:=a;have h:=(j 0 Qa).1;have M:G=none:=by simpa[Addr.add]using World.cell?_spot h
   subst M;refine⟨(List.range len).map f,⟨_,cap,by rw[z],.inr ⟨by omega,hm,b,off,rfl,?_,?_,λi hi=> ?_⟩⟩,V⟩
   ·have:=World.block_lt_of_cell? _ _ h;simpa[Addr.add,ze]using this
   ·have:=World.block_lt_of_cell? _ _ h;simpa[Addr.add]using this
   ·rw[z]at hi;have:=(j i hi).1;rw[Addr.add_lit]at this;simpa using this
theorem pS {base:Nat} {w:Bool} {o:Nat->Bool}: ∀(N R:Nat),R<=N-> ∀{c:Value} {y:DataW H×List MemPlace},DataW.trod enc prog W base o w R 64 [c]=some y-> ∃l,c7 W (ze W) c l/\gA l+1<=Rows.uptoBulk y.1
 |0,R,hN,c,y,h=>by
  obtain rfl:R=0:=Qa
  simp[DataW.trod]at h
 |N+1,R,hN,c,y,h=>by
  have a4:prog.cellsOf 75=6:=Qb
  have aG:prog.cellsOf 3=1:=Qb
  have aj:prog.cellsOf 9=1:=Qb
  have a3:prog.cellsOf 64=1:=Qb
  rcases jn underlying64 h with rfl|⟨a,len,cap,n,elems,rest,rfl,rfl,hl,hm,hlen0,hy,hx⟩
  ·exact⟨[],.nil _ _,eY _⟩
  ·rw[a4]at hx;have key: ∀i,i<len-> ∃p:Ex×Value,(∀k,k<6->W.cell? ((a.add (i*6)).add k)=(uA p.1 p.2)[k]?)/\c7 W (ze W) p.2 p.1.args/\ ∀hi:i<elems.length,Ex.wt p.1<=Rows.uptoBulk (elems[i]'hi).1:=λi hi=>by
    have aV:i<elems.length:=Qa
    obtain⟨a2,ab,ay,aX⟩:=hx i aV
    match a2,ay with
    | [u0,u1,u2,u3,u4,u5],_=>
     obtain⟨m,xs,rfl,_,aS,aT,j⟩:=iD underlying75 aX;obtain⟨aq,aR,ah⟩:=j 0 _ rfl;have ah:DataW.trod enc prog W base o w m 3 [u0]=some aq:=by simpa[aG]using ah
     obtain⟨ap,aQ,ag⟩:=j 1 _ rfl;have ag:DataW.trod enc prog W base o w m 9 [u1]=some ap:=by simpa[aj]using ag
     obtain⟨ao,aP,af⟩:=j 2 _ rfl;have af:DataW.trod enc prog W base o w m 9 [u2]=some ao:=by simpa[aj]using af
     obtain⟨an,aO,ae⟩:=j 3 _ rfl;have ae:DataW.trod enc prog W base o w m 9 [u3]=some an:=by simpa[aj]using ae
     obtain⟨al,aN,ad⟩:=j 4 _ rfl;have ad:DataW.trod enc prog W base o w m 3 [u4]=some al:=by simpa[aG]using ad
     obtain⟨ak,aM,ac⟩:=j 5 _ rfl;have ac:DataW.trod enc prog W base o w m 64 [u5]=some ak:=by simpa[a3]using ac
     obtain⟨aI,rfl,_⟩:=iO underlying3 ah;obtain⟨av,I,a1,_⟩:=DataW.trod_string underlying9 ag;injection I with I;have I:u1=.string (J av.data.toList):=by rw[mT];exact I
     subst I;obtain⟨au,X,aZ,_⟩:=DataW.trod_string underlying9 af;injection X with X;have X:u2=.string (J au.data.toList):=by rw[mT];exact X
     subst X;obtain⟨ar,V,aY,_⟩:=DataW.trod_string underlying9 ae;injection V with V;have V:u3=.string (J ar.data.toList):=by rw[mT];exact V
     subst V;obtain⟨aH,rfl,_⟩:=iO underlying3 ad;obtain⟨aL,aK,a5⟩:=pS N m Qa ac
     obtain⟨A,O,M,K,z,G,rfl⟩: ∃A O M K z G,xs=[A,O,M,K,z,G]:=(by
      match xs,aT with
      | [A,O,M,K,z,G],_=>exact⟨A,O,M,K,z,G,rfl⟩)
     obtain rfl:A=aq:=by simpa using aR
     obtain rfl:O=ap:=by simpa using aQ
     obtain rfl:M=ao:=by simpa using aP
     obtain rfl:K=an:=by simpa using aO
     obtain rfl:z=al:=by simpa using aN
     obtain rfl:G=ak:=by simpa using aM
     refine⟨(.mk aI av.data.toList au.data.toList ar.data.toList aH aL,u5),ab,aK,λhi=> ?_⟩;rw[aS];simp only[bF,cY,Rows.uptoBulk,Rows.uptoBulkAll,a1,aZ,aY];have az:=eY A.1;have a6:=eY z.1;simp only[Ex.wt,Rows.uptoBulk];omega
   obtain⟨f,j⟩:=choose_lt (α:=Ex×Value) key;have aW:gA ((List.range len).map λi=>(f i).1)+1<=Rows.uptoBulk y.1:=by
    have ab:=jC (λp:Ex×Value=>Ex.wt p.1) elems f (λi hi=>(j i Qa).2.2 hi);rw[hlen0]at ab;have ay:=iv elems rest;rw[hy];rw[wq,dU];rw[dU]at ab;have:(List.map (Ex.wt ∘ λi=>(f i).1) (List.range len)).sum=(List.map ((λp:Ex×Value=>p.1.wt) ∘ f) (List.range len)).sum:=rfl;omega
   by_cases az:len=0
   ·subst az;exact⟨[],.nil _ _,eY _⟩
   ·obtain⟨b,off,aJ⟩:=a;have aw:=(j 0 Qa).1 0 Qa;have aU:aJ=none:=by simpa[Addr.add]using World.cell?_spot (show _=some _ from aw)
    subst aU;have ax:b<W.heap.size:=by
     have:=World.block_lt_of_cell? _ _ (show _=some _ from aw);simpa[Addr.add]using this
    refine⟨(List.range len).map λi=>(f i).1,.row b off len cap _ (λi=>(f i).2) ax ax Qd hl hm (λi hi=> ?_) (λi hi=> ?_),aW⟩
    ·have ai:i<len:=by simpa using hi
     have g:=(j i ai).1;have aF:=g 0 Qa;have aE:=g 1 Qa;have aD:=g 2 Qa;have aC:=g 3 Qa;have aB:=g 4 Qa;have aA:=g 5 Qa;rw[qk]at aF aE aD aC aB aA;simpa[uA]using⟨aF,aE,aD,aC,aB,aA⟩
    ·have ai:i<len:=by simpa using hi
     simpa using(j i ai).2.1
theorem mX {base:Nat} {A:Bool} {z:Nat->Bool}: ∀(N R:Nat),R<=N-> ∀{c:Value} {y:DataW H×List MemPlace},DataW.trod enc prog W base z A R 61 [c]=some y-> ∃l,db W (ze W) c l/\fP l+1<=Rows.uptoBulk y.1
 |0,R,hN,c,y,h=>by
  obtain rfl:R=0:=Qa
  simp[DataW.trod]at h
 |N+1,R,hN,c,y,h=>by
  have aX:prog.cellsOf 66=5:=Qb
  have aV:prog.cellsOf 3=1:=Qb
  have aU:prog.cellsOf 9=1:=Qb
  have aW:prog.cellsOf 64=1:=Qb
  have ay:prog.cellsOf 61=1:=Qb
  rcases jn underlying61 h with rfl|⟨a,len,cap,n,elems,rest,rfl,rfl,hl,hm,hlen0,hy,hx⟩
  ·exact⟨[],.nil _ _,eY _⟩
  ·rw[aX]at hx;have key: ∀i,i<len-> ∃p:SV,(∀k,k<5->W.cell? ((a.add (i*5)).add k)=(uS p)[k]?)/\p.ok W (ze W)/\ ∀hi:i<elems.length,St.wt p.s<=Rows.uptoBulk (elems[i]'hi).1:=λi hi=>by
    have aP:i<elems.length:=Qa
    obtain⟨aT,X,ap,aR⟩:=hx i aP
    match aT,ap with
    | [u0,u1,u2,u3,u4],_=>
     obtain⟨m,xs,rfl,_,aM,aN,j⟩:=iD underlying66 aR;obtain⟨aj,aL,ae⟩:=j 0 _ rfl;have ae:DataW.trod enc prog W base z A m 3 [u0]=some aj:=by simpa[aV]using ae
     obtain⟨ai,aK,ad⟩:=j 1 _ rfl;have ad:DataW.trod enc prog W base z A m 9 [u1]=some ai:=by simpa[aU]using ad
     obtain⟨ah,aJ,ac⟩:=j 2 _ rfl;have ac:DataW.trod enc prog W base z A m 64 [u2]=some ah:=by simpa[aW]using ac
     obtain⟨ag,aI,ab⟩:=j 3 _ rfl;have ab:DataW.trod enc prog W base z A m 61 [u3]=some ag:=by simpa[ay]using ab
     obtain⟨af,aH,I⟩:=j 4 _ rfl;have I:DataW.trod enc prog W base z A m 61 [u4]=some af:=by simpa[ay]using I
     obtain⟨az,rfl,_⟩:=iO underlying3 ae;obtain⟨al,V,aS,_⟩:=DataW.trod_string underlying9 ad;injection V with V;have V:u1=.string (J al.data.toList):=by rw[mT];exact V
     subst V;obtain⟨aG,aD,a1⟩:=pS m m (ak _) ac;obtain⟨aF,aC,aZ⟩:=mX N m Qa ab;obtain⟨aE,aB,aY⟩:=mX N m Qa I
     obtain⟨w,O,M,K,G,rfl⟩: ∃w O M K G,xs=[w,O,M,K,G]:=(by
      match xs,aN with
      | [w,O,M,K,G],_=>exact⟨w,O,M,K,G,rfl⟩)
     obtain rfl:w=aj:=by simpa using aL
     obtain rfl:O=ai:=by simpa using aK
     obtain rfl:M=ah:=by simpa using aJ
     obtain rfl:K=ag:=by simpa using aI
     obtain rfl:G=af:=by simpa using aH
     refine⟨⟨.mk az al.data.toList aG aF aE,u2,u3,u4⟩,X,⟨aD,aC,aB⟩,λhi=> ?_⟩;rw[aM];simp only[bF,cY,Rows.uptoBulk,Rows.uptoBulkAll,aS];have aq:=eY w.1;simp only[St.wt,Rows.uptoBulk];omega
   obtain⟨f,j⟩:=choose_lt (α:=SV) key;have aQ:fP ((List.range len).map λi=>(f i).s)+1<=Rows.uptoBulk y.1:=by
    have X:=jC (λp:SV=>St.wt p.s) elems f (λi hi=>(j i Qa).2.2 hi);rw[hlen0]at X;have ap:=iv elems rest;rw[hy];rw[wk,dU];rw[dU]at X;have:(List.map (St.wt ∘ λi=>(f i).s) (List.range len)).sum=(List.map ((λp:SV=>p.s.wt) ∘ f) (List.range len)).sum:=rfl;omega
   by_cases aq:len=0
   ·subst aq;exact⟨[],.nil _ _,eY _⟩
   ·obtain⟨b,off,aA⟩:=a;have an:=(j 0 Qa).1 0 Qa;have aO:aA=none:=by simpa[Addr.add]using World.cell?_spot (show _=some _ from an)
    subst aO;have ao:b<W.heap.size:=by
     have:=World.block_lt_of_cell? _ _ (show _=some _ from an);simpa[Addr.add]using this
    refine⟨(List.range len).map λi=>(f i).s,.row b off len cap _ (λi=>(f i).e) (λi=>(f i).b) (λi=>(f i).l) ao ao Qd hl hm (λi hi=> ?_) (λi hi=> ?_) (λi hi=> ?_) (λi hi=> ?_),aQ⟩
    ·have o:i<len:=by simpa using hi
     have g:=(j i o).1;have ax:=g 0 Qa;have aw:=g 1 Qa;have av:=g 2 Qa;have au:=g 3 Qa;have ar:=g 4 Qa;rw[qk]at ax aw av au ar;simpa[uS]using⟨ax,aw,av,au,ar⟩
    ·have o:i<len:=by simpa using hi
     simpa using(j i o).2.1.1
    ·have o:i<len:=by simpa using hi
     simpa using(j i o).2.1.2.1
    ·have o:i<len:=by simpa using hi
     simpa using(j i o).2.1.2.2
theorem vy {base aD:Nat} {G:Bool} {A:Nat->Bool} {c:Value} {y:DataW H×List MemPlace} (aC:DataW.trod enc prog W base A G aD 23 [c]=some y): ∃l,jl W (ze W) c l/\(l.map λf=>f.wt+1).sum+1<=Rows.uptoBulk y.1:=by
 have aJ:prog.cellsOf 63=3:=Qb
 have aG:prog.cellsOf 9=1:=Qb
 have aH:prog.cellsOf 56=1:=Qb
 have aI:prog.cellsOf 61=1:=Qb
 rcases jn underlying23 aC with rfl|⟨a,len,cap,n,elems,rest,rfl,rfl,hl,hm,hlen0,hy,hx⟩
 ·exact⟨[],⟨none,0,rfl,.inl rfl⟩,eY _⟩
 ·rw[aJ]at hx;have key: ∀i,i<len-> ∃p:FV,(∀k,k<3->W.cell? ((a.add (i*3)).add k)=(t8 p)[k]?)/\p.ok W (ze W)/\ ∀hi:i<elems.length,p.c.wt+1<=Rows.uptoBulk (elems[i]'hi).1:=λi hi=>by
   have az:i<elems.length:=Qa
   obtain⟨aF,K,af,aB⟩:=hx i az
   match aF,af with
   | [u0,u1,u2],_=>
    obtain⟨m,xs,rfl,_,av,aw,h⟩:=iD underlying63 aB;obtain⟨I,au,R⟩:=h 0 _ rfl;have R:DataW.trod enc prog W base A G m 9 [u0]=some I:=by simpa[aG]using R
    obtain⟨X,ar,O⟩:=h 1 _ rfl;have O:DataW.trod enc prog W base A G m 56 [u1]=some X:=by simpa[aH]using O
    obtain⟨V,aq,M⟩:=h 2 _ rfl;have M:DataW.trod enc prog W base A G m 61 [u2]=some V:=by simpa[aI]using M
    obtain⟨ab,z,aE,_⟩:=DataW.trod_string underlying9 R;injection z with z;have z:u0=.string (J ab.data.toList):=by rw[mT];exact z
    subst z;obtain⟨ap,an,aL⟩:=yA O;obtain⟨ao,al,aK⟩:=mX m m (ak _) M
    obtain⟨w,o,j,rfl⟩: ∃w o j,xs=[w,o,j]:=(by
     match xs,aw with
     | [w,o,j],_=>exact⟨w,o,j,rfl⟩)
    obtain rfl:w=I:=by simpa using au
    obtain rfl:o=X:=by simpa using ar
    obtain rfl:j=V:=by simpa using aq
    refine⟨⟨⟨ab.data.toList,ap,ao⟩,u1,u2⟩,K,⟨an,al⟩,λhi=> ?_⟩;rw[av];simp only[bF,cY,Rows.uptoBulk,Rows.uptoBulkAll,aE];simp only[Fc.wt,Rows.uptoBulk];omega
  obtain⟨f,h⟩:=choose_lt (α:=FV) key;have aA:(((List.range len).map λi=>(f i).c).map λf=>f.wt+1).sum+1<=Rows.uptoBulk y.1:=by
   have K:=jC (λp:FV=>p.c.wt+1) elems f (λi hi=>(h i Qa).2.2 hi);rw[hlen0]at K;have af:=iv elems rest;rw[hy];rw[dU];rw[dU]at K;have:(List.map ((λf:Fc=>f.wt+1) ∘ λi=>(f i).c) (List.range len)).sum=(List.map ((λp:FV=>p.c.wt+1) ∘ f) (List.range len)).sum:=rfl;omega
  by_cases h0:len=0
  ·subst h0;exact⟨[],⟨some a,cap,rfl,.inl rfl⟩,eY _⟩
  ·obtain⟨b,off,aj⟩:=a;have ac:=(h 0 Qa).1 0 Qa;have ax:aj=none:=by simpa[Addr.add]using World.cell?_spot (show _=some _ from ac)
   subst ax;have ad:b<W.heap.size:=by
    have:=World.block_lt_of_cell? _ _ (show _=some _ from ac);simpa[Addr.add]using this
   have ay:((List.range len).map λi=>(f i).c).length=len:=Qd
   refine⟨(List.range len).map λi=>(f i).c,⟨_,cap,by rw[ay],.inr ⟨by omega,hm,b,off,rfl,ad,ad,(λi=>(f i).p),(λi=>(f i).b),λi hi=> ?_⟩⟩,aA⟩;have ae:i<len:=by simpa using hi
   have g:=(h i ae).1;have ai:=g 0 Qa;have ah:=g 1 Qa;have ag:=g 2 Qa;rw[qk]at ai ah ag;have q:=(h i ae).2.1;refine⟨?_,?_,?_,?_,?_⟩
   ·simpa[t8]using ai
   ·simpa[t8]using ah
   ·simpa[t8]using ag
   ·simpa using q.1
   ·simpa using q.2
theorem yz {base au:Nat} {M:Bool} {A:Nat->Bool} {c:Value} {y:DataW H×List MemPlace} (ar:DataW.trod enc prog W base A M au 22 [c]=some y): ∃l,ik W (ze W) c l/\(l.map λv=>v.nm.length+1).sum+1<=Rows.uptoBulk y.1:=by
 have az:prog.cellsOf 109=2:=Qb
 have ax:prog.cellsOf 9=1:=Qb
 have ay:prog.cellsOf 3=1:=Qb
 rcases jn underlying22 ar with rfl|⟨a,len,cap,n,elems,rest,rfl,rfl,hl,hm,hlen0,hy,hx⟩
 ·exact⟨[],⟨none,0,rfl,.inl rfl⟩,eY _⟩
 ·rw[az]at hx;have key: ∀i,i<len-> ∃p:Vr,(∀k,k<2->W.cell? ((a.add (i*2)).add k)=(nN p)[k]?)/\True/\ ∀hi:i<elems.length,p.nm.length+1<=Rows.uptoBulk (elems[i]'hi).1:=λi hi=>by
   have ao:i<elems.length:=Qa
   obtain⟨aw,w,ac,aq⟩:=hx i ao
   match aw,ac with
   | [u0,u1],_=>
    obtain⟨m,xs,rfl,_,aj,ak,h⟩:=iD underlying109 aq;obtain⟨R,ai,K⟩:=h 0 _ rfl;have K:DataW.trod enc prog W base A M m 9 [u0]=some R:=by simpa[ax]using K
    obtain⟨O,ah,G⟩:=h 1 _ rfl;have G:DataW.trod enc prog W base A M m 3 [u1]=some O:=by simpa[ay]using G
    obtain⟨V,z,av,_⟩:=DataW.trod_string underlying9 K;injection z with z;have z:u0=.string (J V.data.toList):=by rw[mT];exact z
    subst z;obtain⟨af,rfl,_⟩:=iO underlying3 G
    obtain⟨o,j,rfl⟩: ∃o j,xs=[o,j]:=(by
     match xs,ak with
     | [o,j],_=>exact⟨o,j,rfl⟩)
    obtain rfl:o=R:=by simpa using ai
    obtain rfl:j=O:=by simpa using ah
    refine⟨⟨V.data.toList,af⟩,w,trivial,λhi=> ?_⟩;rw[aj];simp only[bF,cY,Rows.uptoBulk,Rows.uptoBulkAll,av];have w:=eY j.1;try simp only[Rows.uptoBulk]
    omega
  obtain⟨f,h⟩:=choose_lt (α:=Vr) key;have ap:(((List.range len).map λi=>(f i)).map λv=>v.nm.length+1).sum+1<=Rows.uptoBulk y.1:=by
   have w:=jC (λp:Vr=>p.nm.length+1) elems f (λi hi=>(h i Qa).2.2 hi);rw[hlen0]at w;have ac:=iv elems rest;rw[hy];rw[dU];rw[dU]at w;have:(List.map ((λv:Vr=>v.nm.length+1) ∘ λi=>f i) (List.range len)).sum=(List.map ((λp:Vr=>p.nm.length+1) ∘ f) (List.range len)).sum:=rfl;omega
  by_cases h0:len=0
  ·subst h0;exact⟨[],⟨some a,cap,rfl,.inl rfl⟩,eY _⟩
  ·obtain⟨b,off,ag⟩:=a;have X:=(h 0 Qa).1 0 Qa;have al:ag=none:=by simpa[Addr.add]using World.cell?_spot (show _=some _ from X)
   subst al;have I:b<W.heap.size:=by
    have:=World.block_lt_of_cell? _ _ (show _=some _ from X);simpa[Addr.add]using this
   have an:((List.range len).map λi=>f i).length=len:=Qd
   refine⟨(List.range len).map λi=>f i,⟨_,cap,by rw[an],.inr ⟨by omega,hm,b,off,rfl,I,I,λi hi=> ?_⟩⟩,ap⟩;have ab:i<len:=by simpa using hi
   have ae:=(h i ab).1 0 Qa;have ad:=(h i ab).1 1 Qa;rw[qk]at ae ad;exact⟨by simpa[nN]using ae,by simpa[nN]using ad⟩
theorem Ag {h:World} {P:Nat->Prop} {v:Value} {l:List Vr} (j:ik h P v l): ∃a n c,v=.slice a n c:=by obtain⟨a,c,rfl,_⟩:=j;exact⟨_,_,_,rfl⟩
theorem Ah {h:World} {P:Nat->Prop} {v:Value} {l:List Fc} (j:jl h P v l): ∃a n c,v=.slice a n c:=by obtain⟨a,c,rfl,_⟩:=j;exact⟨_,_,_,rfl⟩
theorem C7 {r:Reach} {O base:Nat} {o:Nat->Bool} {K:Bool} {v:Value} {d:DataW H} {p:List MemPlace} (G:Value.okWide prog W r O 25 v) (M:DataW.Trod enc prog W base o K 25 v d p):
  ∃(a B:Option Addr) (n c m e:Nat) (g:Pg),v=.agg #[.slice a n c,.slice B m e]/\ik W (ze W) (.slice a n c) g.vs/\jl W (ze W) (.slice B m e) g.fs/\jo g<=Rows.uptoBulk d:=by
 obtain⟨ab,I,V,R,n,rfl,rfl,_,A,z⟩:=yB underlying25 Qb Qb G M;obtain⟨l0,j,w0⟩:=yz A;obtain⟨w,h,X⟩:=vy z;obtain⟨a,n,c,rfl⟩:=Ag j;obtain⟨B,m,e,rfl⟩:=Ah h;refine⟨a,B,n,c,m,e,⟨l0,w⟩,rfl,j,h,?_⟩;simp only[jo,Rows.uptoBulk,Rows.uptoBulkAll];omega
end
end Go.Proofs.YtddomeddabfinaaGreatDoor
