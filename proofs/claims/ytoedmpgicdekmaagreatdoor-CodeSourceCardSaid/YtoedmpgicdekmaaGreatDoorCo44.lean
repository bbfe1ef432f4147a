/- Parts of the proof. -/
import Derived.Test.YtoedmpgicdekmaaGreatDoorCo39
set_option maxRecDepth 100000
set_option maxHeartbeats 8000000
set_option linter.all false
namespace Go.Proofs.YtoedmpgicdekmaaGreatDoor
open Value renaming int->Za,slice->Zb,string->Zc
open Go.Proofs.Tryz
section
open Go.RowKit
mutual
def Hr:Ex->Nat
 | .mk k op nm tx v a=>80+tx.length+wd a
def wd:List Ex->Nat
 | []=>0
 |x::l=>Hr x+wd l
end
mutual
theorem Ge: ∀x:Ex,Hr x<=80*x.wt
 | .mk k op nm tx v a=>by
  have:=sO a;rw[Hr,Ex.wt];omega
theorem sO: ∀l:List Ex,wd l<=80*dU l
 | []=>by simp[wd]
 |x::r=>by
  have:=Ge x;have:=sO r;rw[wd,dU];omega
end
theorem AA {l:List Ex} {j:Nat} (a:j<l.length):wd (l.drop j)=Hr l[j]+wd (l.drop (j+1)):=by
 rw[ap a,wd]
def I1 (xs:List Ex):Prop:= ∀(P:Nat->Prop) (w:World) (A:Option Addr) (n c:Nat),dS w P (Zb A n c) xs->Calls prog 75 #[Zb A n c] w λe w'=>e=.returned (Za .i64 (wd xs:Int))/\au w w'
theorem um (xs:List Ex) (bi:dU xs<=100000000) (av: ∀x∈xs,I1 x.args):I1 xs:=by
 intro P ap bp n c ad;obtain⟨bo,c',aQ,aT⟩:=ad.form;injection aQ with aP aN aM;subst aP aN aM;have aS:=d7 xs;have aU:=sO xs;have aE:=G ad;have bc:=G av;obtain⟨N,z⟩: ∃N,xs.length=N:=⟨_,rfl⟩
 have aF:=G z;rw[z]at aE aS;obtain⟨A,H⟩: ∃a6,wd xs=a6:=⟨_,rfl⟩
 have ba:=G (show 0+wd (xs.drop 0)=A by rw[<-H];simp);have a8:=G (aI ap);have bl:A<=8000000000:=J
 rw[z,H];clear ad aT av z H aU;go_enter func75,ntmps75;go_wp2_with fail
 go_loopw [3,8] (λaL R wr=> ∃(j m:Nat),R=Za .i64 (j:Int)/\aL=Za .i64 (m:Int)/\j<=N/\Hid (m+wd (xs.drop j)=A)/\Hid (au ap wr)) (λ_ R _=>N-(intOf R).toNat)
 case atStart=>exact⟨0,0,rfl,rfl,aD _,ba,a8⟩
 case round=>
  obtain⟨j,m,rfl,rfl,bj,al,d⟩:=hrel;by_cases hlt:j<N
  ·have aR:(j:Int)<N:=J
   have V:j<xs.length:=by have:=aF.out;omega
   obtain⟨b,be,bn,rfl,a,bm,aj,ai,ah,ag,af,az,y⟩:=aE.out.at_ j V;have I:=AA V;have ae:=bc.out _ (ax V);generalize xs[j]=aJ at*;obtain⟨k,op,nm,tx,v,F⟩:=aJ;simp only[Ex.k,Ex.op,Ex.nm,Ex.tx,Ex.v,Ex.args]at aj ai ah ag af y ae;rw[Hr]at I;have w:=al.out;rw[I]at w;have e0:=(d.out.cell b _ a).trans aj;have a3:=(d.out.cell b _ a).trans ai;have a2:=(d.out.cell b _ a).trans ah;have a1:=(d.out.cell b _ a).trans ag;have aY:=(d.out.cell b _ a).trans af;have aX:=(d.out.cell b _ a).trans az;obtain⟨ao,c1,rfl,_⟩:=y.form;obtain⟨u,aa⟩: ∃u,wr.alloc (.cells #[Za .i64 k,Zc (Z op),Zc (Z nm),Zc (Z tx),Za .i64 v,Zb ao F.length c1] 206)=u:=⟨_,rfl⟩
   have ay:=au.of_eq_alloc aa;have aH:=G (show aO u wr.heap.size 206 #[Za .i64 k,Zc (Z op),Zc (Z nm),Zc (Z tx),Za .i64 v,Zb ao F.length c1] by rw[<-aa];exact aq _ _ _);have aA:=G (d.out.trans ay);have aC:=G (y.keep (.of_ext aA.out) (Q:=P) (λb a _=>a));obtain⟨o,X⟩: ∃a4,wd F=a4:=⟨_,rfl⟩
   rw[X]at w;have aG:=G (λW (aW:au u W)=>X▸ae P W ao _ c1 (aC.out.keep (.of_ext aW) (Q:=P) (λb a _=>a)));have a9:=G w;have bk:m+(80+tx.length+o)<=8000000000:=J
   clear aj ai ah ag af az y ae ay aC X I w al
   go_upto_region 5 with fail
   clear aa e0 a3 a2 a1 aY aX;have a5:=aH.out.cell;have an:=G (show au u u.drew from eR (aI _));have aB:=G (aZ tx);have ar:=aZ tx;obtain⟨T,aV⟩: ∃T,(Z tx).size=T:=⟨_,rfl⟩
   rw[aV]at aB ar;have bh:IntKind.i64.wrap (80+(T:Int))=80+T:=Qc
   have bg:IntKind.i64.wrap (80+(T:Int)+o)=80+T+o:=Qc
   have bf:IntKind.i64.wrap ((m:Int)+(80+T+o))=m+(80+T+o):=Qc
   clear ar
   go_region_law (go_simp;go_at_call 75;refine(aG.out _ an.out).mono ?_;rintro e bd ⟨rfl,aw⟩;have am:=G (an.out.trans aw);have c2:=(aH.out.ext am.out).cell;clear aG aw)
   all_goals
    have a7:=G (aA.out.trans am.out);clear a5 c2 an am;go_wp2_with fail;go_roundw
    case rel=>exact⟨j+1,m+(80+tx.length+o),by go_num,congrArg (Value.int .i64) (by have:=aB.out;omega),by omega,G (by have:=a9.out;omega),a7⟩
    case measure=>simp[intOf];omega
  ·have aR: ¬(j:Int)<N:=J
   have bb:=G (show m=A by
    have:=al.out;rw[aK (by have:=aF.out;omega),wd]at this
    omega)
   go_wp2_with fail;go_ret;exact⟨by rw[<-bb.out];rfl,d.out⟩
theorem rN: ∀(m:Nat) (xs:List Ex),dU xs<=m->dU xs<=100000000->I1 xs
 |0,xs,h,hw=>um xs hw (λx a=>by have:=eE a;have:=x.wt_eq;omega)
 |m+1,xs,h,hw=>um xs hw (λx a=>rN m x.args (by have:=eE a;have:=x.wt_eq;omega) (by have:=eE a;have:=x.wt_eq;omega))
end
section
open Go.RowKit
mutual
def Hq:St->Nat
 | .mk k nm ex b e=>80+wd ex+kT b+kT e
def kT:List St->Nat
 | []=>0
 |x::l=>Hq x+kT l
end
mutual
theorem Gd: ∀x:St,Hq x<=80*x.wt
 | .mk k nm ex b e=>by
  have:=sO ex;have:=p_ b;have:=p_ e;rw[Hq,St.wt];omega
theorem p_: ∀l:List St,kT l<=80*eX l
 | []=>by simp[kT]
 |x::r=>by
  have:=Gd x;have:=p_ r;rw[kT,eX];omega
end
theorem yJ {l:List St} {j:Nat} (a:j<l.length):kT (l.drop j)=Hq l[j]+kT (l.drop (j+1)):=by
 rw[ap a,kT]
def I2 (xs:List St):Prop:= ∀(P:Nat->Prop) (w:World) (A:Option Addr) (n c:Nat),eq w P (Zb A n c) xs->Calls prog 36 #[Zb A n c] w λe w'=>e=.returned (Za .i64 (kT xs:Int))/\au w w'
theorem uo (xs:List St) (bL:eX xs<=100000000) (aW: ∀x∈xs,I1 x.ex/\I2 x.body/\I2 x.els):I2 xs:=by
 intro P aU bS n c aE;obtain⟨bR,c',bf,bi⟩:=aE.form;injection bf with be bd bc;subst be bd bc;have bh:=fx xs;have bj:=p_ xs;have a5:=G aE;have bw:=G aW;obtain⟨N,aj⟩: ∃N,xs.length=N:=⟨_,rfl⟩
 have a6:=G aj;rw[aj]at a5 bh;obtain⟨al,aC⟩: ∃bp,kT xs=bp:=⟨_,rfl⟩
 have bu:=G (show 0+kT (xs.drop 0)=al by rw[<-aC];simp);have br:=G (aI aU);have bO:al<=8000000000:=J
 rw[aj,aC];clear aE bi aW aj aC bj;go_enter func36,ntmps36;go_wp2_with fail
 go_loopw [3,8] (λbb ao wr=> ∃(j m:Nat),ao=Za .i64 (j:Int)/\bb=Za .i64 (m:Int)/\j<=N/\Hid (m+kT (xs.drop j)=al)/\Hid (au aU wr)) (λ_ ao _=>N-(intOf ao).toNat)
 case atStart=>exact⟨0,0,rfl,rfl,aD _,bu,br⟩
 case round=>
  obtain⟨j,m,rfl,rfl,bM,aP,A⟩:=hrel;by_cases hlt:j<N
  ·have bg:(j:Int)<N:=J
   have ap:j<xs.length:=by have:=a6.out;omega
   obtain⟨b,bF,e,bQ,bG,rfl,d,bP,aG,aF,a1,aZ,aY,ah,ai,ag⟩:=a5.out.at_ j ap;have aA:=yJ ap;have X:=bw.out _ (ax ap);generalize xs[j]=ba at*;obtain⟨k,nm,aJ,aN,aL⟩:=ba;simp only[St.k,St.nm,St.ex,St.body,St.els]at aG aF ah ai ag X;rw[Hq]at aA;have af:=aP.out;rw[aA]at af;have e0:=(A.out.cell b _ d).trans aG;have bn:=(A.out.cell b _ d).trans aF;have bm:=(A.out.cell b _ d).trans a1;have bl:=(A.out.cell b _ d).trans aZ;have bk:=(A.out.cell b _ d).trans aY;obtain⟨aS,c1,rfl,_⟩:=ah.form;obtain⟨aR,c2,rfl,_⟩:=ai.form;obtain⟨aQ,aM,rfl,_⟩:=ag.form;obtain⟨w,az⟩: ∃w,wr.alloc (.cells #[Za .i64 k,Zc (Z nm),Zb aS aJ.length c1,Zb aR aN.length c2,Zb aQ aL.length aM] 147)=w:=⟨_,rfl⟩
   have aX:=au.of_eq_alloc az;have ad:=G (show aO w wr.heap.size 147 #[Za .i64 k,Zc (Z nm),Zb aS aJ.length c1,Zb aR aN.length c2,Zb aQ aL.length aM] by rw[<-az];exact aq _ _ _);have am:=G (A.out.trans aX);have a3:=G (ah.keep (.of_ext am.out) (Q:=P) (λb d _=>d));have a4:=G (ai.keep (.of_ext am.out) (Q:=P) (λb d _=>d));have a2:=G (ag.keep (.of_ext am.out) (Q:=P) (λb d _=>d));obtain⟨o,ay⟩: ∃H,wd aJ=H:=⟨_,rfl⟩
   obtain⟨u,av⟩: ∃H,kT aN=H:=⟨_,rfl⟩
   obtain⟨z,ar⟩: ∃H,kT aL=H:=⟨_,rfl⟩
   rw[ay,av,ar]at af;have a9:=G (λW (I:au w W)=>ay▸X.1 P W aS _ c1 (a3.out.keep (.of_ext I) (Q:=P) (λb d _=>d)));have a8:=G (λW (I:au w W)=>av▸X.2.1 P W aR _ c2 (a4.out.keep (.of_ext I) (Q:=P) (λb d _=>d)));have a7:=G (λW (I:au w W)=>ar▸X.2.2 P W aQ _ aM (a2.out.keep (.of_ext I) (Q:=P) (λb d _=>d)));have bt:=G af;have bN:m+(80+o+u+z)<=8000000000:=J
   clear aG aF a1 aZ aY ah ai ag X aX a3 a4 a2 ay av ar aA af aP
   go_upto_region 5 with fail
   clear az e0 bn bm bl bk;have bo:=ad.out.cell;have bx:=G (show au w w.drew from eR (aI _));have bK:IntKind.i64.wrap (80+(o:Int))=80+o:=Qc
   have bJ:IntKind.i64.wrap (80+(o:Int)+u)=80+o+u:=Qc
   have bI:IntKind.i64.wrap (80+(o:Int)+u+z)=80+o+u+z:=Qc
   have bH:IntKind.i64.wrap ((m:Int)+(80+o+u+z))=m+(80+o+u+z):=Qc
   clear bo bx;refine aB 14 4 [(3,λv=>v=Za .i64 (o:Int),λ_ _=>True),(7,λv=>v=Za .i64 (u:Int),λ_ _=>True),(11,λv=>v=Za .i64 (z:Int),λ_ _=>True)] mixed Qb ⟨λ_ _ _ _ _=>trivial,λ_ _ _ _ _=>trivial,λ_ _ _ _ _=>trivial,trivial⟩ ?_;repeat (first|(refine bU Qf ?_;simp only[bE,bD,bC,bB,bA])|(refine sx ?_ (λan a=> ?_) ?_;rotate_left;(focus have aH:=(ad.out.ext a.un).cell;clear a;go_simp<;>with_reducible rfl);simp only[bE,bD,bC,bB,bA]))
   refine so (λF a y K V=> ?_) ?_
   ·have R:=a9.out F a.un;clear y a;go_simp;refine R.mono ?_;rintro e aT ⟨rfl,aa⟩;exact V _ _ aa rfl trivial
   rintro _ rfl;simp only[bE,bD,bC,bB,bA];repeat (first|(refine bU Qf ?_;simp only[bE,bD,bC,bB,bA])|(refine sx ?_ (λan a=> ?_) ?_;rotate_left;(focus have aH:=(ad.out.ext a.un).cell;clear a;go_simp<;>with_reducible rfl);simp only[bE,bD,bC,bB,bA]))
   refine so (λF a y K V=> ?_) ?_
   ·have R:=a8.out F a.un;clear y a;go_simp;refine R.mono ?_;rintro e aT ⟨rfl,aa⟩;exact V _ _ aa rfl trivial
   rintro _ rfl;simp only[bE,bD,bC,bB,bA];repeat (first|(refine bU Qf ?_;simp only[bE,bD,bC,bB,bA])|(refine sx ?_ (λan a=> ?_) ?_;rotate_left;(focus have aH:=(ad.out.ext a.un).cell;clear a;go_simp<;>with_reducible rfl);simp only[bE,bD,bC,bB,bA]))
   refine so (λF a y K V=> ?_) ?_
   ·have R:=a7.out F a.un;clear y a;go_simp;refine R.mono ?_;rintro e aT ⟨rfl,aa⟩;exact V _ _ aa rfl trivial
   rintro _ rfl;simp only[bE,bD,bC,bB,bA];repeat (first|(refine bU Qf ?_;simp only[bE,bD,bC,bB,bA])|(refine sx ?_ (λan a=> ?_) ?_;rotate_left;(focus have aH:=(ad.out.ext a.un).cell;clear a;go_simp<;>with_reducible rfl);simp only[bE,bD,bC,bB,bA]))
   intro bz aV y;clear y;simp only[ae,aw];have bq:=G (am.out.trans aV.un);clear aV a9 a8 a7;go_wp2_with fail;go_roundw
   case rel=>exact⟨j+1,m+(80+o+u+z),by go_num,congrArg (Value.int .i64) J,by omega,G (by have:=bt.out;omega),bq⟩
   case measure=>simp[intOf];omega
  ·have bg: ¬(j:Int)<N:=J
   have bv:=G (show m=al by
    have:=aP.out;rw[aK (by have:=a6.out;omega),kT]at this
    omega)
   go_wp2_with fail;go_ret;exact⟨by rw[<-bv.out];rfl,A.out⟩
theorem m': ∀(m:Nat) (xs:List St),eX xs<=m->eX xs<=100000000->I2 xs
 |0,xs,h,hw=>uo xs hw (λx a=>by have:=cM a;have:=x.wt_eq;omega)
 |m+1,xs,h,hw=>uo xs hw (λx a=>⟨rN _ x.ex (ah _) (by have:=cM a;have:=x.wt_eq;omega),m' m x.body (by have:=cM a;have:=x.wt_eq;omega) (by have:=cM a;have:=x.wt_eq;omega),m' m x.els (by have:=cM a;have:=x.wt_eq;omega) (by have:=cM a;have:=x.wt_eq;omega)⟩)
end
section
open Go.RowKit
def I4 (f:Fc):Nat:=16+e_ f+kT f.body
def rD:List Fc->Nat
 | []=>0
 |f::l=>I4 f+rD l
def IT (p:Pg):Nat:=if(iO p).2=0 then 48+rD p.fs else 0
theorem yK {l:List Fc} {j:Nat} (a:j<l.length):rD (l.drop j)=I4 l[j]+rD (l.drop (j+1)):=by
 rw[ap a,rD]
theorem up (p:Pg) (bd:mC p<=6000000) (aM: ∀f∈p.fs,eX f.body<=6000000/\f.ps.length<=6000000) (bg:rD p.fs<=100000000000) (u:World) (H B:Option Addr) (n c m X:Nat) (aP:nM u (λ_=>True) (Zb H n c) p.vs) (aS:nP u (λ_=>True) (Zb B m X) p.fs) (aQ:ew u u.heap.size) (aT:BT u):
  Calls prog 13 #[.agg #[Zb H n c,Zb B m X]] u λe w'=>e=.returned (Za .i64 (IT p:Int))/\au u w':=by
 have A:=aa u (.cells #[Zb H n c,Zb B m X] 31);have aF:=G (aq u 31 #[Zb H n c,Zb B m X]);have aA:=G A;have a1:=G (aP.keep (.of_ext A) (Q:=λ_=>True) (λ_ F _=>trivial));have aj:=G (aS.keep (.of_ext A) (Q:=λ_=>True) (λ_ F _=>trivial));have a2:=G (gR aQ A);have a6:=G (aT.ext A);have y:=G (show IT p=if(iO p).2=0 then 48+rD p.fs else 0 from rfl);have bo:=G aM;generalize IT p=ai at*;clear aP aS aQ aT A aM;go_enter func13,ntmps13
 go_upto_region 1 with fail
 generalize World.alloc u _=bi at*;have I:=G (pu p bd (λ_=>True) bi H B n c m X a1.out aj.out a2.out a6.out);have ag:=aF.out.cell;obtain⟨af,d⟩: ∃af,(iO p).2=af:=⟨_,rfl⟩
 rw[d]at y I;clear d;have aL:p.fs.length=m:=by obtain⟨bP,c',e,_⟩:=aj.out;injection e with _ e _;exact e.symm
 have bG:m<=6000000:=by have:=sS p;omega
 have a4:=G aL;clear aL;by_cases he:af=0
 ·subst he;rw[if_pos rfl]at y
  go_upto_region 5 with(go_at_call 11;refine I.out.mono ?_;rintro e z ⟨rfl,d⟩;have R:=G d;clear d I ag)
  have bq:=G (aF.out.ext R.out);have ag:=bq.out.cell;have bp:=G (aj.out.keep (.of_ext R.out) (Q:=λ_=>True) (λ_ F _=>trivial));have a3:=G (show 48+rD (p.fs.drop 0)=ai by rw[y.out];simp);have aZ:=G (aI z);have bM:ai<=100000000048:=by rw[y.out];omega
  have bj:=G (aA.out.trans R.out);clear y bg aj a1 a2 a6 aF aA R
  go_upto_region 6 with fail
  clear ag
  go_loopw [5,18] (λa9 am wr=> ∃(j t:Nat),am=Za .i64 (j:Int)/\a9=Za .i64 (t:Int)/\j<=m/\Hid (t+rD (p.fs.drop j)=ai)/\Hid (au z wr)) (λ_ am _=>m-(intOf am).toNat)
  case atStart=>exact⟨0,48,rfl,rfl,aD _,a3,aZ⟩
  case round=>
   obtain⟨j,t,rfl,rfl,bH,aC,az⟩:=hrel;clear a3 aZ;by_cases hlt:j<m
   ·have be:(j:Int)<(m:Int):=J
    have ao:j<p.fs.length:=by rw[a4.out];exact hlt
    obtain⟨b,bv,bu,bO,rfl,bK,bN,bc,bb,ba,aG,an⟩:=og (bp.out.keep (.of_ext az.out) (Q:=λ_=>True) λ_ _ _=>trivial) j ao;obtain⟨br,bh,rfl,_⟩:=id aG;obtain⟨a7,aX,rfl,_⟩:=an.form;have aR:=yK ao;obtain⟨aV,aU⟩:=bo.out _ (ax ao);generalize p.fs[j]=f at*;have aY:=G an;have ad:=aC.out;rw[aR]at ad;clear aG an aR aC
    go_upto_region 8 with fail
    generalize aO:World.alloc wr _=W7;obtain⟨av,Z,_⟩:=lC aO;have ay:=G (aY.out.keep (.of_ext av) (Q:=λ_=>True) λ_ _ _=>trivial);have aE:=G (λW (F:au W7 W)=>qq f.nm f.ps f.body aV aU (λ_=>True) W br a7 bh aX (ay.out.keep (.of_ext F) (Q:=λ_=>True) λ_ _ _=>trivial));have a5:=G (λW (F:au W7 W)=>m' _ f.body (ah _) J (λ_=>True) W a7 _ aX (ay.out.keep (.of_ext F) (Q:=λ_=>True) λ_ _ _=>trivial));have bk:=G (az.out.trans av);have aN:e_ ⟨f.nm,f.ps,f.body⟩=e_ f:=rfl;have aH:I4 f=16+e_ f+kT f.body:=rfl;have bI:32<=e_ f:=by show 32<=4*(8+f.ps.length+cK f.body);omega
    rw[aN]at aE;rw[aH]at ad;generalize e_ f=o at*;generalize kT f.body=w at*;have bm:=G ad;have bL:t+(16+o+w)<=100000000048:=J
    clear aO av bc bb ba aY ay ad aN aH aV aU;have bF:IntKind.i64.wrap (48+(o:Int))=48+o:=Qc
    have bz:IntKind.i64.wrap (48+(o:Int)-32)=48+o-32:=Qc
    have bx:IntKind.i64.wrap (48+(o:Int)-32+w)=48+o-32+w:=Qc
    have bw:IntKind.i64.wrap ((t:Int)+(48+(o:Int)-32+w))=t+(48+o-32+w):=Qc
    refine aB 10 4 [(2,λv=>v=Za .i64 (o:Int),λ_ _=>True),(7,λv=>v=Za .i64 (w:Int),λ_ _=>True)] mixed Qb ⟨λ_ _ _ _ _=>trivial,λ_ _ _ _ _=>trivial,trivial⟩ ?_;repeat (first|(refine bU Qf ?_;simp only[bE,bD,bC,bB,bA])|(refine sx ?_ (λz a=> ?_) ?_;rotate_left;(focus have aW:=(Z.out.ext a.un).cell;clear a;go_simp<;>with_reducible rfl);simp only[bE,bD,bC,bB,bA]))
    refine so (λal a V K ar=> ?_) ?_
    ·have ap:=aE.out al a.un;clear V a;go_simp;refine ap.mono ?_;rintro e a8 ⟨rfl,d⟩;exact ar _ _ d rfl trivial
    rintro _ rfl;simp only[bE,bD,bC,bB,bA];repeat (first|(refine bU Qf ?_;simp only[bE,bD,bC,bB,bA])|(refine sx ?_ (λz a=> ?_) ?_;rotate_left;(focus have aW:=(Z.out.ext a.un).cell;clear a;go_simp<;>with_reducible rfl);simp only[bE,bD,bC,bB,bA]))
    refine so (λal a V K ar=> ?_) ?_
    ·have ap:=a5.out al a.un;clear V a;go_simp;refine ap.mono ?_;rintro e a8 ⟨rfl,d⟩;exact ar _ _ d rfl trivial
    rintro _ rfl;simp only[bE,bD,bC,bB,bA];repeat (first|(refine bU Qf ?_;simp only[bE,bD,bC,bB,bA])|(refine sx ?_ (λz a=> ?_) ?_;rotate_left;(focus have aW:=(Z.out.ext a.un).cell;clear a;go_simp<;>with_reducible rfl);simp only[bE,bD,bC,bB,bA]))
    intro bt aJ V;clear V;simp only[ae,aw];have bl:=G (bk.out.trans aJ.un);clear aJ aE a5;go_wp2_with fail;go_roundw
    case rel=>exact⟨j+1,t+(16+o+w),by go_num,congrArg (Value.int .i64) J,by omega,G (by have:=bm.out;omega),bl⟩
    case measure=>simp[intOf];omega
   ·have bf:m=j:=J
    subst bf;have be: ¬(m:Int)<(m:Int):=J
    have bn:=G (show t=ai by
     have:=aC.out;rw[aK (by have:=a4.out;omega),rD]at this
     omega)
    go_wp2_with fail;go_ret;exact⟨by rw[<-bn.out];rfl,bj.out.trans az.out⟩
 ·rw[if_neg he]at y;have bJ:(af==0)=false:=Qn.2 he;clear he;go_wp2_with (go_at_call 11;refine I.out.mono ?_;rintro e z ⟨rfl,d⟩;have R:=G (aA.out.trans d);clear d I ag);go_ret;exact⟨by rw[y.out];rfl,R.out⟩
end
end Go.Proofs.YtoedmpgicdekmaaGreatDoor
