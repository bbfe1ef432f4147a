/- Parts of the proof. -/
import Derived.Test.YtoedmpgicdekmaaGreatDoorCo43
import Derived.Test.YtoedmpgicdekmaaGreatDoorCo44
set_option maxRecDepth 100000
set_option maxHeartbeats 8000000
set_option linter.all false
namespace Go.Proofs.YtoedmpgicdekmaaGreatDoor
open Value renaming int->Za,slice->Zb,string->Zc,agg->Zd,tuple->Zg
open IntKind(i64)
open Go.Proofs.Tryz
section
open Go.RowKit
def Is:List UInt8:=[20,14,0,7,1,0,0,255,9,2,1,0,1,1,0,0,1,3,0,0,1,4,0,0,22,0,0,0,18,0,255,255,3,15,15,224,1,0,11,255,12,0,0,15,7,0,0,0,15,14,15,0,1,0,0,0,1,7,1,44,3,1,7,0,14,14,15,0,3,15,15,32,21,14,0,0,1,1,0,0,14,14,15,0,3,15,15,32,21,14,0,0]
theorem Ir:IT jI=256:=Qb
theorem JJ:dD jI=(⟨Is,[],0,0⟩,0):=Qb
theorem JI:rQ ⟨Is,[],0,0⟩ [] 400=(⟨1,0,44,0,0,[],0⟩,0):=Qb
theorem Gj:JQ jI:=Iv jI Ql Gk
theorem Ai (w:World) (ap:EZ w) (R:ew w w.heap.size) (X:BT w) (V:FT w):Calls prog 8 #[] w λe w'=>e=.returned (.bool true)/\au w w':=by
 have aX:=G R;have aZ:=G X;have aY:=G V;have aA:=G (show Calls prog 22 #[Zc ⟨#[102,117,110,99,32,109,97,105,110,40,41,32,123,32,114,101,116,117,114,110,32,51,48,48,59,32,125]⟩] w λe w'=>au w w'/\ ∃o n c B m d,e=.returned (Zg #[Zd #[Zb o n c,Zb B m d],Za i64 0,Za i64 0])/\nM w' (λ_=>True) (Zb o n c) jI.vs/\nP w' (λ_=>True) (Zb B m d) jI.fs from Gx w ap R)
 have aC:=G (fun(W:World) (o B:Option Addr) (n c m d:Nat) (a:au w W) (A:nM W (λ_=>True) (Zb o n c) jI.vs) (F:nP W (λ_=>True) (Zb B m d) jI.fs)=>show Calls prog 12 #[Zd #[Zb o n c,Zb B m d]] W λe w'=>(∃o c B d,e=.returned (Zg #[Zd #[Zb o 92 c,Zb B 0 d,Za i64 0,Za i64 0],Za i64 0])/\Sl w' o c Is/\Sl w' B d [])/\au W w' from by
  have:=pU jI FD (λ_=>Gj) W o B n c m d A F (gR R a) (X.ext a) (V.ext a)
  rw[JJ]at this;exact this)
 have ax:=G (fun(W:World) (o B:Option Addr) (c d:Nat) (a:au w W) (H:Sl W o c Is) (I:Sl W B d [])=>show Calls prog 18 #[Zd #[Zb o 92 c,Zb B 0 d,Za i64 0,Za i64 0],Zb none 0 0,Za i64 400] W λe w'=>au W w'/\ ∃z c2,e=.returned (Zg #[Zd #[Za i64 1,Za i64 0,Za i64 44,Za i64 0,Za i64 0,Zb z 0 c2,Za i64 0],Za i64 0])from by
  have:=yQ ⟨Is,[],0,0⟩ o B c d [] (Zb none 0 0) 400 Qd W (V.ext a) H I Qd Qd ⟨none,0,rfl,.inl rfl⟩ Qd;rw[JI]at this;refine this.mono λe w' aH=> ?_;obtain⟨aG,z,c2,aF,_⟩:=aH
  exact⟨aG,z,c2,aF⟩)
 have av:=G (fun(W:World) (o B:Option Addr) (n c m d:Nat) (a:au w W) (A:nM W (λ_=>True) (Zb o n c) jI.vs) (F:nP W (λ_=>True) (Zb B m d) jI.fs)=>show Calls prog 13 #[Zd #[Zb o n c,Zb B m d]] W λe w'=>e=.returned (Za i64 256)/\au W w' from by
  have:=up jI FD (λf aI=>by
   have:f=⟨dH,[],[.mk 6 [] [.mk 1 [] [] [] 300 []] [] []]⟩:=by simpa[jI,oe]using aI
   subst this
   exact⟨by decide+kernel,by decide⟩) Ql W o B n c m d A F (gR R a) (X.ext a)
  rw[Ir]at this;exact this)
 have aO:=G (λW=>Kk 44 0 0 44 0 0 W);generalize jI.vs=aT at*;generalize jI.fs=aU at*;clear ap R X V;go_enter func8,ntmps8
 go_upto_region 2 with(go_at_call 22;refine aA.out.mono ?_;rintro e af ⟨a,o,n,c,B,m,d,rfl,A,F⟩;have u:=aa af (.cells #[Zb o n c,Zb B m d] 31);have aj:=G (a.trans u);have am:=G (aq af 31 #[Zb o n c,Zb B m d]);have Z:=G (A.keep (.of_ext u) (Q:=λ_=>True) (λ_ y _=>y));have al:=G (F.keep (.of_ext u) (Q:=λ_=>True) (λ_ y _=>y));clear a A F u aA)
 generalize af.alloc (.cells #[Zb o n c,Zb B m d] 31)=aW at*;have c1:=am.out.cell
 go_upto_region 3 with(go_at_call 12;refine(aC.out _ _ _ _ _ _ _ aj.out Z.out al.out).mono ?_;rintro e ae ⟨⟨z,c2,an,ag,rfl,H,I⟩,a⟩;have u:=aa ae (.cells #[Zb z 92 c2,Zb an 0 ag,Za i64 0,Za i64 0] 38);have ai:=G (aj.out.trans (a.trans u));have aD:=G (aq ae 38 #[Zb z 92 c2,Zb an 0 ag,Za i64 0,Za i64 0]);have az:=G (H.ext u);have ay:=G (I.ext u);have aE:=G (am.out.ext (a.trans u));have aw:=G (Z.out.keep (.of_ext (a.trans u)) (Q:=λ_=>True) (λ_ y _=>y));have aB:=G (al.out.keep (.of_ext (a.trans u)) (Q:=λ_=>True) (λ_ y _=>y));clear a H I u aC am Z al aj c1)
 generalize ae.alloc (.cells #[Zb z 92 c2,Zb an 0 ag,Za i64 0,Za i64 0] 38)=aV at*;have aK:=aD.out.cell
 go_upto_region 4 with(go_at_call 18;refine(ax.out _ _ _ _ _ ai.out az.out ay.out).mono ?_;rintro e ad ⟨a,ao,ah,rfl⟩;have u:=aa ad (.cells #[Za i64 1,Za i64 0,Za i64 44,Za i64 0,Za i64 0,Zb ao 0 ah,Za i64 0] 49);have ar:=G (ai.out.trans (a.trans u));have aQ:=G (aq ad 49 #[Za i64 1,Za i64 0,Za i64 44,Za i64 0,Za i64 0,Zb ao 0 ah,Za i64 0]);have aR:=G (aE.out.ext (a.trans u));have aN:=G (aw.out.keep (.of_ext (a.trans u)) (Q:=λ_=>True) (λ_ y _=>y));have aP:=G (aB.out.keep (.of_ext (a.trans u)) (Q:=λ_=>True) (λ_ y _=>y));clear a u ax aE aw aB ai aK aD az ay)
 generalize ad.alloc (.cells #[Za i64 1,Za i64 0,Za i64 44,Za i64 0,Za i64 0,Zb ao 0 ah,Za i64 0] 49)=aL at*;have c1:=aR.out.cell;have aJ:=aQ.out.cell;have q:=aO.out aL;go_wp2_with (go_at_call 13;refine(av.out _ _ _ _ _ _ _ ar.out aN.out aP.out).mono ?_;rintro e aS ⟨rfl,a⟩;have aM:=G (ar.out.trans a);clear av a c1 aJ);go_ret;exact⟨uN Qe,aM.out⟩
theorem DY (s:List UInt8) (o:World) (ar:EZ o) (av:ew o o.heap.size) (ay:BT o) (ax:FT o):Calls prog 6 #[Zc (Z s)] o λe w'=>e=.returned (.bool true)/\au o w':=by
 have bb:=G (Ai o ar av ay ax);have aS:=Bh s o ar av ay ax;have bz:(Z s).size=s.length:=aZ s;have aD:=G (λW (az:au o W)=>CO s o W az aS);obtain⟨aN,aP,aQ,aO⟩:=aS;have aG:=G aN;have aI:=G aP;have ai:=G aQ;have ah:=G aO;have R:=G (show nq s=if(dB s).2.2=0 then(if(iO (dB s).1).2=0 then(if(dD (dB s).1).2=0 then r_ (dD (dB s).1).1 else([],(dD (dB s).1).2))else([],(iO (dB s).1).2))else([],(dB s).2.2)from rfl);have ag:=G (fun(az:(dD (dB s).1).2=0)=>(rg az).1);clear aN aP aQ aO ar av ay ax;generalize nq s=bl at*;generalize dB s=r at*;obtain⟨p,bF,en⟩:=r;try simp only at aG aI ai R ah ag
 generalize iO p=aW at*;generalize dD p=bj at*;obtain⟨⟨aY,aU,V,X⟩,aX⟩:=bj;try simp only at ai R ah ag
 generalize r_ ⟨aY,aU,V,X⟩=mk at*;generalize be:aY.length=ap at*;generalize bf:aU.length=ao at*;clear be bf;obtain⟨l,bi⟩:=bl;obtain⟨an,d⟩: ∃n,l.length=n:=⟨_,rfl⟩
 rw[d]at aD;have w:=G d;clear d;go_enter func6,ntmps6
 go_upto_region 3 with(go_at_call 8;refine bb.out.mono ?_;rintro e bv ⟨rfl,a⟩;have af:=G a;clear a bb)
 by_cases hl:4100<s.length
 ·have bg:(4100:Int)<(s.length:Int):=J
  go_wp2_with fail;go_ret;exact⟨rfl,af.out⟩
 have bg: ¬(4100:Int)<(s.length:Int):=J
 go_upto_region 6 with(go_at_call 23;refine(aD.out _ af.out).mono ?_;rintro e bu ⟨a,bI,bE,rfl,y⟩;have aB:=G (af.out.trans a);have a5:=G y;clear a y aD af)
 go_upto_region 7 with(go_at_call 22;refine(aG.out _ aB.out).mono ?_;rintro e bd ⟨a,bc,n,c,B,m,aV,rfl,aR,aT⟩;obtain⟨aA,aK,aC,aJ⟩:=J9 bc B n c m aV a aR aT 31;have ae:=G (aB.out.trans aA.out);have a4:=G (a5.out.ext aA.out);clear a aR aT aG aB a5 aA)
 generalize bd.alloc (.cells #[Zb bc n c,Zb B m aV] 31)=bG at*;by_cases h1:en=0
 ·subst h1;have aF:=G (R.out.trans (if_pos rfl));have c1:=aK.out.cell
  go_upto_region 10 with(go_at_call 11;refine(aI.out _ _ _ _ _ _ _ ae.out aC.out aJ.out).mono ?_;rintro e bt ⟨rfl,a⟩;have ad:=G (ae.out.trans a);have aw:=tp aC.out aJ.out a;have a1:=G aw.1;have a8:=G aw.2;have ba:=G (aK.out.ext a);have a3:=G (a4.out.ext a);clear a aw ae aC aJ aK a4 c1 aI)
  by_cases h2:aW.2=0
  ·have aE:=G (aF.out.trans (if_pos h2));have c1:=ba.out.cell;rw[h2]
   go_upto_region 13 with(go_at_call 12;refine(ai.out _ _ _ _ _ _ _ ad.out a1.out a8.out).mono ?_;rintro e am ⟨⟨al,c2,aj,I,rfl,aM,aL⟩,a⟩;have F:=aa am (.cells #[Zb al ap c2,Zb aj ao I,Za i64 V,Za i64 X] 38);have H:=G (ad.out.trans (a.trans F));have a2:=G (a3.out.ext (a.trans F));have a9:=G (aq am 38 #[Zb al ap c2,Zb aj ao I,Za i64 V,Za i64 X]);have bp:=G (aM.ext F);have bo:=G (aL.ext F);clear a F aM aL ad a1 a8 ba a3 ai c1)
   generalize am.alloc (.cells #[Zb al ap c2,Zb aj ao I,Za i64 V,Za i64 X] 38)=bk at*;by_cases h3:aX=0
   ·subst h3;have a6:=G (aE.out.trans (if_pos rfl));have aH:=G (ah.out rfl bk al aj c2 I H.out bp.out bo.out);have a7:=G (ag.out rfl);have c1:=a9.out.cell;clear R aF aE ah ag;have u:=a6.out;subst u;have bh:bi=0:=a7.out;subst bh;have d:=w.out;simp only[d]at aH;clear a6 a7
    go_upto_region 16 with(go_at_call 24;refine aH.out.mono ?_;rintro e br ⟨a,bH,bD,rfl,y⟩;have bm:=G (H.out.trans a);have bn:=G (a2.out.ext a);have bq:=G y;clear a y aH H a2 a9 c1)
    have bx:=yu w.out bn.out;have bw:=yu w.out bq.out;go_wp2_with fail;go_ret;exact⟨uN Qe,bm.out⟩
   ·have bA:(aX !=0)=true:=bne_iff_ne.2 h3;have u:=aE.out.trans (if_neg h3);injection u with A z;have d:=w.out;rw[A]at d;obtain rfl:an=0:=d.symm;subst z;go_wp2_with fail;go_ret;exact⟨uN Qe,H.out⟩
  ·have bB:(aW.2 !=0)=true:=bne_iff_ne.2 h2;have u:=aF.out.trans (if_neg h2);injection u with A z;have d:=w.out;rw[A]at d;obtain rfl:an=0:=d.symm;subst z;go_wp2_with fail;go_ret;exact⟨uN Qe,ad.out⟩
 ·have bC:(en !=0)=true:=bne_iff_ne.2 h1;have u:=R.out.trans (if_neg h1);injection u with A z;have d:=w.out;rw[A]at d;obtain rfl:an=0:=d.symm;subst z;go_wp2_with fail;go_ret;exact⟨uN Qe,ae.out⟩
theorem DX (d:ByteArray) (a:World) (h:EZ a) (o:ew a a.heap.size) (w:BT a) (u:FT a):Calls prog 6 #[Zc d] a λe w'=>e=.returned (.bool true)/\au a w':=by
 have:=DY d.data.toList a h o w u;rwa [show Z d.data.toList=d from by unfold Z;rw[Array.toArray_toList]]at this
end
end Go.Proofs.YtoedmpgicdekmaaGreatDoor
