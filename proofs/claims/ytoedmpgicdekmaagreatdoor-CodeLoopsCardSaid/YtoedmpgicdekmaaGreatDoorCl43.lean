/- Parts of the proof. -/
import Derived.Test.YtoedmpgicdekmaaGreatDoorCl00
import Derived.Test.YtoedmpgicdekmaaGreatDoorCl36
import Derived.Test.YtoedmpgicdekmaaGreatDoorCl42
import Derived.Test.YtoedmpgicdekmaaGreatDoorCl22
import Derived.Test.YtoedmpgicdekmaaGreatDoorCl32
import Derived.Test.YtoedmpgicdekmaaGreatDoorCl05
import Derived.Test.YtoedmpgicdekmaaGreatDoorCl20
set_option maxRecDepth 100000
set_option maxHeartbeats 8000000
set_option linter.unusedVariables false
set_option linter.unusedSimpArgs false
set_option linter.unusedSectionVars false
namespace Go.Proofs.YtoedmpgicdekmaaGreatDoor
open Go.Proofs.Tryz
section
open Go.RowKit
def Id:List UInt8:=[20,14,0,7,1,0,0,255,9,2,1,0,1,1,0,0,1,3,0,0,1,4,0,0,22,0,0,0,18,0,255,255,3,15,15,224,1,0,11,255,12,0,0,15,7,0,0,0,15,14,15,0,1,0,0,0,1,7,1,44,3,1,7,0,14,14,15,0,3,15,15,32,21,14,0,0,1,1,0,0,14,14,15,0,3,15,15,32,21,14,0,0]
theorem Ic:IG gS=256:=Qb
theorem Jr:mB gS=(⟨Id,[],0,0⟩,0):=Qb
theorem Jp:df ⟨Id,[],0,0⟩ [] 400=(⟨1,0,44,0,0,[],0⟩,0):=Qb
def JY:List dl:=[⟨20,14,0,0,0⟩,⟨1,0,0,0,255⟩,⟨9,2,1,0,0⟩,⟨1,1,0,0,0⟩,⟨1,3,0,0,0⟩,⟨1,4,0,0,0⟩,⟨22,0,0,0,0⟩,⟨18,0,0,0,-1⟩,⟨3,15,15,-32,0⟩,⟨1,0,0,0,3071⟩,⟨12,0,0,15,0⟩,⟨7,0,0,0,0⟩,⟨15,14,15,0,0⟩,⟨1,0,0,0,0⟩,⟨1,7,0,0,300⟩,⟨3,1,7,0,0⟩,⟨14,14,15,0,0⟩,⟨3,15,15,32,0⟩,⟨21,14,0,0,0⟩,⟨1,1,0,0,0⟩,⟨14,14,15,0,0⟩,⟨3,15,15,32,0⟩,⟨21,14,0,0,0⟩]
theorem Jq:(gt gS).1.code=JY/\(gt gS).1.calls=[(0,dv)]/\(gt gS).1.dats=[]/\(gt gS).2.1=[(dv,8)]/\(gt gS).2.2=0:=⟨by kernel_rfl,by kernel_rfl,by kernel_rfl,by kernel_rfl,by kernel_rfl⟩
theorem FC:Ih gS:=by
 obtain⟨d,A,z,y,w⟩:=Jq;refine⟨λf u=> ?_,λv h=>(by cases h),by decide,λnm=> ?_,λj=> ?_,by rw[w];decide,by rw[d];unfold VB;decide,by rw[d];decide,λq a=> ?_,λq a=> ?_⟩
 ·have:f=⟨dv,[],[.mk 6 [] [.mk 1 [] [] [] 300 []] [] []]⟩:=by simpa[gS,pC]using u
  subst this;exact⟨by decide,λp o=>(by cases o),by decide+kernel,by decide+kernel,by decide+kernel⟩
 ·simp[gS,pC,qY,aR,gA]
 ·rcases j with _|j
  ·show ii.big<=_;decide+kernel
  ·have:gS.fs.take (j+1)=gS.fs:=by simp[gS,pC]
   rw[this];decide+kernel
 ·rw[A]at a;rw[d,y];obtain rfl:q=(0,dv):=by simpa using a
  decide
 ·rw[z]at a;cases a
theorem zu (w:World) (aj:EZ w) (H:ea w w.heap.size) (J:BT w) (I:FT w):Calls prog 8 #[] w λe w'=>e= .returned (.bool true)/\au w w':=by
 have aR:=G H;have aT:=G J;have aS:=G I;have ar:=G (show Calls prog 22 #[.string ⟨#[102,117,110,99,32,109,97,105,110,40,41,32,123,32,114,101,116,117,114,110,32,51,48,48,59,32,125]⟩] w λe w'=>au w w'/\ ∃o n c B m d,e= .returned (.tuple #[.agg #[.slice o n c, .slice B m d], .int .i64 0, .int .i64 0])/\pt w' (λ_=>True) (.slice o n c) gS.vs/\pE w' (λ_=>True) (.slice B m d) gS.fs from FO w aj H)
 have aw:=G (fun(W:World) (o B:Option Addr) (n c m d:Nat) (a:au w W) (A:pt W (λ_=>True) (.slice o n c) gS.vs) (F:pE W (λ_=>True) (.slice B m d) gS.fs)=>show Calls prog 12 #[.agg #[.slice o n c, .slice B m d]] W λe w'=>(∃o c B d,e= .returned (.tuple #[.agg #[.slice o 92 c, .slice B 0 d, .int .i64 0, .int .i64 0], .int .i64 0])/\Sl w' o c Id/\Sl w' B d [])/\au W w' from by
  have:=pm gS E6 (λ_=>FC) W o B n c m d A F (gZ H a) (J.ext a) (I.ext a)
  rw[Jr]at this;exact this)
 have an:=G (fun(W:World) (o B:Option Addr) (c d:Nat) (a:au w W) (M:Sl W o c Id) (K:Sl W B d [])=>show Calls prog 18 #[.agg #[.slice o 92 c, .slice B 0 d, .int .i64 0, .int .i64 0], .slice none 0 0, .int .i64 400] W λe w'=>au W w'/\ ∃z c2,e= .returned (.tuple #[.agg #[.int .i64 1, .int .i64 0, .int .i64 44, .int .i64 0, .int .i64 0, .slice z 0 c2, .int .i64 0], .int .i64 0])from by
  have:=rq ⟨Id,[],0,0⟩ o B c d [] (.slice none 0 0) 400 Qd W (I.ext a) M K Qd Qd ⟨none,0,rfl, .inl rfl⟩ Qd;rw[Jp]at this;refine this.mono λe w' aB=> ?_;obtain⟨aA,z,c2,az,_⟩:=aB
  exact⟨aA,z,c2,az⟩)
 have al:=G (fun(W:World) (o B:Option Addr) (n c m d:Nat) (a:au w W) (A:pt W (λ_=>True) (.slice o n c) gS.vs) (F:pE W (λ_=>True) (.slice B m d) gS.fs)=>show Calls prog 13 #[.agg #[.slice o n c, .slice B m d]] W λe w'=>e= .returned (.int .i64 256)/\au W w' from by
  have:=tO gS E6 (λf aC=>by
   have:f=⟨dv,[],[.mk 6 [] [.mk 1 [] [] [] 300 []] [] []]⟩:=by simpa[gS,pC]using aC
   subst this
   exact⟨by decide+kernel,by decide⟩) Qk W o B n c m d A F (gZ H a) (J.ext a)
  rw[Ic]at this;exact this)
 have aI:=G (λW=>JP 44 0 0 44 0 0 W);generalize gS.vs=aN at*;generalize gS.fs=aO at*;clear aj H J I;go_enter func8,ntmps8
 go_upto_region 2 with(go_at_call 22;refine ar.out.mono ?_;rintro e X ⟨a,o,n,c,B,m,d,rfl,A,F⟩;have u:=aa X (.cells #[.slice o n c, .slice B m d] 31);have ad:=G (a.trans u);have ag:=G (aq X 31 #[.slice o n c, .slice B m d]);have ae:=G (A.keep (.of_ext u) (Q:=λ_=>True) (λ_ y _=>y));have af:=G (F.keep (.of_ext u) (Q:=λ_=>True) (λ_ y _=>y));clear a A F u ar)
 generalize X.alloc (.cells #[.slice o n c, .slice B m d] 31)=aQ at*;have c1:=ag.out.cell
 go_upto_region 3 with(go_at_call 12;refine(aw.out _ _ _ _ _ _ _ ad.out ae.out af.out).mono ?_;rintro e V ⟨⟨z,c2,ah,Z,rfl,M,K⟩,a⟩;have u:=aa V (.cells #[.slice z 92 c2, .slice ah 0 Z, .int .i64 0, .int .i64 0] 38);have ac:=G (ad.out.trans (a.trans u));have ax:=G (aq V 38 #[.slice z 92 c2, .slice ah 0 Z, .int .i64 0, .int .i64 0]);have ap:=G (M.ext u);have ao:=G (K.ext u);have ay:=G (ag.out.ext (a.trans u));have am:=G (ae.out.keep (.of_ext (a.trans u)) (Q:=λ_=>True) (λ_ y _=>y));have av:=G (af.out.keep (.of_ext (a.trans u)) (Q:=λ_=>True) (λ_ y _=>y));clear a M K u aw ag ae af ad c1)
 generalize V.alloc (.cells #[.slice z 92 c2, .slice ah 0 Z, .int .i64 0, .int .i64 0] 38)=aP at*;have aE:=ax.out.cell
 go_upto_region 4 with(go_at_call 18;refine(an.out _ _ _ _ _ ac.out ap.out ao.out).mono ?_;rintro e R ⟨a,ai,ab,rfl⟩;have u:=aa R (.cells #[.int .i64 1, .int .i64 0, .int .i64 44, .int .i64 0, .int .i64 0, .slice ai 0 ab, .int .i64 0] 49);have ak:=G (ac.out.trans (a.trans u));have aK:=G (aq R 49 #[.int .i64 1, .int .i64 0, .int .i64 44, .int .i64 0, .int .i64 0, .slice ai 0 ab, .int .i64 0]);have aL:=G (ay.out.ext (a.trans u));have aH:=G (am.out.keep (.of_ext (a.trans u)) (Q:=λ_=>True) (λ_ y _=>y));have aJ:=G (av.out.keep (.of_ext (a.trans u)) (Q:=λ_=>True) (λ_ y _=>y));clear a u an ay am av ac aE ax ap ao)
 generalize R.alloc (.cells #[.int .i64 1, .int .i64 0, .int .i64 44, .int .i64 0, .int .i64 0, .slice ai 0 ab, .int .i64 0] 49)=aF at*;have c1:=aL.out.cell;have aD:=aK.out.cell;have q:=aI.out aF;go_wp2_with (go_at_call 13;refine(al.out _ _ _ _ _ _ _ ak.out aH.out aJ.out).mono ?_;rintro e aM ⟨rfl,a⟩;have aG:=G (ak.out.trans a);clear al a c1 aD);go_ret;exact⟨Hv Qe,aG.out⟩
def zi:List UInt8:=[118,97,114,32,115,59,32,102,117,110,99,32,109,97,105,110,40,41,32,123,32,118,97,114,32,105,32,61,32,116,105,109,101,40,41,59,32,119,104,105,108,101,32,105,32,123,32,115,32,61,32,115,32,43,32,105,59,32,105,32,61,32,105,32,45,32,49,59,32,125,32,114,101,116,117,114,110,32,115,59,32,125]
def zh:List UInt8:=[102,117,110,99,32,115,117,109,40,110,41,32,123,32,105,102,32,110,32,123,32,114,101,116,117,114,110,32,110,32,43,32,115,117,109,40,110,32,45,32,49,41,59,32,125,32,114,101,116,117,114,110,32,48,59,32,125,32,102,117,110,99,32,109,97,105,110,40,41,32,123,32,114,101,116,117,114,110,32,115,117,109,40,116,105,109,101,40,41,41,59,32,125]
def ji:List UInt8:=[20,14,0,7,1,0,0,255,9,2,1,0,1,1,0,0,1,3,0,0,1,4,0,0,22,0,0,0,18,0,255,255,3,15,15,220,1,0,11,255,12,0,0,15,7,0,0,0,15,14,15,0,1,0,0,0,15,0,15,32,1,2,0,0,1,3,0,0,1,4,0,0,1,1,0,18,22,0,0,0,3,7,1,0,15,7,15,32,14,7,15,32,19,7,0,11,1,0,1,0,14,7,0,0,14,8,15,32,4,7,7,8,1,0,1,0,15,7,0,0,14,7,15,32,1,8,0,1,5,7,7,8,15,7,15,32,18,0,255,243,1,0,1,0,14,7,0,0,3,1,7,0,14,14,15,0,3,15,15,36,21,14,0,0,1,1,0,0,14,14,15,0,3,15,15,36,21,14,0,0]
def jh:List UInt8:=[20,14,0,39,1,0,0,255,9,2,1,0,1,1,0,0,1,3,0,0,1,4,0,0,22,0,0,0,18,0,255,255,3,15,15,220,1,0,11,255,12,0,0,15,7,0,0,0,15,14,15,0,15,1,15,32,1,0,0,0,14,7,15,32,19,7,0,14,14,7,15,32,14,8,15,32,1,9,0,1,5,8,8,9,15,7,15,4,3,1,8,0,20,14,255,240,14,7,15,4,3,8,1,0,4,7,7,8,3,1,7,0,14,14,15,0,3,15,15,36,21,14,0,0,1,7,0,0,3,1,7,0,14,14,15,0,3,15,15,36,21,14,0,0,1,1,0,0,14,14,15,0,3,15,15,36,21,14,0,0,3,15,15,224,1,0,11,255,12,0,0,15,7,0,0,0,15,14,15,0,1,0,0,0,1,2,0,0,1,3,0,0,1,4,0,0,1,1,0,18,22,0,0,0,3,7,1,0,3,1,7,0,20,14,255,210,3,7,1,0,3,1,7,0,14,14,15,0,3,15,15,32,21,14,0,0,1,1,0,0,14,14,15,0,3,15,15,32,21,14,0,0]
def GQ:List co:=[⟨2,[118,97,114],0,0⟩,⟨1,[115],0,4⟩,⟨5,[59],0,5⟩,⟨2,[102,117,110,99],0,7⟩,⟨1,[109,97,105,110],0,12⟩,⟨5,[40],0,16⟩,⟨5,[41],0,17⟩,⟨5,[123],0,19⟩,⟨2,[118,97,114],0,21⟩,⟨1,[105],0,25⟩,⟨5,[61],0,27⟩,⟨1,[116,105,109,101],0,29⟩,⟨5,[40],0,33⟩,⟨5,[41],0,34⟩,⟨5,[59],0,35⟩,⟨2,[119,104,105,108,101],0,37⟩,⟨1,[105],0,43⟩,⟨5,[123],0,45⟩,⟨1,[115],0,47⟩,⟨5,[61],0,49⟩,⟨1,[115],0,51⟩,⟨5,[43],0,53⟩,⟨1,[105],0,55⟩,⟨5,[59],0,56⟩,⟨1,[105],0,58⟩,⟨5,[61],0,60⟩,⟨1,[105],0,62⟩,⟨5,[45],0,64⟩,⟨3,[],1,66⟩,⟨5,[59],0,67⟩,⟨5,[125],0,69⟩,⟨2,[114,101,116,117,114,110],0,71⟩,⟨1,[115],0,78⟩,⟨5,[59],0,79⟩,⟨5,[125],0,81⟩]
def GA:List co:=[⟨2,[102,117,110,99],0,0⟩,⟨1,[115,117,109],0,5⟩,⟨5,[40],0,8⟩,⟨1,[110],0,9⟩,⟨5,[41],0,10⟩,⟨5,[123],0,12⟩,⟨2,[105,102],0,14⟩,⟨1,[110],0,17⟩,⟨5,[123],0,19⟩,⟨2,[114,101,116,117,114,110],0,21⟩,⟨1,[110],0,28⟩,⟨5,[43],0,30⟩,⟨1,[115,117,109],0,32⟩,⟨5,[40],0,35⟩,⟨1,[110],0,36⟩,⟨5,[45],0,38⟩,⟨3,[],1,40⟩,⟨5,[41],0,41⟩,⟨5,[59],0,42⟩,⟨5,[125],0,44⟩,⟨2,[114,101,116,117,114,110],0,46⟩,⟨3,[],0,53⟩,⟨5,[59],0,54⟩,⟨5,[125],0,56⟩,⟨2,[102,117,110,99],0,58⟩,⟨1,[109,97,105,110],0,63⟩,⟨5,[40],0,67⟩,⟨5,[41],0,68⟩,⟨5,[123],0,70⟩,⟨2,[114,101,116,117,114,110],0,72⟩,⟨1,[115,117,109],0,79⟩,⟨5,[40],0,82⟩,⟨1,[116,105,109,101],0,83⟩,⟨5,[40],0,87⟩,⟨5,[41],0,88⟩,⟨5,[41],0,89⟩,⟨5,[59],0,90⟩,⟨5,[125],0,92⟩]
def mV:Pg:=⟨[⟨[115],0⟩],[⟨dv,[],[(.mk 1 [105] [(.mk 5 [] [116,105,109,101] [] 0 [])] [] []),(.mk 5 [] [(.mk 3 [] [105] [] 0 [])] [(.mk 2 [115] [(.mk 7 [43] [] [] 0 [(.mk 3 [] [115] [] 0 []),(.mk 3 [] [105] [] 0 [])])] [] []),(.mk 2 [105] [(.mk 7 [45] [] [] 0 [(.mk 3 [] [105] [] 0 []),(.mk 1 [] [] [] 1 [])])] [] [])] []),(.mk 6 [] [(.mk 3 [] [115] [] 0 [])] [] [])]⟩]⟩
def nT:Pg:=⟨[],[⟨[115,117,109],[[110]],[(.mk 4 [] [(.mk 3 [] [110] [] 0 [])] [(.mk 6 [] [(.mk 7 [43] [] [] 0 [(.mk 3 [] [110] [] 0 []),(.mk 5 [] [115,117,109] [] 0 [(.mk 7 [45] [] [] 0 [(.mk 3 [] [110] [] 0 []),(.mk 1 [] [] [] 1 [])])])])] [] [])] []),(.mk 6 [] [(.mk 1 [] [] [] 0 [])] [] [])]⟩,⟨dv,[],[(.mk 6 [] [(.mk 5 [] [115,117,109] [] 0 [(.mk 5 [] [116,105,109,101] [] 0 [])])] [] [])]⟩]⟩
theorem Ca:gY zi=(GQ,0,0):=Qk
theorem B9:gY zh=(GA,0,0):=Qk
theorem Cb:dN (4*GQ.length+8) mN GQ= .ok (mV,[]):=Qb
theorem B_:dN (4*GA.length+8) mN GA= .ok (nT,[]):=Qb
theorem EE:(lF mV).length<=4000:=Qk
theorem El:(lF nT).length<=4000:=Qk
theorem GN:li mV=true:=by
 unfold li;rw[decide_eq_true EE];decide+kernel
theorem Gx:li nT=true:=by
 unfold li;rw[decide_eq_true El];decide+kernel
theorem EF:mL zi=(mV,0,0):=by
 unfold mL;rw[Ca];simp only[if_true];unfold wg;rw[Cb];simp only[GN,if_true]
theorem Em:mL zh=(nT,0,0):=by
 unfold mL;rw[B9];simp only[if_true];unfold wg;rw[B_];simp only[Gx,if_true]
theorem In:oq mV<=6000000:=Qk
theorem Ik:oq nT<=6000000:=Qk
theorem Ip:mB mV=(⟨ji,[],4,0⟩,0):=Qb
theorem Im:mB nT=(⟨jh,[],0,0⟩,0):=Qb
theorem GP (a:World) (d:EZ a) (h:ea a a.heap.size):Calls prog 22 #[.string (ak zi)] a (Cu mV a):=FP (by have:=ow zi a d h;rwa [EF]at this)
theorem Gz (a:World) (d:EZ a) (h:ea a a.heap.size):Calls prog 22 #[.string (ak zh)] a (Cu nT a):=FP (by have:=ow zh a d h;rwa [Em]at this)
theorem xK (f:Fc) (a:(decide (f.nm.length<=1000000000)&&(f.ps.all λp=>decide (p.length<=1000000000))&&qC f.body&&decide (f.ps.length+cN f.body<=1000)&&decide (gd f.body<=6000000))=true):Jy f:=by
 simp only[an,decide_eq_true_eq,cC]at a;exact⟨a.1.1.1.1,a.1.1.1.2,a.1.1.2,a.1.2,a.2⟩
theorem GO:Ih mV:=by
 refine⟨λf d=>xK f (List.all_eq_true.1 (show mV.fs.all (λf=>decide (f.nm.length<=1000000000)&&(f.ps.all λp=>decide (p.length<=1000000000))&&qC f.body&&decide (f.ps.length+cN f.body<=1000)&&decide (gd f.body<=6000000))=true by decide+kernel) f d),λv a=> ?_,by decide,λnm=> ?_,λj=> ?_,by decide+kernel,?_,by decide+kernel,?_,?_⟩
 ·have:v=⟨[115],0⟩:=by simpa[mV]using a
  subst this;decide
 ·simp[mV,qY,aR,gA]
 ·rcases j with _|j
  ·show ii.big<=_;decide+kernel
  ·have:mV.fs.take (j+1)=mV.fs:=by simp[mV]
   rw[this];decide+kernel
 ·unfold VB;decide+kernel
 ·decide+kernel
 ·decide+kernel
theorem Gy:Ih nT:=by
 refine⟨λf d=>xK f (List.all_eq_true.1 (show nT.fs.all (λf=>decide (f.nm.length<=1000000000)&&(f.ps.all λp=>decide (p.length<=1000000000))&&qC f.body&&decide (f.ps.length+cN f.body<=1000)&&decide (gd f.body<=6000000))=true by decide+kernel) f d),λv a=>(by cases a),by decide,λnm=> ?_,λj=> ?_,by decide+kernel,?_,by decide+kernel,?_,?_⟩
 ·simp[nT,qY,aR,gA]
 ·rcases j with _| _|j
  ·show ii.big<=_;decide+kernel
  ·decide+kernel
  ·have:nT.fs.take (j+2)=nT.fs:=by simp[nT]
   rw[this];decide+kernel
 ·unfold VB;decide+kernel
 ·decide+kernel
 ·decide+kernel
end
end Go.Proofs.YtoedmpgicdekmaaGreatDoor
