/- Parts of the proof. -/
import Derived.Test.YtoedmpgicdekmaaGreatDoorCl00
import Derived.Test.YtoedmpgicdekmaaGreatDoorCl43
import Derived.Test.YtoedmpgicdekmaaGreatDoorCl44
import Derived.Test.YtoedmpgicdekmaaGreatDoorCl45
import Derived.Test.YtoedmpgicdekmaaGreatDoorCl46
set_option maxRecDepth 100000
set_option maxHeartbeats 8000000
set_option linter.unusedVariables false
set_option linter.unusedSimpArgs false
set_option linter.unusedSectionVars false
namespace Go.Proofs.YtoedmpgicdekmaaGreatDoor
open Go.Proofs.Tryz
section
open Go.RowKit
theorem Eg:df ⟨jh,[],0,0⟩ [(14,[])] 20000=(⟨1,0,105,0,0,[],1⟩,0):=Qb
theorem Ef:df ⟨jh,[],0,0⟩ [(15,[])] 20000=(⟨1,0,120,0,0,[],1⟩,0):=Qb
theorem Ee:df ⟨jh,[],0,0⟩ [(16,[])] 20000=(⟨1,0,136,0,0,[],1⟩,0):=Qb
theorem Ed:df ⟨jh,[],0,0⟩ [(17,[])] 20000=(⟨1,0,153,0,0,[],1⟩,0):=Qb
theorem Ec:df ⟨jh,[],0,0⟩ [(18,[])] 20000=(⟨1,0,171,0,0,[],1⟩,0):=Qb
theorem Eb:df ⟨jh,[],0,0⟩ [(19,[])] 20000=(⟨1,0,190,0,0,[],1⟩,0):=Qb
theorem Ea:df ⟨jh,[],0,0⟩ [(20,[])] 20000=(⟨1,0,210,0,0,[],1⟩,0):=Qb
def JB (C:List UInt8) (z:Int):Prop:= ∀k:Nat,k<21->df ⟨C,[],z,0⟩ [((k:Int),[])] 20000=(⟨1,0,(((k*(k+1))/2%256:Nat):Int),0,0,[],1⟩,0)
theorem Io:JB ji 4:=λk a=>
 match k,a with
 |0,_=>GM
 |1,_=>GK
 |2,_=>GJ
 |3,_=>GI
 |4,_=>GH
 |5,_=>GF
 |6,_=>GE
 |7,_=>GD
 |8,_=>GC
 |9,_=>GB
 |10,_=>ED
 |11,_=>EB
 |12,_=>EA
 |13,_=>Ez
 |14,_=>Ew
 |15,_=>Ev
 |16,_=>Eu
 |17,_=>Et
 |18,_=>Es
 |19,_=>Ep
 |20,_=>Eo
 |n+21,h=>absurd h Qa
theorem Il:JB jh 0:=λk a=>
 match k,a with
 |0,_=>Gw
 |1,_=>Gv
 |2,_=>Gu
 |3,_=>Gt
 |4,_=>Gs
 |5,_=>Gr
 |6,_=>Gq
 |7,_=>Gp
 |8,_=>Gn
 |9,_=>Gm
 |10,_=>Ek
 |11,_=>Ej
 |12,_=>Ei
 |13,_=>Eh
 |14,_=>Eg
 |15,_=>Ef
 |16,_=>Ee
 |17,_=>Ed
 |18,_=>Ec
 |19,_=>Eb
 |20,_=>Ea
 |n+21,h=>absurd h Qa
def Cw (s:List UInt8):Prop:= ∃(p:Pg) (C:List UInt8) (z:Int),C.length<=1000/\JB C z/\mB p=(⟨C,[],z,0⟩,0)/\oq p<=6000000/\Ih p/\ ∀w,EZ w->ea w w.heap.size->Calls prog 22 #[.string (ak s)] w (Cu p w)
theorem EG:Cw zi:=⟨mV,ji,4,by decide+kernel,Io,Ip,In,GO,λa d h=>GP a d h⟩
theorem En:Cw zh:=⟨nT,jh,0,by decide+kernel,Il,Im,Ik,Gy,λa d h=>Gz a d h⟩
theorem Gh {k:Int} {a:World} {b t:Nat} (d:aM a b t #[.int .i64 k, .slice none 0 0]):tL a (λ_=>True) (.slice (some ⟨b,0,none⟩) 1 1) [(k,[])]:=by
 have u:a.cell? ⟨b,0,none⟩=some (.int .i64 k):=d.cell 0;have o:a.cell? ⟨b,1,none⟩=some (.slice none 0 0):=d.cell 1;refine⟨some ⟨b,0,none⟩,1,rfl, .inr ⟨ah _,by decide,b,0,rfl,trivial,d.lt,λ_=>none,λ_=>0,λi h=> ?_⟩⟩;obtain rfl:i=0:=by simp at h;omega
 exact⟨u,o,eI a,λ_ _ e=>by cases e⟩
theorem Gg (k:Nat) (a:k<21):((k:Int)*((k:Int)+1)/2%256)=(((k*(k+1))/2%256:Nat):Int):=by
 rw[Int.natCast_emod,Int.natCast_ediv,Int.natCast_mul,Int.natCast_add];rfl
def IA (w:World) (k:Nat) (y:Int) (s:ByteArray):Prop:=
 ∃(vs:List Vr) (fs:List Fc) (C:List UInt8) (z:Int) (n:Nat),
 (∀W,au w W->Calls prog 22 #[.string s] W λe w'=>au W w'/\ ∃A n c B m d,e= .returned (.tuple #[.agg #[.slice A n c, .slice B m d], .int .i64 0, .int .i64 0])/\pt w' (λ_=>True) (.slice A n c) vs/\pE w' (λ_=>True) (.slice B m d) fs)/\
 (∀(W:World) (A B:Option Addr) (n1 c m d:Nat) (hE:au w W) (hV:pt W (λ_=>True) (.slice A n1 c) vs) (hF:pE W (λ_=>True) (.slice B m d) fs),Calls prog 12 #[.agg #[.slice A n1 c, .slice B m d]] W λe w'=>(∃A c B d,e= .returned (.tuple #[.agg #[.slice A n c, .slice B 0 d, .int .i64 z, .int .i64 0], .int .i64 0])/\Sl w' A c C/\Sl w' B d [])/\au W w')/\
 (∀(W:World) (A B R:Option Addr) (c d q:Nat) (hE:au w W) (h1:Sl W A c C) (h2:Sl W B d []) (hR:tL W (λ_=>True) (.slice R 1 q) [((k:Int),[])]),Calls prog 18 #[.agg #[.slice A n c, .slice B 0 d, .int .i64 z, .int .i64 0], .slice R 1 q, .int .i64 20000] W λe w'=>au W w'/\ ∃A2 c2,e= .returned (.tuple #[.agg #[.int .i64 1, .int .i64 0, .int .i64 y, .int .i64 0, .int .i64 0, .slice A2 0 c2, .int .i64 1], .int .i64 0]))
theorem Bk (x:Nat) (bo:x<256) (u:World) (ar:EZ u) (M:ea u u.heap.size) (aB:BT u) (V:FT u):
  Calls prog 5 #[.int .u8 (x:Int)] u λe w'=>e= .returned (.bool true)/\au u w':=by
 obtain⟨k,bc⟩: ∃k,x%21=k:=⟨_,rfl⟩
 have aL:k<21:=Qa
 have aK:(x:Int)%21=(k:Int):=Qa
 obtain⟨o,av⟩: ∃o:Int,(((k*(k+1))/2%256:Nat):Int)=o:=⟨_,rfl⟩
 have aZ:=G (zu u ar M aB V)
 have aF:=G (show ∀s,Cw s->IA u k o (ak s)from λs az=>by
  obtain⟨p,C,z,bb,a4,ha,a3,bf,a7⟩:=az;refine⟨p.vs,p.fs,C,z,C.length,λW a=> ?_,λW y B H c m w a R X=> ?_,λW y B bj c w q a ab Z bg=> ?_⟩
  ·exact a7 W (ar.ext a) (gZ M a)
  ·have:=pm p a3 (λ_=>bf) W y B H c m w R X (gZ M a) (aB.ext a) (V.ext a);rw[ha]at this;exact this
  ·have:=rq ⟨C,[],z,0⟩ y B c w [((k:Int),[])] (.slice bj 1 q) 20000 Qd W (V.ext a) ab Z (ax bb Qd) Qe bg Qe;rw[a4 k aL,av]at this;refine this.mono λe w' bd=> ?_;obtain⟨ap,J,c2,ao,_⟩:=bd
   exact⟨ap,J,c2,ao⟩)
 have ai:=G (aF.out _ EG);have ah:=G (aF.out _ En);clear aF;obtain⟨F,ay⟩: ∃s,ak zi=s:=⟨_,rfl⟩
 obtain⟨A,aw⟩: ∃s,ak zh=s:=⟨_,rfl⟩
 rw[ay]at ai;rw[aw]at ah;have a6:(⟨#[118,97,114,32,115,59,32,102,117,110,99,32,109,97,105,110,40,41,32,123,32,118,97,114,32,105,32,61,32,116,105,109,101,40,41,59,32,119,104,105,108,101,32,105,32,123,32,115,32,61,32,115,32,43,32,105,59,32,105,32,61,32,105,32,45,32,49,59,32,125,32,114,101,116,117,114,110,32,115,59,32,125]⟩:ByteArray)=F:=ay;have a5:(⟨#[102,117,110,99,32,115,117,109,40,110,41,32,123,32,105,102,32,110,32,123,32,114,101,116,117,114,110,32,110,32,43,32,115,117,109,40,110,32,45,32,49,41,59,32,125,32,114,101,116,117,114,110,32,48,59,32,125,32,102,117,110,99,32,109,97,105,110,40,41,32,123,32,114,101,116,117,114,110,32,115,117,109,40,116,105,109,101,40,41,41,59,32,125]⟩:ByteArray)=A:=aw;have bl:=G ((Gg k aL).trans av);clear ay aw ar M aB V bc av;go_enter func5,ntmps5
 go_upto_region 5 with(go_at_call 8;refine aZ.out.mono ?_;rintro e K ⟨rfl,a⟩;have aR:=G a;clear a aZ)
 simp only[aK];have aQ:=G (aR.out.trans (aa K (.cells #[.string F, .string A] 9)));have aY:=G (aq K 9 #[.string F, .string A]);generalize be:K.heap.size=g at*;generalize K.alloc (.cells #[.string F, .string A] 9)=a1 at*;clear be aR a6 a5 aK
 go_upto_region 6 with fail
 go_loopw [5] (λv wr=> ∃j:Nat,v= .int .i64 (j:Int)/\j<=2/\Hid (au a1 wr)) (λv _=>2-(intOf v).toNat)
 case atStart=>exact⟨0,rfl,by decide,G (aG _)⟩
 case round=>
  obtain⟨j,rfl,bq,ac⟩:=hrel;have ad:=G (aQ.out.trans ac.out);by_cases hlt:j<2
  ·have ba:(j:Int)<2:=Qa
   have aH:=G (aY.out.ext ac.out);obtain⟨an,bh,bn,br,C,z,n,af,ag,ae⟩: ∃an,wr.cell? ⟨g,j,none⟩=some (.string an)/\IA u k o an:=by
    obtain rfl|rfl:j=0\/j=1:=Qa
    ·exact⟨F,aH.out.cell 0,ai.out⟩
    ·exact⟨A,aH.out.cell 1,ah.out⟩
   have af:=G af;have ag:=G ag;have ae:=G ae;clear ai ah aQ aY
   go_upto_region 9 with(go_at_call 22;refine(af.out _ ad.out).mono ?_;rintro e am ⟨a,y,H,c,B,m,w,rfl,R,X⟩;have d:=aa am (.cells #[.slice y H c, .slice B m w] 31);have aE:=G (ad.out.trans (a.trans d));have aO:=G (ac.out.trans (a.trans d));have aX:=G (aq am 31 #[.slice y H c, .slice B m w]);have aS:=G (R.keep (.of_ext d) (Q:=λ_=>True) (λ_ aA _=>aA));have aV:=G (X.keep (.of_ext d) (Q:=λ_=>True) (λ_ aA _=>aA));clear a R X d af ad ac aH bh)
   generalize am.alloc (.cells #[.slice y H c, .slice B m w] 31)=bt at*;have c1:=aX.out.cell
   go_upto_region 10 with(go_at_call 12;refine(ag.out _ _ _ _ _ _ _ aE.out aS.out aV.out).mono ?_;rintro e al ⟨⟨J,c2,aI,aC,rfl,ab,Z⟩,a⟩;have d:=aa al (.cells #[.slice J n c2, .slice aI 0 aC, .int .i64 z, .int .i64 0] 38);have aP:=G (aE.out.trans (a.trans d));have aN:=G (aO.out.trans (a.trans d));have aW:=G (aq al 38 #[.slice J n c2, .slice aI 0 aC, .int .i64 z, .int .i64 0]);have aU:=G (ab.ext d);have aT:=G (Z.ext d);clear a ab Z d ag aX aS aV aE aO c1)
   generalize al.alloc (.cells #[.slice J n c2, .slice aI 0 aC, .int .i64 z, .int .i64 0] 38)=aM at*;have c1:=aW.out.cell
   go_upto_region 11 with(go_at_call 18;have I:=aa aM (.cells #[.int .i64 k, .slice none 0 0] 62);refine(ae.out _ _ _ _ _ _ _ (aP.out.trans I) (aU.out.ext I) (aT.out.ext I) (Gh (aq aM _ _))).mono ?_;rintro e aj ⟨a,aJ,aD,rfl⟩;have d:=aa aj (.cells #[.int .i64 1, .int .i64 0, .int .i64 o, .int .i64 0, .int .i64 0, .slice aJ 0 aD, .int .i64 1] 49);have bk:=G (aN.out.trans (I.trans (a.trans d)));have bm:=G (aq aj 49 #[.int .i64 1, .int .i64 0, .int .i64 o, .int .i64 0, .int .i64 0, .slice aJ 0 aD, .int .i64 1]);clear a d I ae aW aU aT aP aN c1)
   generalize aj.alloc (.cells #[.int .i64 1, .int .i64 0, .int .i64 o, .int .i64 0, .int .i64 0, .slice aJ 0 aD, .int .i64 1] 49)=bi at*;have ap:IntKind.i64.wrap ((k:Int)+1)=(k:Int)+1:=Qc
   have a9:(k:Int)*((k:Int)+1)<=20*21:=Int.mul_le_mul Qa Qa Qa Qa;have a8:0<=(k:Int)*((k:Int)+1):=Int.mul_nonneg Qa Qa;have ao:IntKind.i64.wrap ((k:Int)*((k:Int)+1))=(k:Int)*((k:Int)+1):=by generalize (k:Int)*((k:Int)+1)=o at*;simp[IntKind.wrap,IntKind.signed,IntKind.bits];omega
   have az:=bl.out;have c1:=bm.out.cell;have a2:=JP o 0 0 o 0 0 bi
   go_upto_region 7 with fail
   clear c1 ap ao a2 a9 a8 az;have bp:IntKind.i64.wrap ((j:Int)+1)=(j:Int)+1:=Qc
   go_wp2_with fail;go_roundw
   case rel=>exact⟨j+1,rfl,by omega,bk⟩
   case measure=>simp[intOf];omega
  ·obtain rfl:j=2:=Qa
   have ba: ¬(((2:Nat):Int)<2):=Qd
   clear ai ah;go_wp2_with fail;go_ret;exact⟨rfl,ad.out⟩
theorem yM (x:Int) (w:0<=x) (y:x<256) (a:World) (d:EZ a) (h:ea a a.heap.size) (u:BT a) (o:FT a):
  Calls prog 5 #[.int .u8 x] a λe w'=>e= .returned (.bool true)/\au a w':=by
 obtain⟨n,rfl⟩:=aW w;exact Bk n Qa a d h u o
end
end Go.Proofs.YtoedmpgicdekmaaGreatDoor
