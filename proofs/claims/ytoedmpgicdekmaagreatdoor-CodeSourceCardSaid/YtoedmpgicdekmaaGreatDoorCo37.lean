/- Parts of the proof. -/
import Derived.Lib.SlBytesConst
import Derived.Test.YtoedmpgicdekmaaGreatDoorCo36
set_option maxRecDepth 100000
set_option maxHeartbeats 8000000
set_option linter.all false
namespace Go.Proofs.YtoedmpgicdekmaaGreatDoor
open Go.Proofs.Tryz
open Go.RowKit
def j6 (l:List UInt8):List UInt8:=l++gA ((Ih l).toNat:Int)
theorem wU (base:Nat) (v:Value) (l:List UInt8) (o:World) (w:im o base 5 v l) (A:base<=o.heap.size) (av:l.length<=1000000000):
  Calls prog 50 #[v] o λe w'=> ∃d a,e=.returned (.slice d (l.length+8) a)/\im w' base 5 (.slice d (l.length+8) a) (j6 l)/\Below base o w':=by
 obtain⟨d,a,rfl⟩:=w.form;have ap:=G w;have ae:=G (GB d a l o w.sl.2 J);have af:=G (show j6 l=l++gA ((Ih l).toNat:Int)from rfl);have aw:=(Ih l).toNat_lt;generalize j6 l=al at*;generalize (Ih l).toNat=N at*;clear w;go_enter func50,ntmps50
 go_upto_region 3 with(go_at_call 104;refine ae.out.mono ?_;rintro e X ⟨rfl,u⟩;have ao:=G (ap.out.ext u);have ag:=G (show Below base o X from⟨u.os,u.tape,u.output,u.size,λk ad=>u.obj (aA ad A)⟩);clear ae u)
 have ax:base<=X.heap.size:=ay A ag.out.size
 go_loopw [0,7] (λv i wr=> ∃(k:Nat) (L:List UInt8) (d:Option Addr) (a:Nat),k<=8/\i=.int .i64 k/\v=.slice d L.length a/\Below base o wr/\Hid (L=l++(gA (N:Int)).take k)/\Hid (im wr base 5 (.slice d L.length a) L)) (λ_ i _=>8-(intOf i).toNat)
 case atStart=>exact⟨0,l,d,a,by omega,rfl,rfl,ag.out,G Qe,ao⟩
 case round=>
  obtain⟨k,L,d,a,ad,rfl,rfl,z,R,F⟩:=hrel;have ah:=G z;have Z:=z.size;clear z;by_cases hlt:k<8
  ·have y:=G (show L.length=l.length+k by rw[R.out];simp[ea];omega);have au:=pW (N:Int) k;have an:=G (pS (N:Int) hlt);generalize rm (N:Int) k=b at*;go_wp2_with (at_builtin;refine eO bt rfl _ _ rfl base _ L rfl (F.out.ext (aa wr _)) _ _ [b] rfl (qz wr 5 b) (by have:=y.out;simp;omega) Qg ?_;intro ar cap' w' H I _;have am:=G H;have aq:=G (Below.grown (ah.out.alloc (ay A Z) _) I Qg (λj aj=>kL F.out j aj));clear H I);go_roundw
   case rel=>exact⟨k+1,L++[b],ar,cap',by omega,by go_num,by simp,aq.out,G (by rw[R.out,an.out,aL]),G (by have:=am.out;simpa using this)⟩
   case measure=>simp[intOf];omega
  ·have ai:k=8:=J
   have V:=G (show L=al by rw[R.out,ai,qY,af.out]);have y:=G (show L.length=l.length+8 by rw[V.out,af.out];simp[ea]);go_wp2_with fail;go_ret;refine⟨d,a,by rw[y.out];rfl,?_,ah.out⟩;have:=F.out;rw[V.out]at this;rw[<-y.out,V.out];exact this
def r_ (f:pD):List UInt8×Int:=if gJ f=true then(if 1536<(j6 (wW f)).length then([],6)else(j6 (wW f),0))else([],1)
theorem vg (f:pD) (H B:Option Addr) (c aj:Nat) (w:World) (a2:FT w) (aH:Sl w H c f.code) (aZ:Sl w B aj f.data) (bE:f.code.length<=100000000) (bF:f.data.length<=100000000):
  Calls prog 24 #[f.val H B c aj] w λe w'=>au w w'/\ ∃aU aX c2,e=.returned (.tuple #[.slice aU aX c2,.int .i64 (r_ f).2])/\(r_ f).1.length=aX/\Sl w' aU c2 (r_ f).1:=by
 have af:=G (λW (ai:au w W)=>nG f H B c aj W (a2.ext ai) (aH.ext ai) J J);have F:=G (show r_ f=if gJ f=true then(if 1536<(j6 (wW f)).length then([],6)else(j6 (wW f),0))else([],1)from rfl);have ao:=aa w (.cells #[.slice H f.code.length c,.slice B f.data.length aj,.int .i64 f.zero,.int .i64 f.entry] 38);have al:=G ao;have aT:=G (aq w 38 #[.slice H f.code.length c,.slice B f.data.length aj,.int .i64 f.zero,.int .i64 f.entry]);have ax:=G (aH.ext ao);have aw:=G (aZ.ext ao);have bv:=G (show wW f=[82,84,78,49]++f_ f.entry++f_ f.zero++f_ f.code.length++f.code++f_ f.data.length++f.data from rfl)
 have a6:=G (show gJ f=true->0<=f.entry/\0<=f.zero/\f.entry<=100000000/\f.zero<=3072 from λai=>by
  unfold gJ at ai;simp only[am,decide_eq_true_eq]at ai
  omega)
 unfold pD.val at*;clear a2 aH aZ ao;go_enter func24,ntmps24
 go_upto_region 1 with fail
 generalize World.alloc w _=bN at*;have a4:=aT.out.cell
 cases hv:gJ f with
 |false=>
  rw[hv]at af F;rw[if_neg Qd]at F;clear hv;go_wp2_with (go_at_call 41;refine(af.out _ al.out).mono ?_;rintro e a ⟨rfl,A⟩;have av:=G (al.out.trans A);clear af A a4);go_ret2;exact⟨av.out,none,0,0,by rw[F.out];rfl,by rw[F.out];rfl,by rw[F.out];exact ep _⟩
 |true=>
  obtain⟨aW,aV,bD,bC⟩:=a6.out hv;rw[hv]at af F;rw[if_pos rfl]at F;clear hv a6
  go_upto_region 3 with(go_at_call 41;refine(af.out _ al.out).mono ?_;rintro e a ⟨rfl,A⟩;have av:=G (al.out.trans A);have R:=G (aT.out.ext A);replace ax:=G (ax.out.ext A);replace aw:=G (aw.out.ext A);clear af A a4 al aT)
  generalize f.entry=E at*;generalize f.zero=bM at*;obtain⟨en,rfl⟩:=a_ aW;obtain⟨V,rfl⟩:=a_ aV;clear aW aV;have ae:au a a.drew:=eR (aI a);have c2:=(R.out.ext ae).cell;have aK:=aa a (.cells #[.int .u8 82,.int .u8 84,.int .u8 78,.int .u8 49] 5 (4,5));have aC:=G (aK.trans (eR (aI _)));have a3:=(R.out.ext aK).cell;have c1:=R.out.cell;have ap:=(R.out.ext (aa a (.cells #[.int .u8 82,.int .u8 84,.int .u8 78,.int .u8 49] 5))).cell;have aY:(convert 36 36 (.slice (some ⟨a.heap.size,0,none⟩) 4 4)).run prog (a.alloc (.cells #[.int .u8 82,.int .u8 84,.int .u8 78,.int .u8 49] 5)).drew=.ok (.slice (some ⟨a.heap.size,0,none⟩) 4 4) (a.alloc (.cells #[.int .u8 82,.int .u8 84,.int .u8 78,.int .u8 49] 5 (4,5))).drew:=Lib.run_convert_bytes_const a.drew 36 5 _ 4 4 Qf Qf
  have aP:=G (show ud (a.alloc (.cells #[.int .u8 82,.int .u8 84,.int .u8 78,.int .u8 49] 5 (4,5))).drew a.heap.size 5 (.slice (some ⟨a.heap.size,0,none⟩) 4 4) [82,84,78,49]from .inr ⟨a.heap.size,rfl,by decide,by decide,by simp,.inr ⟨a.heap.size,0,rfl,by simp,λi hi=>by
   refine(World.cell?_alloc_mark a _ _ _ _).trans ?_
   match i,hi with
   |0,_=>rfl
   |1,_=>rfl
   |2,_=>rfl
   |3,_=>rfl⟩⟩)
  clear ae aK;have bz:=G (show([82,84,78,49]++f_ (en:Int)++f_ (V:Int):List UInt8).length<=30 by have:=mc en;have:=mc V;simp;omega)
  go_cut [4]from 8 to 15 (λaE ag=> ∃I z y,aE=.slice I y z/\Hid (y=([82,84,78,49]++f_ (en:Int)++f_ (V:Int)).length)/\Hid (im ag a.heap.size 5 (.slice I y z) ([82,84,78,49]++f_ (en:Int)++f_ (V:Int)))/\Hid (au a ag))
  case first=>
   go_region_law (first
    |(go_simp;go_at_call 49;refine(qm a.heap.size _ 4 _ [82,84,78,49] en _ aP.out aC.out.size Qd J).mono ?_;rintro e bm ⟨aU,bL,rfl,d,o⟩;have bd:=G d;have aB:=G (show au a bm from RowKit.Below.trans (aC.out:RowKit.Below a.heap.size _ _) o);have z:=(R.out.ext aB.out).cell;clear aP aC d o)
    |(go_simp;go_at_call 49;refine(qm a.heap.size _ _ _ _ V _ (.inl bd.out) aB.out.size (by have:=mc en;simp;omega) J).mono ?_;rintro e bl ⟨bR,bK,rfl,d,o⟩;have bc:=G d;have be:=G (show au a bl from RowKit.Below.trans (aB.out:RowKit.Below a.heap.size _ _) o);clear bd aB d o))
   all_goals
    go_wp2_with fail;have aM:=bc;have aL:=be;clear bc be c1 c2 a3 z ap aY
    go_meet
    case rel=>exact⟨_,_,_,rfl,G Qe,G (by have:=aM.out;simpa using this),aL⟩
  case rest=>
  clear aC c1 c2 a3 ap aY aP;obtain⟨I,z,y,rfl,bO,bb,aS⟩:=hcut;have a1:(([82,84,78,49]++f_ (en:Int)++f_ (V:Int))++f_ f.code.length++f.code)++f_ f.data.length++f.data=wW f:=by rw[bv.out]
  generalize ([82,84,78,49]++f_ (en:Int)++f_ (V:Int):List UInt8)=ar at*;have ae:=eR (aI wc);have a8:=G (bb.out.ext ae);have az:=G (aS.out.trans ae);have a7:=G (ax.out.ext az.out)
  have bg:=G (show ∀b ah,H=some ⟨b,ah,none⟩->f.code≠ []->b<a.heap.size from λb ah aG aF=>by
   rcases ax.out.rd with aN|⟨b',o',u,h2,_⟩
   ·exact absurd aN aF
   ·rw[aG]at u;injection u with u;injection u with u;omega)
  have bB:=G (show ∀b ah,B=some ⟨b,ah,none⟩->f.data≠ []->b<a.heap.size from λb ah aG aF=>by
   rcases aw.out.rd with aN|⟨b',o',u,h2,_⟩
   ·exact absurd aN aF
   ·rw[aG]at u;injection u with u;injection u with u;omega)
  have c1:=(R.out.ext aS.out).cell;have bq:=mc (f.code.length:Int);have bp:=mc (f.data.length:Int);have br:=bz.out;have aO:=G (qo a.heap.size I H y z f.code.length c ar f.code wc.drew a8.out az.out.size J a7.out rfl J bg.out);have bx:=G (show(ar++f_ f.code.length++f.code).length<=200000000 by simp;omega);have bf:=G (show((ar++f_ f.code.length++f.code)++f_ f.data.length++f.data).length<=400000000 by simp;omega);generalize bo:ar++f_ f.code.length++f.code=a5 at*;have bw:=G a1;generalize aJ:a5++f_ f.data.length++f.data=Z at*;clear ae a8 a7 bq bp br bg bo a1;replace aJ:=G aJ
  go_upto_region 4 with fail
  go_cut [4]from 16 to 23 (λaE ag=> ∃I z y,aE=.slice I y z/\Hid (y=(j6 Z).length)/\Hid (im ag a.heap.size 5 (.slice I y z) (j6 Z))/\Hid (au a ag))
  case first=>
   go_region_law (first
    |(go_simp;go_at_call 51;refine aO.out.mono ?_;rintro e bk ⟨bQ,bJ,rfl,d,o⟩;have ba:=G d;have aA:=G (show au a bk from RowKit.Below.trans (az.out:RowKit.Below a.heap.size _ _) o);have ap:=(R.out.ext aA.out).cell;clear aO d o)
    |(go_simp;go_at_call 51;refine(qo a.heap.size _ _ _ _ _ _ a5 f.data _ ba.out aA.out.size (by have:=bx.out;omega) (aw.out.ext aA.out) rfl J bB.out).mono ?_;rw[aJ.out];rintro e bj ⟨bP,bI,rfl,d,o⟩;have a9:=G d;have aR:=G (show au a bj from RowKit.Below.trans (aA.out:RowKit.Below a.heap.size _ _) o);have bu:=(R.out.ext aR.out).cell;clear ba d o)
    |(go_simp;go_at_call 50;refine(wU a.heap.size _ Z _ a9.out aR.out.size (by have:=bf.out;omega)).mono ?_;rintro e bi ⟨bh,bH,rfl,d,o⟩;have ay:=G d;have an:=G (show au a bi from RowKit.Below.trans (aR.out:RowKit.Below a.heap.size _ _) o);clear a9 d o))
   all_goals
    go_wp2_with fail;have aM:=ay;have aL:=an;clear ay an c1 ap bu
    go_meet
    case rel=>exact⟨_,_,_,rfl,G (by simp[j6,ea]),aM,aL⟩
  case rest=>
  clear aO c1 aS bb az;obtain⟨bh,bt,ad,rfl,aQ,ay,an⟩:=hcut;have aD:=G (show r_ f=if 1536<ad then([],6)else(j6 Z,0) by rw[aQ.out,F.out,bw.out]);have bA:=G (show ad<=500000000 by rw[aQ.out];have:=bf.out;simp[j6,ea];omega);have bG:=bA.out;by_cases hlt:1536<ad
  ·have bn:(1536:Int)<(ad:Int):=J
   have X:=G (show r_ f=([],6) by rw[aD.out,if_pos hlt]);clear aD hlt;go_wp2_with fail;go_ret2;exact⟨av.out.trans an.out,none,0,0,by rw[X.out];rfl,by rw[X.out];rfl,by rw[X.out];exact ep _⟩
  ·have bn: ¬(1536:Int)<(ad:Int):=J
   have X:=G (show r_ f=(j6 Z,0) by rw[aD.out,if_neg hlt]);clear aD hlt;go_wp2_with fail;go_ret2;exact⟨av.out.trans an.out,bh,ad,bt,by rw[X.out];rfl,by rw[X.out];exact aQ.out.symm,by rw[X.out];exact ay.out.sl.2⟩
end Go.Proofs.YtoedmpgicdekmaaGreatDoor
