/- Parts of the proof. -/
import Derived.Test.YtoedmpgicdekmaaGreatDoorCl00
import Derived.Lib.SlBytesConst
import Derived.Test.YtoedmpgicdekmaaGreatDoorCl34
set_option maxRecDepth 100000
set_option maxHeartbeats 8000000
set_option linter.unusedVariables false
set_option linter.unusedSimpArgs false
set_option linter.unusedSectionVars false
namespace Go.Proofs.YtoedmpgicdekmaaGreatDoor
open Go.Proofs.Tryz
open Go.RowKit
def j' (l:List UInt8):List UInt8:=l++f8 ((Hy l).toNat:Int)
theorem v6 (base:Nat) (v:Value) (l:List UInt8) (o:World) (w:gT o base 5 v l) (A:base<=o.heap.size) (an:l.length<=1000000000):
  Calls prog 50 #[v] o λe w'=> ∃d a,e= .returned (.slice d (l.length+8) a)/\gT w' base 5 (.slice d (l.length+8) a) (j' l)/\Below base o w':=by
 obtain⟨d,a,rfl⟩:=w.form;have aj:=G w;have V:=G (FU d a l o w.sl.2 Qa);have X:=G (show j' l=l++f8 ((Hy l).toNat:Int)from rfl);have ao:=(Hy l).toNat_lt;generalize j' l=af at*;generalize (Hy l).toNat=N at*;clear w;go_enter func50,ntmps50
 go_upto_region 3 with(go_at_call 104;refine V.out.mono ?_;rintro e J ⟨rfl,u⟩;have ai:=G (aj.out.ext u);have Z:=G (show Below base o J from⟨u.os,u.tape,u.output,u.size,λk R=>u.obj (aA R A)⟩);clear V u)
 have ap:base<=J.heap.size:=ax A Z.out.size
 go_loopw [0,7] (λv i wr=> ∃(k:Nat) (L:List UInt8) (d:Option Addr) (a:Nat),k<=8/\i= .int .i64 k/\v= .slice d L.length a/\Below base o wr/\Hid (L=l++(f8 (N:Int)).take k)/\Hid (gT wr base 5 (.slice d L.length a) L)) (λ_ i _=>8-(intOf i).toNat)
 case atStart=>exact⟨0,l,d,a,by omega,rfl,rfl,Z.out,G Qe,ai⟩
 case round=>
  obtain⟨k,L,d,a,R,rfl,rfl,z,H,F⟩:=hrel;have ab:=G z;have ae:=z.size;clear z;by_cases hlt:k<8
  ·have y:=G (show L.length=l.length+k by rw[H.out];simp[dV];omega);have am:=pp (N:Int) k;have ah:=G (pj (N:Int) hlt);generalize qF (N:Int) k=b at*;go_wp2_with (at_builtin;refine eF bt rfl _ _ rfl base _ L rfl (F.out.ext (aa wr _)) _ _ [b] rfl (p9 wr 5 b) (by have:=y.out;simp;omega) Qg ?_;intro al cap' w' M K _;have ag:=G M;have ak:=G (Below.grown (ab.out.alloc (ax A ae) _) K Qg (λj ad=>kq F.out j ad));clear M K);go_roundw
   case rel=>exact⟨k+1,L++[b],al,cap',by omega,by go_num,by simp,ak.out,G (by rw[H.out,ah.out,aL]),G (by have:=ag.out;simpa using this)⟩
   case measure=>simp[intOf];omega
  ·have ac:k=8:=Qa
   have I:=G (show L=af by rw[H.out,ac,qx,X.out]);have y:=G (show L.length=l.length+8 by rw[I.out,X.out];simp[dV]);go_wp2_with fail;go_ret;refine⟨d,a,by rw[y.out];rfl,?_,ab.out⟩;have:=F.out;rw[I.out]at this;rw[<-y.out,I.out];exact this
def DC (f:py):List UInt8×Int:=if gv f=true then(if 1536<(j' (yx f)).length then([],6)else(j' (yx f),0))else([],1)
theorem Bj (f:py) (M B:Option Addr) (c ad:Nat) (w:World) (aV:FT w) (aB:Sl w M c f.code) (aT:Sl w B ad f.data) (bA:f.code.length<=100000000) (bB:f.data.length<=100000000):
  Calls prog 24 #[f.val M B c ad] w λe w'=>au w w'/\ ∃aO aR c2,e= .returned (.tuple #[.slice aO aR c2, .int .i64 (DC f).2])/\(DC f).1.length=aR/\Sl w' aO c2 (DC f).1:=by
 have X:=G (λW (ac:au w W)=>mU f M B c ad W (aV.ext ac) (aB.ext ac) Qa Qa);have F:=G (show DC f=if gv f=true then(if 1536<(j' (yx f)).length then([],6)else(j' (yx f),0))else([],1)from rfl);have ah:=aa w (.cells #[.slice M f.code.length c, .slice B f.data.length ad, .int .i64 f.zero, .int .i64 f.entry] 38);have af:=G ah;have aN:=G (aq w 38 #[.slice M f.code.length c, .slice B f.data.length ad, .int .i64 f.zero, .int .i64 f.entry]);have am:=G (aB.ext ah);have al:=G (aT.ext ah);have bq:=G (show yx f=[82,84,78,49]++fP f.entry++fP f.zero++fP f.code.length++f.code++fP f.data.length++f.data from rfl)
 have a1:=G (show gv f=true->0<=f.entry/\0<=f.zero/\f.entry<=100000000/\f.zero<=3072 from λac=>by
  unfold gv at ac;simp only[an,decide_eq_true_eq]at ac
  omega)
 unfold py.val at*;clear aV aB aT ah;go_enter func24,ntmps24
 go_upto_region 1 with fail
 generalize World.alloc w _=bJ at*;have aY:=aN.out.cell
 cases hv:gv f with
 |false=>
  rw[hv]at X F;rw[if_neg Qd]at F;clear hv;go_wp2_with (go_at_call 41;refine(X.out _ af.out).mono ?_;rintro e a ⟨rfl,A⟩;have ak:=G (af.out.trans A);clear X A aY);go_ret2;exact⟨ak.out,none,0,0,by rw[F.out];rfl,by rw[F.out];rfl,by rw[F.out];exact eI _⟩
 |true=>
  obtain⟨aQ,aP,bz,bx⟩:=a1.out hv;rw[hv]at X F;rw[if_pos rfl]at F;clear hv a1
  go_upto_region 3 with(go_at_call 41;refine(X.out _ af.out).mono ?_;rintro e a ⟨rfl,A⟩;have ak:=G (af.out.trans A);have H:=G (aN.out.ext A);replace am:=G (am.out.ext A);replace al:=G (al.out.ext A);clear X A aY af aN)
  generalize f.entry=E at*;generalize f.zero=bI at*;obtain⟨en,rfl⟩:=aW aQ;obtain⟨I,rfl⟩:=aW aP;clear aQ aP;have V:au a a.drew:=eJ (aG a);have c2:=(H.out.ext V).cell;have aD:=aa a (.cells #[.int .u8 82, .int .u8 84, .int .u8 78, .int .u8 49] 5 (4,5));have aw:=G (aD.trans (eJ (aG _)));have aX:=(H.out.ext aD).cell;have c1:=H.out.cell;have ai:=(H.out.ext (aa a (.cells #[.int .u8 82, .int .u8 84, .int .u8 78, .int .u8 49] 5))).cell;have aS:(convert 36 36 (.slice (some ⟨a.heap.size,0,none⟩) 4 4)).run prog (a.alloc (.cells #[.int .u8 82, .int .u8 84, .int .u8 78, .int .u8 49] 5)).drew= .ok (.slice (some ⟨a.heap.size,0,none⟩) 4 4) (a.alloc (.cells #[.int .u8 82, .int .u8 84, .int .u8 78, .int .u8 49] 5 (4,5))).drew:=Lib.run_convert_bytes_const a.drew 36 5 _ 4 4 Qf Qf
  have aJ:=G (show tB (a.alloc (.cells #[.int .u8 82, .int .u8 84, .int .u8 78, .int .u8 49] 5 (4,5))).drew a.heap.size 5 (.slice (some ⟨a.heap.size,0,none⟩) 4 4) [82,84,78,49]from .inr ⟨a.heap.size,rfl,by decide,by decide,by simp, .inr ⟨a.heap.size,0,rfl,by simp,λi bj=>by
   refine(World.cell?_alloc_mark a _ _ _ _).trans ?_
   match i,bj with
   |0,_=>rfl
   |1,_=>rfl
   |2,_=>rfl
   |3,_=>rfl⟩⟩)
  clear V aD;have bu:=G (show([82,84,78,49]++fP (en:Int)++fP (I:Int):List UInt8).length<=30 by have:=lO en;have:=lO I;simp;omega)
  go_cut [4]from 8 to 15 (λay Z=> ∃K z y,ay= .slice K y z/\Hid (y=([82,84,78,49]++fP (en:Int)++fP (I:Int)).length)/\Hid (gT Z a.heap.size 5 (.slice K y z) ([82,84,78,49]++fP (en:Int)++fP (I:Int)))/\Hid (au a Z))
  case first=>
   go_region_law (first
    |(go_simp;go_at_call 49;refine(pS a.heap.size _ 4 _ [82,84,78,49] en _ aJ.out aw.out.size Qd Qa).mono ?_;rintro e bh ⟨aO,bH,rfl,d,o⟩;have a8:=G d;have av:=G (show au a bh from RowKit.Below.trans (aw.out:RowKit.Below a.heap.size _ _) o);have z:=(H.out.ext av.out).cell;clear aJ aw d o)
    |(go_simp;go_at_call 49;refine(pS a.heap.size _ _ _ _ I _ (.inl a8.out) av.out.size (by have:=lO en;simp;omega) Qa).mono ?_;rintro e bg ⟨bN,bG,rfl,d,o⟩;have a7:=G d;have a9:=G (show au a bg from RowKit.Below.trans (av.out:RowKit.Below a.heap.size _ _) o);clear a8 av d o))
   all_goals
    go_wp2_with fail;have aF:=a7;have aE:=a9;clear a7 a9 c1 c2 aX z ai aS
    go_meet
    case rel=>exact⟨_,_,_,rfl,G Qe,G (by have:=aF.out;simpa using this),aE⟩
  case rest=>
  clear aw c1 c2 aX ai aS aJ;obtain⟨K,z,y,rfl,bK,a6,aM⟩:=hcut;have aU:(([82,84,78,49]++fP (en:Int)++fP (I:Int))++fP f.code.length++f.code)++fP f.data.length++f.data=yx f:=by rw[bq.out]
  generalize ([82,84,78,49]++fP (en:Int)++fP (I:Int):List UInt8)=aj at*;have V:=eJ (aG wc);have a3:=G (a6.out.ext V);have ap:=G (aM.out.trans V);have a2:=G (am.out.ext ap.out)
  have bb:=G (show ∀b ab,M=some ⟨b,ab,none⟩->f.code≠ []->b<a.heap.size from λb ab aA az=>by
   rcases am.out.rd with aH|⟨b',o',u,h2,_⟩
   ·exact absurd aH az
   ·rw[aA]at u;injection u with u;injection u with u;omega)
  have bw:=G (show ∀b ab,B=some ⟨b,ab,none⟩->f.data≠ []->b<a.heap.size from λb ab aA az=>by
   rcases al.out.rd with aH|⟨b',o',u,h2,_⟩
   ·exact absurd aH az
   ·rw[aA]at u;injection u with u;injection u with u;omega)
  have c1:=(H.out.ext aM.out).cell;have bm:=lO (f.code.length:Int);have bl:=lO (f.data.length:Int);have bn:=bu.out;have aI:=G (pT a.heap.size K M y z f.code.length c aj f.code wc.drew a3.out ap.out.size Qa a2.out rfl Qa bb.out);have bt:=G (show(aj++fP f.code.length++f.code).length<=200000000 by simp;omega);have ba:=G (show((aj++fP f.code.length++f.code)++fP f.data.length++f.data).length<=400000000 by simp;omega);generalize bk:aj++fP f.code.length++f.code=aZ at*;have br:=G aU;generalize aC:aZ++fP f.data.length++f.data=ae at*;clear V a3 a2 bm bl bn bb bk aU;replace aC:=G aC
  go_upto_region 4 with fail
  go_cut [4]from 16 to 23 (λay Z=> ∃K z y,ay= .slice K y z/\Hid (y=(j' ae).length)/\Hid (gT Z a.heap.size 5 (.slice K y z) (j' ae))/\Hid (au a Z))
  case first=>
   go_region_law (first
    |(go_simp;go_at_call 51;refine aI.out.mono ?_;rintro e bf ⟨bM,bF,rfl,d,o⟩;have a5:=G d;have ar:=G (show au a bf from RowKit.Below.trans (ap.out:RowKit.Below a.heap.size _ _) o);have ai:=(H.out.ext ar.out).cell;clear aI d o)
    |(go_simp;go_at_call 51;refine(pT a.heap.size _ _ _ _ _ _ aZ f.data _ a5.out ar.out.size (by have:=bt.out;omega) (al.out.ext ar.out) rfl Qa bw.out).mono ?_;rw[aC.out];rintro e be ⟨bL,bE,rfl,d,o⟩;have a4:=G d;have aL:=G (show au a be from RowKit.Below.trans (ar.out:RowKit.Below a.heap.size _ _) o);have bp:=(H.out.ext aL.out).cell;clear a5 d o)
    |(go_simp;go_at_call 50;refine(v6 a.heap.size _ ae _ a4.out aL.out.size (by have:=ba.out;omega)).mono ?_;rintro e bd ⟨bc,bD,rfl,d,o⟩;have ao:=G d;have ag:=G (show au a bd from RowKit.Below.trans (aL.out:RowKit.Below a.heap.size _ _) o);clear a4 d o))
   all_goals
    go_wp2_with fail;have aF:=ao;have aE:=ag;clear ao ag c1 ai bp
    go_meet
    case rel=>exact⟨_,_,_,rfl,G (by simp[j',dV]),aF,aE⟩
  case rest=>
  clear aI c1 aM a6 ap;obtain⟨bc,bo,R,rfl,aK,ao,ag⟩:=hcut;have ax:=G (show DC f=if 1536<R then([],6)else(j' ae,0) by rw[aK.out,F.out,br.out]);have bv:=G (show R<=500000000 by rw[aK.out];have:=ba.out;simp[j',dV];omega);have bC:=bv.out;by_cases hlt:1536<R
  ·have bi:(1536:Int)<(R:Int):=Qa
   have J:=G (show DC f=([],6) by rw[ax.out,if_pos hlt]);clear ax hlt;go_wp2_with fail;go_ret2;exact⟨ak.out.trans ag.out,none,0,0,by rw[J.out];rfl,by rw[J.out];rfl,by rw[J.out];exact eI _⟩
  ·have bi: ¬(1536:Int)<(R:Int):=Qa
   have J:=G (show DC f=(j' ae,0) by rw[ax.out,if_neg hlt]);clear ax hlt;go_wp2_with fail;go_ret2;exact⟨ak.out.trans ag.out,bc,R,bo,by rw[J.out];rfl,by rw[J.out];exact aK.out.symm,by rw[J.out];exact ao.out.sl.2⟩
end Go.Proofs.YtoedmpgicdekmaaGreatDoor
