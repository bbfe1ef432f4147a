/- Parts of the proof. -/
import Derived.Test.YtoedmpgicdekmaaGreatDoorCl00
import Derived.Test.YtoedmpgicdekmaaGreatDoorCl32
import Derived.Test.YtoedmpgicdekmaaGreatDoorCl35
import Derived.Test.YtoedmpgicdekmaaGreatDoorCl22
import Derived.Test.YtoedmpgicdekmaaGreatDoorCl16
import Derived.Test.YtoedmpgicdekmaaGreatDoorCl30
import Derived.BigRegion
import Derived.Test.YtoedmpgicdekmaaGreatDoorCl05
set_option maxRecDepth 100000
set_option maxHeartbeats 8000000
set_option linter.unusedVariables false
set_option linter.unusedSimpArgs false
set_option linter.defProp false
set_option linter.unusedSectionVars false
namespace Go.Proofs.YtoedmpgicdekmaaGreatDoor
open Go.Proofs.Tryz
section
open Go.RowKit
theorem se {f:py} (a:gv f=true):4<=f.code.length/\0<=f.zero/\f.zero<=3072/\ph f<=3072/\0<=f.entry/\f.entry<f.code.length/\f.entry.tmod 4=0:=by
 unfold gv at a;simp only[an,decide_eq_true_eq]at a;obtain⟨h,_,b,c,d,e,g,a,_⟩:=a;exact⟨h,e,g,a,b,c,d⟩
theorem Ie {f:py} (d:gv f=true): ∃a:Nat,ph f=128*a/\1<=a/\a<=24/\ ∃U:Nat,lW f.code.length=U/\f.code.length<=U/\U+f.data.length<=128*a:=by
 obtain⟨y,u,o,h,_⟩:=se d;unfold ph lW at*;refine⟨(((f.code.length:Int)+127)/128*128+f.data.length+f.zero+127).toNat/128,by omega,by omega,by omega,(((f.code.length:Int)+127)/128*128).toNat,by omega,by omega,by omega⟩
theorem rO (f:py) (u B:Option Addr) (c y a:Nat) (w:World) (K:FT w) (J:Sl w u c f.code) (z:gv f=true) (F:f.code.length<=1000000000) (H:f.data.length<=1000000000) (aa:ph f=128*(a:Int)) (ae:a<=24):
  Calls prog 42 #[f.val u B c y] w λe w'=>e= .returned (.int .i64 (a:Int))/\au w w':=by
 have R:=G (λW (M:au w W)=>show Calls prog 41 #[f.val u B c y] W λe w'=>e= .returned (.bool true)/\au W w' from by have:=mU f u B c y W (K.ext M) (J.ext M) F H;rw[z]at this;exact this);obtain⟨_,X,ab,_⟩:=se z;have V:=G (λW=>show Calls prog 85 #[.agg #[.slice u f.code.length c, .slice B f.data.length y, .int .i64 f.zero, .int .i64 f.entry]] W λe w'=>e= .returned (.int .i64 (128*(a:Int)))/\au W w' from by have:=uL u B f.code.length c f.data.length y f.zero f.entry W F H X Qa;rw[show lW (lW (f.code.length:Int)+f.data.length+f.zero)=128*(a:Int)from aa]at this;exact this);unfold py.val at*;have Z:(128*(a:Int)).tdiv 128=a:=by rw[Int.mul_tdiv_cancel_left _ Qd]
 have ad:IntKind.i64.wrap (a:Int)=a:=Qc
 clear K J z;go_enter func42,ntmps42
 go_upto_region 1 with fail
 generalize I:World.alloc w _=W0;obtain⟨d,q,s⟩:=kZ I;replace d:=G d;clear I;have A:=q.out.cell;go_wp2_with (first|(go_at_call 41;refine(R.out _ d.out).mono ?_;rintro e ac ⟨rfl,o⟩;replace d:=kx d o;replace q:=kb q o;clear R A o;have A:=q.out.cell)|(go_at_call 85;refine(V.out _).mono ?_;rintro e w2 ⟨rfl,o⟩;replace d:=kx d o;clear V A o));go_ret;exact⟨by first|rfl|(simp[Z];done),d.out⟩
theorem ng {L:List UInt8} {off:Nat} {b:List UInt8} (a:off+b.length<=L.length):(vT L off b).length=L.length:=by
 unfold vT;simp only[ac,bC,bH];omega
theorem kA {P:Program} {w:World} {ops:Array Oper} {rest:List Oper} {a:Oper} {h:Act} {Q:Exit->Act->World->Prop} {t e:TypeId} (R:lU P t e) (I:a.guard=none) (o s:Operand)
  (F:a.op= .call {callee:= .builtin .copy,args:= #[o,s],argTypes:= #[t,t]}) (g off d z:Nat) (M:h.eval o= .slice (some ⟨g,off,none⟩) d z) (L:List UInt8) (J:Rw w g e L)
  (u:Option Addr) (c n:Nat) (m:List UInt8) (G:m.length=n) (A:h.eval s= .slice u n c) (V:Sl w u c m) (K:off+d<=L.length) (H:n<=d)
  (Z: ∀w' v,Rw w' g e (vT L off m)->w.grownBy w' (some g)->wpList P ops Q rest (h.put a.dst v) w'):wpList P ops Q (a::rest) h w:=by
 subst G;refine sa R I o s F g off d z M L J u c m A V K λw' k y X=>Z w' _ ?_ X;rw[bO H]at y;exact y
def F4 (f:py) (U L:Nat):List UInt8:=vT (vT (List.replicate L 0) 0 f.code) U f.data
def Dp (g i:Nat):Value:= .slice (some ⟨g,128*i,none⟩) 128 128
def Fd (g np:Nat):List Value:=(List.range np).map (Dp g)
theorem JW:mY prog 114 36 1 24 (.slice none 0 0):=⟨underlying114,by kernel_rfl,by rfl,by decide⟩
theorem AS (g j:Nat):Fd g j++[Dp g j]=Fd g (j+1):=by simp[Fd,kP]
theorem wI (f:py) (ar B:Option Addr) (c K o U:Nat) (w:World) (a5:FT w) (aA:Sl w ar c f.code) (a4:Sl w B K f.data) (aS:gv f=true) (aW:f.code.length<=1000000000) (aY:f.data.length<=1000000000) (z:ph f=128*(o:Int)) (bN:1<=o) (bl:o<=24) (d:lW (f.code.length:Int)=U) (bn:f.code.length<=U) (a3:U+f.data.length<=128*o):
  Calls prog 44 #[f.val ar B c K] w λe w'=> ∃g v,e= .returned v/\w'.ownsRow w.heap.size 36 1 v o (Fd g o)/\Rw w' g 5 (F4 f U (128*o))/\au w w':=by
 have an:=G (λW (J:au w W)=>rO f ar B c K o W (a5.ext J) (aA.ext J) aS aW aY z bl);have am:=G (λW=>show Calls prog 87 #[.int .i64 f.code.length] W λe w'=>e= .returned (.int .i64 (U:Int))/\W=w' from by have:=td f.code.length W Qa Qa;rw[d]at this;exact this);have aK:=G aA;have ao:=G a4;obtain⟨n,ai⟩: ∃n,f.code.length=n:=⟨_,rfl⟩
 obtain⟨m,aj⟩: ∃m,f.data.length=m:=⟨_,rfl⟩
 have aO:=G ai;have ap:=G aj;unfold py.val at*;rw[ai]at an am bn;rw[aj]at an a3;rw[ai,aj];obtain⟨L,ac⟩: ∃L,128*o=L:=⟨_,rfl⟩
 rw[ac]at a3;have bj:IntKind.i64.wrap ((o:Int)*128)=(L:Int):=by rw[<-ac];simp[IntKind.wrap,IntKind.signed,IntKind.bits];omega
 have bY:(0:Int)<(L:Int):=Qa
 have bW:L<=3072:=Qa
 have bX:(0<L)=True:=Qg
 have bD:=G ac;rw[ac];obtain⟨V,aE⟩: ∃V,F4 f U L=V:=⟨_,rfl⟩
 have aP:=G (show V=vT (vT (List.replicate L 0) 0 f.code) U f.data from aE.symm);rw[aE];clear a5 aA a4 aS aW aY z d ai aj ac aE;generalize f.zero=bI at*;generalize f.entry=en at*;go_enter func44,ntmps44
 go_upto_region 1 with fail
 generalize ak:World.alloc w _=W0;obtain⟨H,q,s⟩:=kZ ak;replace H:=G H;clear ak;have y:=q.out.cell
 go_upto_region 2 with(first|(go_at_call 42;refine(an.out _ H.out).mono ?_;rintro e a ⟨rfl,aH⟩;replace H:=kx H aH;replace q:=kb q aH;have bz:=G q.out.lt;clear an y aH;have y:=q.out.cell)|(at_make;refine r_ bt rfl _ _ rfl L Qa .i64 .i64 rfl rfl λw2 aU aF bi=> ?_;have ah:=G aU;have R:=G (H.out.trans aF);replace q:=kb q aF;clear aU aF))
 have bS:=ah.out.lt;have aC:(List.replicate L (0:UInt8)).length=L:=ip ..;have bM:=q.out.lt;have b7:=R.out.size;have bQ:w.heap.size<a.heap.size:=by have:=q.out.lt;have:=bi;have:=bz.out;omega
 have y:=q.out.cell
 go_upto_if 12 with fail
 go_cut []from 13 to 25 (λaQ=>Hid (Rw aQ a.heap.size 5 V)/\Hid (au w aQ))
 case first=>
  go_upto_region 5 with(refine kA bt rfl _ _ rfl a.heap.size 0 L L rfl _ ah.out ar c n f.code aO.out rfl (aK.out.ext R.out) (by rw[aC];omega) Qa λbJ bK aT a1=> ?_;have a8:=G aT;have bd:=G a1;clear y aT a1)
  have al:=G (R.out.grown bd.out λk e=>by injection e with e;omega);replace q:=G (q.out.grown bd.out Qg);have y:=q.out.cell;have bC:=G (show(vT (List.replicate L (0:UInt8)) 0 f.code).length=L by rw[ng (by rw[aC,aO.out];omega),aC]);generalize vT (List.replicate L (0:UInt8)) 0 f.code=bu at*;by_cases hUL:U=L
  ·subst hUL;have bm:m=0:=Qa
   subst bm;have az:f.data=[]:=aX ap.out;have bE:=G (show V=bu by rw[aP.out,az,sm]);have bv:=G (show Sl w B K [] by have:=ao.out;rw[az]at this;exact this);clear aP az ao ap aK;refine aB 8 5 [(4,λv=>v= .int .i64 (U:Int),λ_ _=>True)] mixed Qb ⟨λ_ _ _ _ _=>trivial,trivial⟩ ?_;repeat (refine sx ?_ (λa d=> ?_) ?_;rotate_left;(focus have y:=(q.out.ext d.un).cell;clear d;go_simp<;>with_reducible rfl);simp only[bA,bx,bw,br,bo])
   refine so (λax d z u I=> ?_) ?_
   ·clear z d;go_simp;refine(am.out ax).mono ?_;rintro e av ⟨rfl,rfl⟩;exact I _ _ (aG _) rfl trivial
   rintro _ rfl;simp only[bA,bx,bw,br,bo];repeat (refine sx ?_ (λa d=> ?_) ?_;rotate_left;(focus have y:=(q.out.ext d.un).cell;clear d;go_simp<;>with_reducible rfl);simp only[bA,bx,bw,br,bo])
   intro aR Z z;have A:=G Z.un;clear z Z;simp only[ae,aw];refine kA bt rfl _ _ rfl a.heap.size 0 0 0 rfl _ (a8.out.ext A.out) B K 0 [] rfl rfl (bv.out.ext (al.out.trans A.out)) Qa Qa λav bg F ab=> ?_;rw[sm]at F;have ag:=G F;have af:=G ((al.out.trans A.out).grown ab λk e=>by injection e with e;omega);clear F ab y;go_wp2_with fail
   go_meet
   exact⟨by rw[bE.out];exact ag,af⟩
  ·have bT:U<L:=Qa
   have bU:(U:Int)<=L:=Qa
   refine aB 8 5 [(4,λv=>v= .int .i64 (U:Int),λ_ _=>True)] mixed Qb ⟨λ_ _ _ _ _=>trivial,trivial⟩ ?_;repeat (refine sx ?_ (λa d=> ?_) ?_;rotate_left;(focus have y:=(q.out.ext d.un).cell;clear d;go_simp<;>with_reducible rfl);simp only[bA,bx,bw,br,bo])
   refine so (λax d z u I=> ?_) ?_
   ·clear z d;go_simp;refine(am.out ax).mono ?_;rintro e av ⟨rfl,rfl⟩;exact I _ _ (aG _) rfl trivial
   rintro _ rfl;simp only[bA,bx,bw,br,bo];repeat (refine sx ?_ (λa d=> ?_) ?_;rotate_left;(focus have y:=(q.out.ext d.un).cell;clear d;go_simp<;>with_reducible rfl);simp only[bA,bx,bw,br,bo])
   intro aR Z z;have A:=G Z.un;clear z Z;simp only[ae,aw];refine kA bt rfl _ _ rfl a.heap.size U (L-U) (L-U) (by show Value.slice (if L=U then _ else _) _ _=_;rw[if_neg (λe=>hUL e.symm)]) _ (a8.out.ext A.out) B K m f.data ap.out rfl (ao.out.ext (al.out.trans A.out)) (by rw[bC.out];omega) Qa λav bg F ab=> ?_;have ag:=G F;have af:=G ((al.out.trans A.out).grown ab λk e=>by injection e with e;omega);clear F ab y;go_wp2_with fail
   go_meet
   exact⟨by rw[aP.out];exact ag,af⟩
 case rest=>
  obtain⟨ag,af⟩:=hcut;clear ah R q y aK ao aO ap am;have bB:=G (show wc.ownsRow w.heap.size 36 1 (.slice none 0 0) 0 (Fd a.heap.size 0)from World.ownsRow_nil wc _ _ _)
  go_upto_region 7 with fail
  go_loopw [4,5] (λbh ay wr=> ∃(j:Nat) (X:Option Addr) (M:Nat),ay= .int .i64 ((128*j:Nat):Int)/\bh= .slice X j M/\j<=o/\Hid (wr.ownsRow w.heap.size 36 1 (.slice X j M) j (Fd a.heap.size j))/\Hid (Rw wr a.heap.size 5 V)/\Hid (au w wr)/\Hid ((Value.slice X j M).ownBlock≠some a.heap.size)) (λ_ ay _=>L-(intOf ay).toNat)
  case atStart=>exact⟨0,none,0,rfl,rfl,aD _,bB,ag,af,G (by simp[Value.ownBlock])⟩
  case round=>
   obtain⟨j,X,M,rfl,rfl,bP,bb,aL,aJ,bf⟩:=hrel;have bV:=bD.out;by_cases hlt:j<o
   ·have aZ:((128*j:Nat):Int)<(L:Int):=Qa
    have aM:=G (show Dp a.heap.size j= .slice (some ⟨a.heap.size,128*j,none⟩) 128 128 from rfl);obtain⟨u,I⟩: ∃u,128*j=u:=⟨_,rfl⟩
    rw[I]at aZ aM⊢;have b5:u+128<=L:=Qa
    have bj:IntKind.i64.wrap ((u:Int)+128)=u+128:=Qc
    have b4:(u:Int)+128<=L:=Qa
    have bZ:(u:Int)<=u+128:=Qa
    have bO: ¬(u+128=u):=Qa
    have ad:=aa wr (.cells #[Dp a.heap.size j] 36);have aN:=G (World.ownsRow.kept bb.out (ad.grownBy none) (by cases (Value.ownBlock (.slice X j M))<;>simp));have a9:=G (aL.out.ext ad);have a7:=G (aJ.out.trans ad);have bc:=G (show(wr.alloc (.cells #[Dp a.heap.size j] 36)).heap[wr.heap.size]? =some (.cells [Dp a.heap.size j].toArray 36 (0,0))from aq wr _ _);have bR:=aL.out.lt;have bL:=aJ.out.size;have bk:(wr.alloc (.cells #[Dp a.heap.size j] 36)).heap.size=wr.heap.size+1:=World.size_alloc _ _;rw[aM.out]at bc ad aN a9 a7 bk;clear ad
    go_upto_region 8 with(at_builtin;generalize ak:World.alloc wr _=b6 at*;refine eV JW rfl _ _ rfl w.heap.size (.slice X j M) j (Fd a.heap.size j) rfl aN.out wr.heap.size [.slice (some ⟨a.heap.size,u,none⟩) 128 128] rfl bc.out rfl Ql Qa Qd Qa λbH bq aR aV a2 a6=> ?_;have ba:=G aV;have be:=G a2;have bG:=G a6;clear aV a2 a6 ak)
    rw[<-aM.out,AS]at ba;have ah:=G (a9.out.grown be.out (λe=>bf.out e.symm))
    have R:=G (a7.out.grown be.out λk e=>by
     have bp:=aN.out;rcases bp.2 with⟨aI,_⟩|⟨g',cap',cur,aI,h3,_⟩
     ·rw[aI]at e;simp[Value.ownBlock]at e
     ·rw[aI]at e;simp[Value.ownBlock]at e;omega)
    have bF:=G (show(Value.slice (some ⟨bH,0,none⟩) (j+1) bq).ownBlock≠some a.heap.size from λe=>by
     simp[Value.ownBlock]at e;rcases bG.out with J|J
     ·rw[e]at J;exact bf.out J.symm
     ·omega)
    go_wp2_with fail;go_roundw
    case rel=>exact⟨j+1,_,_,by rw[<-I];go_num,rfl,by omega,ba,ah,R,bF⟩
    case measure=>simp[intOf];omega
   ·obtain rfl:j=o:=Qa
    have aZ: ¬((128*j:Nat):Int)<(L:Int):=Qa
    go_wp2_with fail;go_ret;exact⟨_,_,rfl,bb.out,aL.out,aJ.out⟩
def df (f:py) (R:Rs) (n:Nat):Oc×Int:=if gv f=true then(tS (ph f).toNat R n ⟨Bf f.code f.data (lW f.code.length).toNat,tI f.entry,0⟩,0)else(⟨0,0,0,0,0,[],0⟩,1)
def zE (l:List UInt8) (k:Nat):lq:=λi=>if i<k then l.getD i 0 else 0
theorem Be (l:List UInt8):zE l 0=λ_=>0:=by funext i;simp[zE]
theorem DD (l:List UInt8) (k n:Nat) (d:k+n<=l.length):lf (zE l k) k ((l.drop k).take n)=zE l (k+n):=by
 funext i;unfold lf zE;have a:((l.drop k).take n).length=n:=Qg
 rw[a];by_cases h1:k<=i/\i<k+n
 ·rw[if_pos h1,if_pos Qa];simp only[bP,b_,gI];rw[if_pos Qa,show k+(i-k)=i by omega]
 ·rw[if_neg h1];by_cases h2:i<k
  ·rw[if_pos h2,if_pos Qa]
  ·rw[if_neg h2,if_neg Qa]
theorem Ar {L:List UInt8} {off:Nat} {b:List UInt8} (a:off+b.length<=L.length) (i:Nat):(vT L off b).getD i 0=if off<=i/\i<off+b.length then b.getD (i-off) 0 else L.getD i 0:=by
 unfold vT;simp only[bP,fW,bC,b_,gI];rw[show min off L.length=off by omega];by_cases h1:i<off
 ·rw[if_pos h1,if_pos h1,if_neg Qa]
 ·rw[if_neg h1];by_cases h2:i-off<b.length
  ·rw[if_pos h2,if_pos Qa]
  ·rw[if_neg h2,if_neg Qa,show off+b.length+(i-off-b.length)=i by omega]
theorem Hz {f:py} {U L:Nat} (o:f.code.length<=U) (h:U+f.data.length<=L):zE (F4 f U L) L=Bf f.code f.data U:=by
 funext i;have a:(List.replicate L (0:UInt8)).length=L:=ip ..;have d: ∀j,(List.replicate L (0:UInt8)).getD j 0=0:=λj=>by
  rw[bP,List.getElem?_replicate];split<;>rfl
 unfold zE Bf F4;rw[Ar (by rw[ng (by rw[a];omega),a];omega),Ar (by rw[a];omega),d];by_cases c1:i<f.code.length
 ·rw[if_pos c1,if_pos Qa,if_neg Qa,if_pos Qa,Nat.sub_zero]
 ·rw[if_neg c1];by_cases c2:U<=i/\i<U+f.data.length
  ·rw[if_pos c2,if_pos c2,if_pos Qa]
  ·rw[if_neg c2,if_neg c2,if_neg (show ¬(0<=i/\i<0+f.code.length) by omega)];split<;>rfl
theorem AI (sz:Int) (g:Rg) (a:Option Addr) (n c:Nat):prog.built 113 [(1, .int .i64 sz),(2, .agg g.cs),(3, .slice a n c)]=some (lk (λ_=>0)++oh sz g (.slice a n c) (oz 0)).toArray:=by
 kernel_rfl
theorem yZ {g:Rg} {ld:Int} {b0 b1 b2 b3:UInt8} (o:0<=g.pc/\g.pc<=4096) (d:nY g): -5000000000<=(oG g ld (fH b0 b1 b2 b3)).1.pc/\(oG g ld (fH b0 b1 b2 b3)).1.pc<=5000000000:=by
 cases hd:fH b0 b1 b2 b3 with
 |none=>simp only[oG];omega
 |some x=>
  have h:=(qy hd).v;unfold oG;simp only;repeat' split
  all_goals try (simp only[Rg.upd];omega)
  ·unfold H_;have:=d x.a.toNat;split
   ·simp only;omega
   ·cases (g.r x.a.toNat==0)<;>simp only[cond]<;>omega
   ·simp only;omega
   ·simp only[wrap64];omega
structure wX (R:Rs) (s:Ru):Prop where
 g:nY s.g
 pc: -5000000000<=s.g.pc/\s.g.pc<=5000000000
 u:s.used<=R.length
theorem FD {sz:Nat} {a:Rs} {t:wW} {s s':Ru} (d:wX a s) (e:E8 sz a t s= .ok s'):wX a s':=by
 unfold E8 at e;split at e
 ·cases e
 split at e
 ·cases e
 split at e
 ·cases e
 ·rename_i r o;simp only at e;split at e
  ·cases e
  ·injection e with e;subst e;have h:s.used<a.length:=(List.getElem?_eq_some_iff.1 o).1;refine⟨λi=> ?_,d.pc,h⟩;unfold Rg.reply;simp only;split
   ·have:=xg r.1;unfold Iy at this;omega
   ·exact d.g i
theorem C_ {sz:Nat} {y:Rs} {s s':Ru} (d:wX y s) (e:p4 sz y s= .ok s'):wX y s':=by
 rw[xn]at e;split at e
 ·cases e
 rename_i z
 have A:=jN (sz:=sz) (a:=s.g.pc) (n:=4) (by
  cases hm:gC sz s.g.pc 4 with
  |true=>rfl
  |false=>exact absurd (.inr hm) z) Qd
 split at e
 ·cases e
 have o:=(BC (g:=s.g) (ld:=xB s (rP s)) (b0:=s.m s.g.pc.toNat) (b1:=s.m (s.g.pc.toNat+1)) (b2:=s.m (s.g.pc.toNat+2)) (b3:=s.m (s.g.pc.toNat+3)) d.g Qa).1;have h:=yZ (g:=s.g) (ld:=xB s (rP s)) (b0:=s.m s.g.pc.toNat) (b1:=s.m (s.g.pc.toNat+1)) (b2:=s.m (s.g.pc.toNat+2)) (b3:=s.m (s.g.pc.toNat+3)) Qa d.g;change nY (oG s.g (xB s (rP s)) (rP s)).1 at o;change-5000000000<=(oG s.g (xB s (rP s)) (rP s)).1.pc/\(oG s.g (xB s (rP s)) (rP s)).1.pc<=5000000000 at h;unfold BD at e;split at e
 ·cases e
 split at e
 ·exact FD (s:=⟨_,_,s.used⟩) ⟨o,h,d.u⟩ e
 ·injection e with e;subst e;exact⟨o,h,d.u⟩
theorem AG {w:World} {base n:Nat} {e:TypeId} {v:Value} {xs:List Value} (o:w.ownsRow base e 1 v n xs) (u:0<n): ∃g h,v= .slice (some ⟨g,0,none⟩) n h/\base<=g/\g<w.heap.size/\n<=h/\ ∀i x,xs[i]? =some x->w.cell? ⟨g,i,none⟩=some x:=by
 rcases o.2 with⟨d,y⟩|⟨g,c,cur,d,hb,hg,hnc,_,_,ht⟩
 ·omega
 ·refine⟨g,c,d,hb,(Array.getElem?_eq_some_iff.1 hg).1,hnc,λi x a=> ?_⟩;rw[cell_of_row w g i cur e (0,0) hg];rw[<-ht,b_]at a;split at a
  ·simpa using a
  ·cases a
theorem vD {P:Program} {w:World} {ops:Array Oper} {rest:List Oper} {a:Oper} {h:Act} {Q:Exit->Act->World->Prop} (z:a.guard=none) (t:TypeId) (d:Array (Nat×Operand)) (y:a.op= .build t d) (u:Array Value)
  (o:P.built t (d.map fun(i,x)=>(i,h.eval x)).toList=some u) (F:wpList P ops Q rest (h.put a.dst (.agg u)) w):wpList P ops Q (a::rest) h w:=
 wpList_plain z λG A=>wp_build t d y (by rw[o];rfl) (by rw[o];exact A _ _ F)
theorem FJ (n:Int):nY (tI n):=λi=>by unfold tI;simp only;split<;>omega
theorem Ht {w:World} {g:Nat} {e:TypeId} {l:List UInt8} (a:Rw w g e l) (off n c:Nat) (y:off+n<=l.length) (u:n<=c) (h:c<=maxLen):Sl w (some ⟨g,off,none⟩) c ((l.drop off).take n):=by
 have d:((l.drop off).take n).length=n:=Qg
 refine⟨by rw[d];exact u,h,(λa=>by cases a), .inr ⟨g,off,rfl,a.lt,λi o=> ?_⟩⟩;rw[d]at o;rw[cell_of_row w g (off+i) _ e (0,0) a];simp[im,qQ,show off+i<l.length by omega]
theorem Hm {w:World} {h:Option Addr} {c g:Nat} {l:List UInt8} {t:TypeId} (A:Sl w h c l) (u:aM w g t #[.int .i64 0, .int .i64 0, .int .i64 0, .int .i64 0, .int .i64 0, .slice none 0 0, .int .i64 0]) (b i:Nat) (e:h=some ⟨b,i,none⟩) (d:l≠ []):b≠g:=by
 rintro rfl;rcases A.rd with a|⟨b',o,ha,_,hc⟩
 ·exact d a
 ·rw[e]at ha;injection ha with ha;injection ha with z y;subst z y;have a:=hc 0 (List.length_pos_iff.2 d);rw[u.cell,bm]at a
  iterate 7 (rcases i with _|i;(simp at a))
  simp at a
theorem RB.outs {w:World} {b:Nat} {u:lq} {sz:Int} {g:Rg} {d:Value} {a:List Value} (o:RB w b u sz g d a):w.rangeAt b 4115 a:=λj v h=>(o.out j).trans h
theorem wD {w:World} {g:Nat} {u0 u1 u2 u3 u4 u5 u6:Value} (a:Hid (aM w g 49 #[u0,u1,u2,u3,u4,u5,u6])):(loadVar 49 ⟨g,0,none⟩).run prog w= .ok (.agg #[u0,u1,u2,u3,u4,u5,u6]) w:=
 run_loadVar_row w g _ _ _ _ _ a underlying49 rfl Qb
theorem rq (f:py) (aK B:Option Addr) (c aE:Nat) (a:Rs) (bb:Value) (N:Nat) (cR:N<=1000000000) (w:World) (av:FT w) (ar:Sl w aK c f.code) (aP:Sl w B aE f.data) (aO:f.code.length<=1000000000) (X:f.data.length<=1000000000) (a3:tL w (λ_=>True) bb a) (ad:a.length<=1000000000):
  Calls prog 18 #[f.val aK B c aE,bb, .int .i64 (N:Int)] w λe w'=>au w w'/\ ∃bQ c2,e= .returned (.tuple #[.agg (Jk (df f a N).1 bQ c2).toArray, .int .i64 (df f a N).2])/\Sl w' bQ c2 (df f a N).1.data:=by
 have ax:=G (λW (z:au w W)=>mU f aK B c aE W (av.ext z) (ar.ext z) aO X);have bM:=G av;have cr:=G ar;have cp:=G aP;have a6:=G (a3.mono (Q:=λb=>b<w.heap.size) λb _ z=>z);have aU:=G (show df f a N=if gv f=true then(tS (ph f).toNat a N ⟨Bf f.code f.data (lW f.code.length).toNat,tI f.entry,0⟩,0)else(⟨0,0,0,0,0,[],0⟩,1)from rfl);generalize df f a N=bP at*
 cases hv:gv f with
 |false=>
  have ab:=G (show bP=(⟨0,0,0,0,0,[],0⟩,1) by rw[aU.out,if_neg (by rw[hv];decide)]);rw[hv]at ax;clear aU av ar aP a3 hv;unfold py.val at*;go_enter func18,ntmps18
  go_upto_region 1 with fail
  generalize A:World.alloc (World.alloc w _) _=W0;obtain⟨d,q,F,s⟩:=It A;replace d:=G d;clear A;have R:=q.out.cell;go_wp2_with (first|(go_at_call 41;refine(ax.out _ d.out).mono ?_;rintro e aM ⟨rfl,o⟩;replace d:=kx d o;replace F:=kb F o;clear ax R o;have c1:=F.out.cell;have cl:=F.out.frozen));generalize A:World.setCell _ _ _=W8;obtain⟨bT,aA,aj⟩:=mG A F;have cg:=aj _ d Qa;have ad:=wD bT;clear A aA aj c1 cl;refine bodyPost_ret (v:= .tuple #[.agg #[.int .i64 0, .int .i64 0, .int .i64 0, .int .i64 0, .int .i64 0, .slice none 0 0, .int .i64 0], .int .i64 1]) ?_ rfl ⟨cg.out,none,0,by rw[ab.out];rfl,by rw[ab.out];exact eI _⟩;simp[results,results18,asAddr,ad,Act.put]
 |true=>
  obtain⟨y,Z,bR,bd,U,H,u1,u2⟩:=Ie hv;obtain⟨_,_,_,_,e0,cn,_⟩:=se hv;have ab:=G (show bP=(tS (128*y) a N ⟨Bf f.code f.data U,tI f.entry,0⟩,0) by rw[aU.out,if_pos hv,Z,H];rfl);have bu:=G (λW (z:au w W)=>rO f aK B c aE y W (av.ext z) (ar.ext z) hv aO X Z bd);have bF:=G (λW (z:au w W)=>wI f aK B c aE y U W (av.ext z) (ar.ext z) (aP.ext z) hv aO X Z bR bd H u1 u2);have bH:=G (Hz (L:=128*y) u1 u2)
  have ay:=G (show(F4 f U (128*y)).length=128*y by
   unfold F4;have V:(List.replicate (128*y) (0:UInt8)).length=128*y:=ip ..
   rw[ng (by rw[ng (by rw[V];omega),V];omega),ng (by rw[V];omega),V])
  have bz:=G (λW=>yk f.entry W);rw[hv]at ax;obtain⟨M,J,K,rfl,b6⟩:=a6.out.form;have cA:=G (show-5000000000<=f.entry/\f.entry<=5000000000 by omega);have bv:=G (fun(W:World) (b:Nat) (s:Ru) (cf:RB W b s.m (128*y:Nat) s.g (.slice M J K) (oz s.used)) (cd:FT W) (V:tL W (λk=>k≠b) (.slice M J K) a) (aY:wX a s)=>Al b s.m (128*y) s.g (.slice M J K) s.used a W cf cd V aY.u ad Qa aY.g aY.pc);clear aU av ar aP a3 hv aO X Z H u1 u2 ad b6 e0 cn cr cp;unfold py.val at*;rw[<-bH.out]at ab;clear bH;generalize F4 f U (128*y)=ak at*;generalize f.code.length=n at*;generalize f.data.length=m at*;generalize f.zero=cC at*;generalize f.entry=en at*;obtain⟨L,aQ⟩: ∃L,128*y=L:=⟨_,rfl⟩
  have cH:IntKind.i64.wrap ((y:Int)*128)=(L:Int):=by rw[<-aQ];simp[IntKind.wrap,IntKind.signed,IntKind.bits];omega
  rw[aQ]at ab ay bv;have bJ:=G aQ;clear aQ;go_enter func18,ntmps18
  go_upto_region 1 with fail
  generalize A:World.alloc (World.alloc w _) _=W0;obtain⟨d,q,F,s⟩:=It A;replace d:=G d;clear A;have R:=q.out.cell
  go_upto_region 3 with(first|(go_at_call 41;refine(ax.out _ d.out).mono ?_;rintro e aM ⟨rfl,o⟩;replace d:=kx d o;replace F:=kb F o;replace q:=kb q o;clear ax R o;have R:=q.out.cell))
  refine aB 7 6 [(1,λv=>v= .int .i64 (y:Int),λ_ _=>True),(5,λv=>v= .agg (tI en).cs,λ_ _=>True)] mixed Qb ⟨λ_ _ _ _ _=>trivial,λ_ _ _ _ _=>trivial,trivial⟩ ?_;repeat (refine sx ?_ (λaM H=> ?_) ?_;rotate_left;(focus have R:=(q.out.ext H.un).cell;clear H;go_simp<;>with_reducible rfl);simp only[bA,bx,bw,br,bo])
  refine so (λai H Z I am=> ?_) ?_
  ·clear Z;go_simp;refine(bu.out ai (d.out.trans H.un)).mono ?_;rintro e aV ⟨rfl,o⟩;exact am _ _ o rfl trivial
  rintro _ rfl;simp only[bA,bx,bw,br,bo];repeat (refine sx ?_ (λaM H=> ?_) ?_;rotate_left;(focus have R:=(q.out.ext H.un).cell;clear H;go_simp<;>with_reducible rfl);simp only[bA,bx,bw,br,bo])
  refine so (λai H Z I am=> ?_) ?_
  ·clear Z;go_simp;refine(bz.out ai).mono ?_;rintro e aV ⟨rfl,o⟩;exact am _ _ o rfl trivial
  rintro _ rfl;simp only[bA,bx,bw,br,bo];repeat (refine sx ?_ (λaM H=> ?_) ?_;rotate_left;(focus have R:=(q.out.ext H.un).cell;clear H;go_simp<;>with_reducible rfl);simp only[bA,bx,bw,br,bo])
  intro al aN Z;replace d:=kx d aN.un;replace F:=kb F aN.un;replace q:=kb q aN.un;clear Z aN bu bz R;simp only[ae,aw];refine vD rfl 113 _ rfl _ (by simp only[dt,b7,du];exact(congrArg (Program.built prog 113) (show _=[(1,Value.int .i64 (L:Int)),(2, .agg (tI en).cs),(3, .slice M J K)]from rfl)).trans (AI (L:Int) (tI en) M J K)) ?_
  go_upto_region 4 with fail
  have cP:w.heap.size+1<al.heap.size:=F.out.lt;have bI:=G (show ∀W,Mv (λk=>k=al.heap.size) (al.alloc (.cells (lk (λ_=>0)++oh (L:Int) (tI en) (.slice M J K) (oz 0)).toArray 113)) W->au w W from λW X=>((cQ d.out).trans ((cQ (aa al _)).trans X)).ext λk aZ e=>by omega);generalize A:World.alloc al _=bt at*;obtain⟨o,bc,cG⟩:=kZ A;replace d:=kx d o;replace F:=kb F o;replace q:=kb q o;have a9:=G (show RB bt al.heap.size (λ_=>0) (L:Int) (tI en) (.slice M J K) (oz 0)from bc.out);generalize al.heap.size=b at*;clear A o bc;have R:=q.out.cell
  go_upto_region 5 with(go_at_call 44;refine(bF.out _ d.out).mono ?_;rintro e ai ⟨an,cE,rfl,bh,bj,o⟩;obtain⟨ck,cT,rfl,cM,ca,cN,bi⟩:=AG bh Qa;have bE:=G bi;have aR:=G bj;have az:=G o;clear bF bh bj o R bi)
  have cO:b<bt.heap.size:=qP a9.out;have aT:=G (a9.out.ext az.out);have bf:=kb F az.out;have cc:=aR.out.lt;have bK:=G (bM.out.ext (d.out.trans az.out));have ct:=G (show tL ai (λk=>k≠b) (.slice M J K) a from(a6.out.keep ((cQ (S:=λk=>k=b) (d.out.trans az.out)).keepP λk z _=>by omega)).mono λk z _=>by omega);have cb:an≠b:=λe=>by
   have aC:some _=some _:=aR.out.symm.trans (e▸aT.out);injection aC with aC;injection aC with aC _ _;have ci:=congrArg Array.size aC;rw[fQ,fQ,ac,cj,jA,ay.out]at ci;have:=bJ.out;omega
  have ch:=Fi bK.out aT.out;clear a9 q d F bM a6;have bO:=G (show RB ai b (zE ak (128*0)) (L:Int) (tI en) (.slice M J K) (oz 0) by rw[Nat.mul_zero,Be];exact aT.out)
  go_loopw [27] (λv wr=> ∃j:Nat,v= .int .i64 (j:Int)/\j<=y/\Hid (RB wr b (zE ak (128*j)) (L:Int) (tI en) (.slice M J K) (oz 0))/\Hid (Mv (λk=>k=b) ai wr)) (λv _=>y-(intOf v).toNat)
  case atStart=>exact⟨0,rfl,aD _,bO,G (gn _ _)⟩
  case round=>
   obtain⟨j,rfl,cL,aI,aH⟩:=hrel;clear bO aT;have cy:=bJ.out;by_cases hlt:j<y
   ·have b9:(j:Int)<(y:Int):=Qa
    obtain⟨I,am⟩: ∃I,128*j=I:=⟨_,rfl⟩
    have aX:=bE.out j (Dp an j) (by simp[Fd,hlt]);have cu:=G (show Dp an j= .slice (some ⟨an,I,none⟩) 128 128 by rw[<-am];rfl);rw[cu.out]at aX;have ce:=((aH.out.keepP (P:=λk=>k≠b) λk z _=>z).cell j (show ck≠b by omega) ca).trans aX;have cv:=G (show Rw wr an 5 ak from(aH.out.block an cc cb).trans aR.out);have ag:=G (Ht cv.out I 128 128 (by rw[ay.out];omega) Qd Qd);have b4:IntKind.i64.wrap ((j:Int)*128)=(I:Int):=by rw[<-am];simp[IntKind.wrap,IntKind.signed,IntKind.bits];omega
    have cI:=λw=>Hn b I Qa w;have cx:=G (show((ak.drop I).take 128).length=128 by simp[ay.out];omega);rw[am]at aI
    go_upto_region 8 with(refine m' rfl _ _ rfl aI.out I (4096-I) (4096-I) rfl (some ⟨an,I,none⟩) 128 128 ((ak.drop I).take 128) cx.out rfl ag.out Qa Qa λaV cF bp bk _=> ?_;have bN:=G bp;have cw:=G (aH.out.trans bk);clear bp bk ce aX)
    rw[DD _ _ _ (by rw[ay.out];omega)]at bN;have cB:=G (show RB aV b (zE ak (128*(j+1))) (L:Int) (tI en) (.slice M J K) (oz 0) by rw[show 128*(j+1)=I+128 by omega];exact bN.out);go_wp2_with fail;go_roundw
    case rel=>exact⟨j+1,by go_num,by omega,cB,cw⟩
    case measure=>simp[intOf];omega
   ·obtain rfl:j=y:=Qa
    have b9: ¬(j:Int)<j:=Qa
    rw[cy]at aI;generalize wr=cD at*;obtain⟨O,af⟩: ∃O,tS L a N ⟨zE ak L,tI en,0⟩=O:=⟨_,rfl⟩
    rw[af]at ab;have bG:=G af;have bC:=G (show wX a ⟨zE ak L,tI en,0⟩from⟨FJ en,cA.out,aD _⟩);clear af bE aR ay
    go_upto_region 9 with fail
    go_loopw [2] (λv wr=> ∃(k:Nat) (s:Ru),v= .int .i64 (k:Int)/\k<=N/\Hid (RB wr b s.m (L:Int) s.g (.slice M J K) (oz s.used))/\Hid (wX a s)/\Hid (tS L a k s=O)/\Hid (Mv (λk=>k=b) ai wr)) (λv _=>(intOf v).toNat)
    case atStart=>exact⟨N,_,rfl,ah _,aI,bC,bG,aH⟩
    case round=>
     obtain⟨k,s,rfl,aZ,aS,bD,a7,aG⟩:=hrel;clear aI bC bG aH;have bl: ¬w.heap.size+1=b:=Qa
     rcases k with _|k
     ·have af:O=⟨3,0,0,0,0,[],s.used⟩:=a7.out.symm;have b8: ¬(0:Int)<0:=Qa
      have R:=aS.out.out 0;have cm:=aS.out.frz 4115;simp only[bm,oz,cK]at R;have aJ:=G (show RB (wr.setCell ⟨b,4115,none⟩ (.int .i64 3)) b s.m (L:Int) s.g (.slice M J K) [.int .i64 3, .int .i64 0, .int .i64 0, .int .i64 0, .int .i64 0, .slice none 0 0, .int .i64 (s.used:Int)]from aS.out.setOut 0 (.int .i64 3));have ap:=G (aG.out.trans (DA wr b 4115 (.int .i64 3)))
      go_upto_region 14 with fail
      generalize World.setCell wr _ _=bq at*;have aq:=G (oT ap.out bf.out bl);clear R cm;go_wp2_with (first|(refine wpList_load_mid rfl 49 _ rfl b 4115 rfl _ _ aJ.out.outs underlying49 rfl Qb ?_)|(refine wpList_store_row rfl 49 _ _ rfl _ _ rfl rfl _ _ aq.out Qb rfl Ql ?_;generalize A:World.setRow bq _ _=W10;obtain⟨aW,_,aA,aj⟩:=qJ A aq));have ad:=wD aW;have a1:=G (bI.out bq ((cQ az.out).trans ap.out));have a2:=aj _ a1 Qa;clear A aA aj;refine bodyPost_ret (v:= .tuple #[.agg #[.int .i64 3, .int .i64 0, .int .i64 0, .int .i64 0, .int .i64 0, .slice none 0 0, .int .i64 (s.used:Int)], .int .i64 0]) ?_ rfl ⟨a2.out,none,0,by rw[ab.out,af];rfl,by rw[ab.out,af];exact eI _⟩;simp[results,results18,asAddr,ad,Act.put]
     ·have b8:(0:Int)<((k+1:Nat):Int):=Qa
      have b4:IntKind.i64.wrap (((k+1:Nat):Int)-1)=(k:Int):=Qc
      have cJ:(0:Int)<(k:Int)+1:=Qa
      have bL:=G (show FT wr from bK.out.mv ch aG.out);have ao:=G (show tL wr (λk=>k≠b) (.slice M J K) a from ct.out.keep (aG.out.keepP λk z _=>z));have ag:=G (bv.out wr b s aS.out bL.out ao.out bD.out);have aF:=G (show O=match p4 L a s with| .error F=>F| .ok s'=>tS L a k s' from a7.out.symm);have a8:=G (λs' (z:p4 L a s= .ok s')=>C_ bD.out z);have bB:=G (show p4 L a ⟨s.m,s.g,s.used⟩=p4 L a s from rfl);rw[bB.out]at ag;clear bB a7 bL ao
      cases hst:p4 L a s with
      |error oc=>
       rw[hst]at ag aF;have af:O=oc:=aF.out;clear hst a8
       go_upto_region 12 with(go_at_call 45;refine ag.out.mono ?_;rintro e aL ⟨X,rfl,V⟩;have ap:=G (aG.out.trans X);have ao:=G V;clear ag X V)
       obtain⟨cU,cS,ba,a4,bn,bg⟩:=ao.out;have aJ:=G bn;have a5:=G bg;clear bn bg ao;have aq:=G (oT ap.out bf.out bl);obtain⟨bY,bX,bW,bV,bU,be,bS⟩:=oc;unfold Jk at aJ;simp only at aJ a5;go_wp2_with (first|(refine wpList_load_mid rfl 49 _ rfl b 4115 rfl _ _ aJ.out.outs underlying49 rfl Qb ?_)|(refine wpList_store_row rfl 49 _ _ rfl _ _ rfl rfl _ _ aq.out Qb rfl Ql ?_;generalize A:World.setRow aL _ _=W10;obtain⟨aW,_,aA,aj⟩:=qJ A aq));have ad:=wD aW;have a1:=G (bI.out aL ((cQ az.out).trans ap.out));have a2:=aj _ a1 Qa
       have cq:=G (show Sl W10 ba a4 be from by
        subst A
        refine a5.out.keepP (P:=λk=>k≠w.heap.size+1) ⟨by simp,λk aZ ad=>setRow_other aL _ k _ aZ⟩ λb1 bZ e b5=>Hm a5.out aq.out b1 bZ e b5)
       clear A aA aj;refine bodyPost_ret (v:= .tuple #[.agg #[.int .i64 bY, .int .i64 bX, .int .i64 bW, .int .i64 bV, .int .i64 bU, .slice ba be.length a4, .int .i64 (bS:Int)], .int .i64 0]) ?_ rfl ⟨a2.out,ba,a4,by rw[ab.out,af];rfl,by rw[ab.out,af];exact cq.out⟩;simp[results,results18,asAddr,ad,Act.put]
      |ok s'=>
       rw[hst]at ag aF;have co:=G (show tS L a k s'=O from aF.out.symm);have cz:=G (a8.out s' hst);clear hst a8 aF;go_wp2_with (go_at_call 45;refine ag.out.mono ?_;rintro e aL ⟨X,rfl,V⟩;have ap:=G (aG.out.trans X);have ao:=G V;clear ag X V);go_roundw
       case rel=>exact⟨k,s',by go_num,by omega,ao,cz,co,ap⟩
       case measure=>simp[intOf]
def mS (x:dl):List Value:=[.int .i64 x.op, .int .i64 x.a, .int .i64 x.b, .int .i64 x.c, .int .i64 x.v]
def gy (l:List dl):List Value:=l.flatMap mS
def nz (p:Nat×Nm):List Value:=[.int .i64 (p.1:Int), .string (ak p.2)]
def fO (l:List (Nat×Nm)):List Value:=l.flatMap nz
def gx (l:List (Nm×Int)):KF:=λs=>(gA l s).map (.int .i64 ·)
def nZ (w:World) (b:Nat) (L:KF) (n:Nat):Prop:=cB w b L/\ ∃es clock,w.heap[b]? =some (.map es clock)/\es.size=n
theorem nZ.obj {w w':World} {b n:Nat} {L:KF} (d:nZ w b L n) (a:w'.heap[b]? =w.heap[b]?):nZ w' b L n:=let⟨h1,es,c,h2,h3⟩:=d;⟨h1.obj a,es,c,a.trans h2,h3⟩
structure CC where
 c:Nat
 base:Nat
 va:Value
 fa:Value
 bp:Nat
 bs:Nat
 ba:Nat
 pl:List (Nm×Int)
 sz:List (Nm×Int)
def CH:Value->Option Nat
 | .map b=>b
 | _=>none
def bJ (k:CC) (vc vt vl vd vs:Value):List (Option Nat):=[some k.c,some k.bp,some k.bs,some k.ba,CH vs,vc.ownBlock,vt.ownBlock,vl.ownBlock,vd.ownBlock]
structure i' (k:CC) (at_:List (Nm×Int)) (vc vt vl vd vs:Value) (w:World) (s:CS):Prop where
 blk:aM w k.c 95 #[k.va,k.fa,vc,vt, .map (some k.bp), .map (some k.bs), .map (some k.ba),vl,vd,vs, .int .i64 s.frame]
 code:w.ownsRow k.base 159 5 vc s.code.length (gy s.code)
 tx:gT w k.base 5 vt s.tx
 calls:w.ownsRow k.base 155 2 vl s.calls.length (fO s.calls)
 dats:w.ownsRow k.base 155 2 vd s.dats.length (fO s.dats)
 pl:cB w k.bp (gx k.pl)
 sz:cB w k.bs (gx k.sz)
 at_:cB w k.ba (gx at_)
 sl:vs= .map none/\s.slots=[]/\s.frame=0\/ ∃b,vs= .map (some b)/\nZ w b (gx s.slots) s.slots.length
 nd:(bJ k vc vt vl vd vs).Pairwise λx y=>x=none\/x≠y
 lo: ∀b,some b∈bJ k vc vt vl vd vs->k.base<=b/\b<w.heap.size
def CX (k:CC) (at_:List (Nm×Int)) (O:Nat->Prop) (w:World) (s:CS):Prop:= ∃vc vt vl vd vs,i' k at_ vc vt vl vd vs w s/\ ∀b,O b↔some b∈bJ k vc vt vl vd vs
def eb (O:Nat->Prop) (w:World) (O':Nat->Prop) (w':World):Prop:=Mv O w w'/\ ∀b,O' b->O b\/w.heap.size<=b
def CP (k:CC) (at_:List (Nm×Int)) (O:Nat->Prop) (w:World) (s':CS) (w':World):Prop:= ∃O',CX k at_ O' w' s'/\eb O w O' w'
def LB (O:Nat->Prop) (w:World) (b:Nat) (t:TypeId) (cs:Array Value):Prop:=aM w b t cs/\ ¬O b
section
variable {k:CC} {at_:List (Nm×Int)} {O O' O2:Nat->Prop} {w w' w2:World} {s s' s2:CS} {vc vt vl vd vs:Value}
theorem eb.refl (O:Nat->Prop) (w:World):eb O w O w:=⟨gn _ _,λb a=> .inl a⟩
theorem eb.trans (a:eb O w O' w') (d:eb O' w' O2 w2):eb O w O2 w2:=
 ⟨a.1.tr d.1 λi u h=>(a.2 i h).resolve_right Qa,λb o=>(d.2 b o).elim (λe=>a.2 b e) λe=> .inr (ax a.1.size e)⟩
theorem eb.of_ext (a:au w w'):eb O w O w':=⟨.of_ext a,λb d=> .inl d⟩
theorem eb.ex (d:eb O w O' w') (a:au w' w2):eb O w O' w2:=d.trans (.of_ext a)
theorem eb.pre (a:au w w') (d:eb O w' O' w2):eb O w O' w2:=eb.trans (.of_ext a) d
theorem CX.lt (o:CX k at_ O w s) {b:Nat} (a:O b):k.base<=b/\b<w.heap.size:=by
 obtain⟨vc,vt,vl,vd,vs,h,d⟩:=o;exact h.lo b ((d b).1 a)
theorem CX.low (a:CX k at_ O w s) {b:Nat} (d:b<k.base): ¬O b:=λe=>by have:=(a.lt e).1;omega
theorem CX.new (a:CX k at_ O w s) {b:Nat} (d:w.heap.size<=b): ¬O b:=λe=>by have:=(a.lt e).2;omega
theorem i'.keep (a:i' k at_ vc vt vl vd vs w s) (z:w.heap.size<=w'.heap.size) (h: ∀b,some b∈bJ k vc vt vl vd vs->w'.heap[b]? =w.heap[b]?):i' k at_ vc vt vl vd vs w' s:=by
 have q: ∀{v:Value} {e:TypeId} {o n:Nat} {xs:List Value},v.ownBlock∈bJ k vc vt vl vd vs->w.ownsRow k.base e o v n xs->w'.ownsRow k.base e o v n xs:=λA u=>by
  refine⟨u.1,?_⟩;rcases u.2 with d|⟨g,cap,cur,rfl,d,h2,h3⟩
  ·exact .inl d
  ·exact .inr ⟨g,cap,cur,rfl,d,(h g A).trans h2,h3⟩
 refine⟨(h _ (by simp[bJ])).trans a.blk,q (by simp[bJ]) a.code,q (by simp[bJ]) a.tx,q (by simp[bJ]) a.calls,q (by simp[bJ]) a.dats,a.pl.obj (h _ (by simp[bJ])),a.sz.obj (h _ (by simp[bJ])),a.at_.obj (h _ (by simp[bJ])),?_,a.nd,λb y=>⟨(a.lo b y).1,aA (a.lo b y).2 z⟩⟩;rcases a.sl with d|⟨b,rfl,d⟩
 ·exact .inl d
 ·exact .inr ⟨b,rfl,d.obj (h b (by simp[bJ,CH]))⟩
theorem CX.ext (u:CX k at_ O w s) (a:au w w'):CX k at_ O w' s:=by
 obtain⟨vc,vt,vl,vd,vs,d,o⟩:=u;exact⟨vc,vt,vl,vd,vs,d.keep a.size λb h=>a.obj (d.lo b h).2,o⟩
theorem LB.new (d:CX k at_ O w s) (t:TypeId) (a:Array Value):LB O (w.alloc (.cells a t)) w.heap.size t a:=⟨aq w t a,d.new (ah _)⟩
theorem LB.ext {b:Nat} {t:TypeId} {d:Array Value} (a:LB O w b t d) (h:au w w'):LB O w' b t d:=⟨a.1.ext h,a.2⟩
theorem LB.st {b:Nat} {t:TypeId} {h:Array Value} (a:LB O w b t h) (d:eb O w O' w'):LB O' w' b t h:=⟨d.1.blk a.1 a.2,λe=>(d.2 b e).elim a.2 λe=>by have:=a.1.lt;omega⟩
theorem eb.keepP (h:eb O w O' w') (a:CX k at_ O w s):dE (λb=>b<k.base) w w':=h.1.keepP λb d _=>a.low d
end
theorem om {o:Nat}: ∀{l:List (Option Nat)},l.Pairwise (λx a=>x=none\/x≠a)-> ∀i,(∀a∈l,a≠some o)->(l.set i (some o)).Pairwise (λx a=>x=none\/x≠a)
 | [],h,i,_=>by simp
 |x::t,h,0,hA=>by
  rw[gG]at h;rw[bZ,gG];exact⟨λa d=> .inr λe=>hA a (.tail _ d) e.symm,h.2⟩
 |x::t,h,i+1,hA=>by
  rw[gG]at h;rw[b6,gG];refine⟨λa d=> ?_,om h.2 i λa d=>hA a (.tail _ d)⟩;rcases List.mem_or_eq_of_mem_set d with d|rfl
  ·exact h.1 a d
  ·exact .inr (hA x (.head _))
theorem ju {l:List (Option Nat)} (o:l.Pairwise (λx d=>x=none\/x≠d)) {i j:Nat} {x d:Option Nat} (G:i≠j) (H:l[i]? =some x) (F:l[j]? =some d):x=none\/x≠d:=by
 obtain⟨A,z⟩:=List.getElem?_eq_some_iff.1 H;obtain⟨y,u⟩:=List.getElem?_eq_some_iff.1 F;rw[jG]at o;rcases Nat.lt_or_gt_of_ne G with h|h
 ·have:=o i j A y h;rwa [z,u]at this
 ·have:=o j i y A h;rw[z,u]at this;rcases this with rfl|hn
  ·cases x with
   |none=>exact .inl rfl
   |some a=>exact .inr Qe
  ·exact .inr λe=>hn e.symm
theorem et {w W:World} {base d n:Nat} {e:TypeId} {v:Value} {xs:List Value} (h:w.ownsRow base e d v n xs) (o: ∀b,v.ownBlock=some b->W.heap[b]? =w.heap[b]?):W.ownsRow base e d v n xs:=by
 refine⟨h.1,?_⟩;rcases h.2 with a|⟨g,cap,cur,rfl,a,h2,h3⟩
 ·exact .inl a
 ·exact .inr ⟨g,cap,cur,rfl,a,(o g rfl).trans h2,h3⟩
theorem t_ {w W:World} {vs:Value} {l:List (Nm×Int)} {f:Int} (a:vs= .map none/\l=[]/\f=0\/ ∃b,vs= .map (some b)/\nZ w b (gx l) l.length) (d: ∀b,CH vs=some b->W.heap[b]? =w.heap[b]?):vs= .map none/\l=[]/\f=0\/ ∃b,vs= .map (some b)/\nZ W b (gx l) l.length:=by
 rcases a with a|⟨b,rfl,a⟩
 ·exact .inl a
 ·exact .inr ⟨b,rfl,a.obj (d b rfl)⟩
theorem sH {w:World} {base a n:Nat} {e:TypeId} {v:Value} {xs:List Value} (h:w.ownsRow base e a v n xs) {b:Nat} (d:v.ownBlock=some b):base<=b/\b<w.heap.size:=h.lt b d
theorem JO:mY prog 92 159 5 40 (.agg #[.int .i64 0, .int .i64 0, .int .i64 0, .int .i64 0, .int .i64 0]):=⟨underlying92,by kernel_rfl,by rfl,by decide⟩
theorem IJ:mY prog 93 155 2 24 (.agg #[.int .i64 0, .string ⟨#[]⟩]):=⟨underlying93,by kernel_rfl,by rfl,by decide⟩
section
variable {k:CC} {at_:List (Nm×Int)} {O:Nat->Prop} {w W:World} {s:CS} {vc vt vl vd vs v':Value}
theorem i'.code_to (a:i' k at_ vc vt vl vd vs w s) {c':List dl} (H:aM W k.c 95 #[k.va,k.fa,v',vt, .map (some k.bp), .map (some k.bs), .map (some k.ba),vl,vd,vs, .int .i64 s.frame]) (o:W.ownsRow k.base 159 5 v' c'.length (gy c')) (F:v'.ownBlock=vc.ownBlock\/v'.ownBlock=some w.heap.size) (y:Mv (λb=>b=k.c\/vc.ownBlock=some b) w W):i' k at_ v' vt vl vd vs W {s with code:=c'}:=by
 have d: ∀(j:Nat) (b:Nat),j≠0->j≠5->(bJ k vc vt vl vd vs)[j]? =some (some b)->W.heap[b]? =w.heap[b]? :=λj b I G h=>by
  refine y.block b (a.lo b (cD h)).2 λe=> ?_;rcases e with rfl|e
  ·exact((ju a.nd I h (show(bJ k vc vt vl vd vs)[0]? =some (some k.c)from rfl)).resolve_left Qe) rfl
  ·exact((ju a.nd G h (show(bJ k vc vt vl vd vs)[5]? =some vc.ownBlock from rfl)).resolve_left Qe) e.symm
 refine⟨H,o,et a.tx λb e=>d 6 b Qd Qd (congrArg some e),et a.calls λb e=>d 7 b Qd Qd (congrArg some e),et a.dats λb e=>d 8 b Qd Qd (congrArg some e),a.pl.obj (d 1 _ Qd Qd rfl),a.sz.obj (d 2 _ Qd Qd rfl),a.at_.obj (d 3 _ Qd Qd rfl),t_ a.sl λb e=>d 4 b Qd Qd (congrArg some e),?_,λb u=> ?_⟩
 ·rcases F with e|e
  ·have:bJ k v' vt vl vd vs=bJ k vc vt vl vd vs:=by simp only[bJ,e]
   rw[this];exact a.nd
  ·have:bJ k v' vt vl vd vs=(bJ k vc vt vl vd vs).set 5 (some w.heap.size):=by simp[bJ,e]
   rw[this];exact om a.nd 5 λK A J=>by subst J;exact absurd (a.lo _ A).2 (jX _)
 ·have z:=y.size;by_cases e:some b=v'.ownBlock
  ·exact sH o e.symm
  ·have:some b∈bJ k vc vt vl vd vs:=by simp only[bJ,bT,bB,or_false]at u⊢;rcases u with a|a|a|a|a|a|a|a|a<;>simp_all
   exact⟨(a.lo b this).1,aA (a.lo b this).2 z⟩
theorem i'.code_cp (a:i' k at_ vc vt vl vd vs w s) (d: ∀b,O b↔some b∈bJ k vc vt vl vd vs) {c':List dl} (y:aM W k.c 95 #[k.va,k.fa,v',vt, .map (some k.bp), .map (some k.bs), .map (some k.ba),vl,vd,vs, .int .i64 s.frame]) (u:W.ownsRow k.base 159 5 v' c'.length (gy c')) (h:v'.ownBlock=vc.ownBlock\/v'.ownBlock=some w.heap.size) (o:Mv (λb=>b=k.c\/vc.ownBlock=some b) w W):CP k at_ O w {s with code:=c'} W:=by
 refine⟨_,⟨_,_,_,_,_,a.code_to y u h o,λb=>gW⟩,o.mono λb _ e=>(d b).2 ?_,λb e=> ?_⟩
 ·rcases e with rfl|e
  ·simp[bJ]
  ·simp[bJ,e]
 ·rcases h with q|q
  ·left;rw[d];simp only[bJ,q]at e⊢;exact e
  ·simp only[bJ,q,bT,bB,or_false]at e;rw[d];simp only[bJ,bT,bB,or_false];rcases e with a|a|a|a|a|a|a|a|a<;>simp_all
theorem i'.tx_to (a:i' k at_ vc vt vl vd vs w s) {c':List UInt8} (H:aM W k.c 95 #[k.va,k.fa,vc,v', .map (some k.bp), .map (some k.bs), .map (some k.ba),vl,vd,vs, .int .i64 s.frame]) (o:gT W k.base 5 v' c') (F:v'.ownBlock=vt.ownBlock\/v'.ownBlock=some w.heap.size) (y:Mv (λb=>b=k.c\/vt.ownBlock=some b) w W):i' k at_ vc v' vl vd vs W {s with tx:=c'}:=by
 have d: ∀(j:Nat) (b:Nat),j≠0->j≠6->(bJ k vc vt vl vd vs)[j]? =some (some b)->W.heap[b]? =w.heap[b]? :=λj b I G h=>by
  refine y.block b (a.lo b (cD h)).2 λe=> ?_;rcases e with rfl|e
  ·exact((ju a.nd I h (show(bJ k vc vt vl vd vs)[0]? =some (some k.c)from rfl)).resolve_left Qe) rfl
  ·exact((ju a.nd G h (show(bJ k vc vt vl vd vs)[6]? =some vt.ownBlock from rfl)).resolve_left Qe) e.symm
 refine⟨H,et a.code λb e=>d 5 b Qd Qd (congrArg some e),o,et a.calls λb e=>d 7 b Qd Qd (congrArg some e),et a.dats λb e=>d 8 b Qd Qd (congrArg some e),a.pl.obj (d 1 _ Qd Qd rfl),a.sz.obj (d 2 _ Qd Qd rfl),a.at_.obj (d 3 _ Qd Qd rfl),t_ a.sl λb e=>d 4 b Qd Qd (congrArg some e),?_,λb u=> ?_⟩
 ·rcases F with e|e
  ·have:bJ k vc v' vl vd vs=bJ k vc vt vl vd vs:=by simp only[bJ,e]
   rw[this];exact a.nd
  ·have:bJ k vc v' vl vd vs=(bJ k vc vt vl vd vs).set 6 (some w.heap.size):=by simp[bJ,e]
   rw[this];exact om a.nd 6 λK A J=>by subst J;exact absurd (a.lo _ A).2 (jX _)
 ·have z:=y.size;by_cases e:some b=v'.ownBlock
  ·exact sH o e.symm
  ·have:some b∈bJ k vc vt vl vd vs:=by simp only[bJ,bT,bB,or_false]at u⊢;rcases u with a|a|a|a|a|a|a|a|a<;>simp_all
   exact⟨(a.lo b this).1,aA (a.lo b this).2 z⟩
theorem i'.tx_cp (a:i' k at_ vc vt vl vd vs w s) (d: ∀b,O b↔some b∈bJ k vc vt vl vd vs) {c':List UInt8} (y:aM W k.c 95 #[k.va,k.fa,vc,v', .map (some k.bp), .map (some k.bs), .map (some k.ba),vl,vd,vs, .int .i64 s.frame]) (u:gT W k.base 5 v' c') (h:v'.ownBlock=vt.ownBlock\/v'.ownBlock=some w.heap.size) (o:Mv (λb=>b=k.c\/vt.ownBlock=some b) w W):CP k at_ O w {s with tx:=c'} W:=by
 refine⟨_,⟨_,_,_,_,_,a.tx_to y u h o,λb=>gW⟩,o.mono λb _ e=>(d b).2 ?_,λb e=> ?_⟩
 ·rcases e with rfl|e
  ·simp[bJ]
  ·simp[bJ,e]
 ·rcases h with q|q
  ·left;rw[d];simp only[bJ,q]at e⊢;exact e
  ·simp only[bJ,q,bT,bB,or_false]at e;rw[d];simp only[bJ,bT,bB,or_false];rcases e with a|a|a|a|a|a|a|a|a<;>simp_all
theorem i'.calls_to (a:i' k at_ vc vt vl vd vs w s) {c':List (Nat×Nm)} (H:aM W k.c 95 #[k.va,k.fa,vc,vt, .map (some k.bp), .map (some k.bs), .map (some k.ba),v',vd,vs, .int .i64 s.frame]) (o:W.ownsRow k.base 155 2 v' c'.length (fO c')) (F:v'.ownBlock=vl.ownBlock\/v'.ownBlock=some w.heap.size) (y:Mv (λb=>b=k.c\/vl.ownBlock=some b) w W):i' k at_ vc vt v' vd vs W {s with calls:=c'}:=by
 have d: ∀(j:Nat) (b:Nat),j≠0->j≠7->(bJ k vc vt vl vd vs)[j]? =some (some b)->W.heap[b]? =w.heap[b]? :=λj b I G h=>by
  refine y.block b (a.lo b (cD h)).2 λe=> ?_;rcases e with rfl|e
  ·exact((ju a.nd I h (show(bJ k vc vt vl vd vs)[0]? =some (some k.c)from rfl)).resolve_left Qe) rfl
  ·exact((ju a.nd G h (show(bJ k vc vt vl vd vs)[7]? =some vl.ownBlock from rfl)).resolve_left Qe) e.symm
 refine⟨H,et a.code λb e=>d 5 b Qd Qd (congrArg some e),et a.tx λb e=>d 6 b Qd Qd (congrArg some e),o,et a.dats λb e=>d 8 b Qd Qd (congrArg some e),a.pl.obj (d 1 _ Qd Qd rfl),a.sz.obj (d 2 _ Qd Qd rfl),a.at_.obj (d 3 _ Qd Qd rfl),t_ a.sl λb e=>d 4 b Qd Qd (congrArg some e),?_,λb u=> ?_⟩
 ·rcases F with e|e
  ·have:bJ k vc vt v' vd vs=bJ k vc vt vl vd vs:=by simp only[bJ,e]
   rw[this];exact a.nd
  ·have:bJ k vc vt v' vd vs=(bJ k vc vt vl vd vs).set 7 (some w.heap.size):=by simp[bJ,e]
   rw[this];exact om a.nd 7 λK A J=>by subst J;exact absurd (a.lo _ A).2 (jX _)
 ·have z:=y.size;by_cases e:some b=v'.ownBlock
  ·exact sH o e.symm
  ·have:some b∈bJ k vc vt vl vd vs:=by simp only[bJ,bT,bB,or_false]at u⊢;rcases u with a|a|a|a|a|a|a|a|a<;>simp_all
   exact⟨(a.lo b this).1,aA (a.lo b this).2 z⟩
theorem i'.calls_cp (a:i' k at_ vc vt vl vd vs w s) (d: ∀b,O b↔some b∈bJ k vc vt vl vd vs) {c':List (Nat×Nm)} (y:aM W k.c 95 #[k.va,k.fa,vc,vt, .map (some k.bp), .map (some k.bs), .map (some k.ba),v',vd,vs, .int .i64 s.frame]) (u:W.ownsRow k.base 155 2 v' c'.length (fO c')) (h:v'.ownBlock=vl.ownBlock\/v'.ownBlock=some w.heap.size) (o:Mv (λb=>b=k.c\/vl.ownBlock=some b) w W):CP k at_ O w {s with calls:=c'} W:=by
 refine⟨_,⟨_,_,_,_,_,a.calls_to y u h o,λb=>gW⟩,o.mono λb _ e=>(d b).2 ?_,λb e=> ?_⟩
 ·rcases e with rfl|e
  ·simp[bJ]
  ·simp[bJ,e]
 ·rcases h with q|q
  ·left;rw[d];simp only[bJ,q]at e⊢;exact e
  ·simp only[bJ,q,bT,bB,or_false]at e;rw[d];simp only[bJ,bT,bB,or_false];rcases e with a|a|a|a|a|a|a|a|a<;>simp_all
theorem i'.dats_to (a:i' k at_ vc vt vl vd vs w s) {c':List (Nat×Nm)} (H:aM W k.c 95 #[k.va,k.fa,vc,vt, .map (some k.bp), .map (some k.bs), .map (some k.ba),vl,v',vs, .int .i64 s.frame]) (o:W.ownsRow k.base 155 2 v' c'.length (fO c')) (F:v'.ownBlock=vd.ownBlock\/v'.ownBlock=some w.heap.size) (y:Mv (λb=>b=k.c\/vd.ownBlock=some b) w W):i' k at_ vc vt vl v' vs W {s with dats:=c'}:=by
 have d: ∀(j:Nat) (b:Nat),j≠0->j≠8->(bJ k vc vt vl vd vs)[j]? =some (some b)->W.heap[b]? =w.heap[b]? :=λj b I G h=>by
  refine y.block b (a.lo b (cD h)).2 λe=> ?_;rcases e with rfl|e
  ·exact((ju a.nd I h (show(bJ k vc vt vl vd vs)[0]? =some (some k.c)from rfl)).resolve_left Qe) rfl
  ·exact((ju a.nd G h (show(bJ k vc vt vl vd vs)[8]? =some vd.ownBlock from rfl)).resolve_left Qe) e.symm
 refine⟨H,et a.code λb e=>d 5 b Qd Qd (congrArg some e),et a.tx λb e=>d 6 b Qd Qd (congrArg some e),et a.calls λb e=>d 7 b Qd Qd (congrArg some e),o,a.pl.obj (d 1 _ Qd Qd rfl),a.sz.obj (d 2 _ Qd Qd rfl),a.at_.obj (d 3 _ Qd Qd rfl),t_ a.sl λb e=>d 4 b Qd Qd (congrArg some e),?_,λb u=> ?_⟩
 ·rcases F with e|e
  ·have:bJ k vc vt vl v' vs=bJ k vc vt vl vd vs:=by simp only[bJ,e]
   rw[this];exact a.nd
  ·have:bJ k vc vt vl v' vs=(bJ k vc vt vl vd vs).set 8 (some w.heap.size):=by simp[bJ,e]
   rw[this];exact om a.nd 8 λK A J=>by subst J;exact absurd (a.lo _ A).2 (jX _)
 ·have z:=y.size;by_cases e:some b=v'.ownBlock
  ·exact sH o e.symm
  ·have:some b∈bJ k vc vt vl vd vs:=by simp only[bJ,bT,bB,or_false]at u⊢;rcases u with a|a|a|a|a|a|a|a|a<;>simp_all
   exact⟨(a.lo b this).1,aA (a.lo b this).2 z⟩
theorem i'.dats_cp (a:i' k at_ vc vt vl vd vs w s) (d: ∀b,O b↔some b∈bJ k vc vt vl vd vs) {c':List (Nat×Nm)} (y:aM W k.c 95 #[k.va,k.fa,vc,vt, .map (some k.bp), .map (some k.bs), .map (some k.ba),vl,v',vs, .int .i64 s.frame]) (u:W.ownsRow k.base 155 2 v' c'.length (fO c')) (h:v'.ownBlock=vd.ownBlock\/v'.ownBlock=some w.heap.size) (o:Mv (λb=>b=k.c\/vd.ownBlock=some b) w W):CP k at_ O w {s with dats:=c'} W:=by
 refine⟨_,⟨_,_,_,_,_,a.dats_to y u h o,λb=>gW⟩,o.mono λb _ e=>(d b).2 ?_,λb e=> ?_⟩
 ·rcases e with rfl|e
  ·simp[bJ]
  ·simp[bJ,e]
 ·rcases h with q|q
  ·left;rw[d];simp only[bJ,q]at e⊢;exact e
  ·simp only[bJ,q,bT,bB,or_false]at e;rw[d];simp only[bJ,bT,bB,or_false];rcases e with a|a|a|a|a|a|a|a|a<;>simp_all
end
theorem iK (w:World) (g i:Nat) (a:Value):w.grownBy (w.setCell ⟨g,i,none⟩ a) (some g):=⟨rfl,rfl,rfl,by simp[World.setCell],λj _ d=>Below.heap_setCell w ⟨g,i,none⟩ a j λe=>d (by rw[e])⟩
theorem uD (x:dl): ∀u∈mS x,u.oneCell'=true:=by simp[mS,Value.oneCell']
theorem wG (l:List dl) (x:dl):gy (l++[x])=gy l++mS x:=by simp[gy]
theorem fw {k:CC} {at_:List (Nm×Int)} {vc vt vl vd vs:Value} {w:World} {s:CS} (a:i' k at_ vc vt vl vd vs w s):k.base<=w.heap.size/\some k.c≠vc.ownBlock/\some k.c≠vt.ownBlock/\some k.c≠vl.ownBlock/\some k.c≠vd.ownBlock:=by
 have d:=a.lo k.c (by simp[bJ]);refine⟨by omega,?_,?_,?_,?_⟩
 ·exact(ju a.nd (i:=0) (j:=5) Qd rfl rfl).resolve_left Qe
 ·exact(ju a.nd (i:=0) (j:=6) Qd rfl rfl).resolve_left Qe
 ·exact(ju a.nd (i:=0) (j:=7) Qd rfl rfl).resolve_left Qe
 ·exact(ju a.nd (i:=0) (j:=8) Qd rfl rfl).resolve_left Qe
def CV (k:CC) (at_:List (Nm×Int)) (vc vt vl vd vs:Value) (w:World) (s':CS) (w':World):Prop:=
 ∃vc',i' k at_ vc' vt vl vd vs w' s'/\Mv (λb=>b=k.c\/vc.ownBlock=some b) w w'/\(vc'.ownBlock=vc.ownBlock\/ ∃b,vc'.ownBlock=some b/\w.heap.size<=b)
theorem CV.own {k:CC} {at_:List (Nm×Int)} {O:Nat->Prop} {vc vt vl vd vs:Value} {w w':World} {s':CS} (h: ∀b,O b↔some b∈bJ k vc vt vl vd vs) (a:CV k at_ vc vt vl vd vs w s' w'): ∃d,i' k at_ d vt vl vd vs w' s'/\eb O w (λb=>some b∈bJ k d vt vl vd vs) w':=by
 obtain⟨d,y,u,o⟩:=a;refine⟨_,y,u.mono λb _ e=>(h b).2 ?_,λb e=> ?_⟩
 ·rcases e with rfl|e
  ·simp[bJ]
  ·simp[bJ,e]
 ·rcases o with q|⟨c,q,hq⟩
  ·left;rw[h];simp only[bJ,q]at e⊢;exact e
  ·simp only[bJ,q,bT,bB,or_false]at e;rw[h];simp only[bJ,bT,bB,or_false];rcases e with a|a|a|a|a|a|a|a|a<;>simp_all
theorem CV.st {k:CC} {at_:List (Nm×Int)} {O:Nat->Prop} {vc vt vl vd vs:Value} {w w':World} {s':CS} (a: ∀b,O b↔some b∈bJ k vc vt vl vd vs) (o:CV k at_ vc vt vl vd vs w s' w'):CP k at_ O w s' w':=by
 obtain⟨u,h,d⟩:=o.own a;exact⟨_,⟨_,_,_,_,_,h,λb=>gW⟩,d⟩
theorem i'.add {k:CC} {at_:List (Nm×Int)} {w u d:World} {s:CS} {vc vt vl vd vs:Value} (y:i' k at_ vc vt vl vd vs w s) (x:dl) (I:u=w.alloc (.cells (mS x).toArray 159)) {a o:Nat}
  (J:d.ownsRow k.base 159 5 (.slice (some ⟨a,0,none⟩) (s.code.length+1) o) (s.code.length+1) (gy s.code++mS x)) (F:u.grownBy d vc.ownBlock) (h:some a=vc.ownBlock\/a=u.heap.size):
  aM d k.c 95 #[k.va,k.fa,vc,vt, .map (some k.bp), .map (some k.bs), .map (some k.ba),vl,vd,vs, .int .i64 s.frame]/\CV k at_ vc vt vl vd vs w (s.add x) (d.setCell ⟨k.c,2,none⟩ (.slice (some ⟨a,0,none⟩) (s.code.length+1) o)):=by
 have A:au w u:=I▸aa w _;have G:=y.keep A.size λb z=>A.obj (y.lo b z).2;have z:=G.blk.grown F (fw y).2.1;have K:u.heap.size=w.heap.size+1:=by rw[I,World.size_alloc]
 have H:Mv (λb=>b=k.c\/vc.ownBlock=some b) u (d.setCell ⟨k.c,2,none⟩ (.slice (some ⟨a,0,none⟩) (s.code.length+1) o)):=(jU F λb e=> .inr e).set (λ_=> .inl rfl) _;refine⟨z,_,G.code_to (c':=s.code++[x]) (v':= .slice (some ⟨a,0,none⟩) (s.code.length+1) o) (W:=d.setCell ⟨k.c,2,none⟩ (.slice (some ⟨a,0,none⟩) (s.code.length+1) o)) (by simpa using z.set 2 (.slice (some ⟨a,0,none⟩) (s.code.length+1) o)) ?_ (h.imp id λe=>by rw[e];rfl) H,(cQ A).trans H,?_⟩
 ·rw[ac,wG]
  exact J.kept (iK d k.c 2 _) (.inr λe=>by
   rcases h with h|h
   ·exact(fw y).2.1 (by rw[<-h];exact e.symm)
   ·have M:=(y.lo k.c (by simp[bJ])).2;have e:a=k.c:=ab e
    omega)
 ·exact h.imp id λe=>⟨a,rfl,by omega⟩
theorem Ir {k:CC} {at_:List (Nm×Int)} {vc vt vl vd vs:Value} {w:World} {s:CS} (d:i' k at_ vc vt vl vd vs w s) (op:Nat) (u a b n:Int) (J:u=op) (ac:s.code.length<=1000000000):
  Calls prog 70 #[.pointer (some ⟨k.c,0,none⟩), .int .i64 u, .int .i64 a, .int .i64 b, .int .i64 n] w λe w'=>e= .returned (.int .i64 (s.code.length:Int))/\CV k at_ vc vt vl vd vs w (s.op op a b n) w':=by
 subst J;have R:=d.blk.cell;have I:=fw d;have Z:=G d;have F:=d.code.alloc (.cells #[.int .i64 (op:Int), .int .i64 a, .int .i64 b, .int .i64 n, .int .i64 0] 159);have X:=G (show k.base<=(w.alloc (.cells #[.int .i64 (op:Int), .int .i64 a, .int .i64 b, .int .i64 n, .int .i64 0] 159)).heap.size by rw[World.size_alloc];omega);clear d I;go_enter func70,ntmps70
 go_upto_region 2 with(at_builtin;refine eV JO rfl _ _ rfl k.base _ s.code.length (gy s.code) rfl F w.heap.size (mS ⟨op,a,b,n,0⟩) rfl (aq w _ _) rfl (uD _) Qa Qd X.out ?_;intro aa M ab z A H;obtain⟨o,y⟩:=Z.out.add ⟨op,a,b,n,0⟩ rfl z A H;have c1:=o.cell;have K:=o.frozen;have c2:=(o.set 2 (.slice (some ⟨aa,0,none⟩) (s.code.length+1) M)).cell;have V:=G y;clear z A H o y F R)
 clear c1 K;go_wp2_with fail;go_ret;exact⟨rfl,V.out⟩
theorem uR {k:CC} {at_:List (Nm×Int)} {vc vt vl vd vs:Value} {w:World} {s:CS} (d:i' k at_ vc vt vl vd vs w s) (op:Nat) (u a v:Int) (J:u=op) (ac:s.code.length<=1000000000):
  Calls prog 69 #[.pointer (some ⟨k.c,0,none⟩), .int .i64 u, .int .i64 a, .int .i64 v] w λe w'=>e= .returned (.int .i64 (s.code.length:Int))/\CV k at_ vc vt vl vd vs w (s.vl op a v) w':=by
 subst J;have R:=d.blk.cell;have I:=fw d;have Z:=G d;have F:=d.code.alloc (.cells #[.int .i64 (op:Int), .int .i64 a, .int .i64 0, .int .i64 0, .int .i64 v] 159);have X:=G (show k.base<=(w.alloc (.cells #[.int .i64 (op:Int), .int .i64 a, .int .i64 0, .int .i64 0, .int .i64 v] 159)).heap.size by rw[World.size_alloc];omega);clear d I;go_enter func69,ntmps69
 go_upto_region 2 with(at_builtin;refine eV JO rfl _ _ rfl k.base _ s.code.length (gy s.code) rfl F w.heap.size (mS ⟨op,a,0,0,v⟩) rfl (aq w _ _) rfl (uD _) Qa Qd X.out ?_;intro aa M ab z A H;obtain⟨o,y⟩:=Z.out.add ⟨op,a,0,0,v⟩ rfl z A H;have c1:=o.cell;have K:=o.frozen;have c2:=(o.set 2 (.slice (some ⟨aa,0,none⟩) (s.code.length+1) M)).cell;have V:=G y;clear z A H o y F R)
 clear c1 K;go_wp2_with fail;go_ret;exact⟨rfl,V.out⟩
theorem f9 {k:CC} {at_:List (Nm×Int)} {O:Nat->Prop} {w:World} {s:CS} (m:CX k at_ O w s) (op:Nat) (a d b n:Int) (o:a=op) (u:s.code.length<=1000000000):
  Calls prog 70 #[.pointer (some ⟨k.c,0,none⟩), .int .i64 a, .int .i64 d, .int .i64 b, .int .i64 n] w λe w'=>e= .returned (.int .i64 (s.code.length:Int))/\CP k at_ O w (s.op op d b n) w':=by
 obtain⟨vc,vt,vl,vd,vs,z,y⟩:=m;exact(Ir z op a d b n o u).mono λe w' h=>⟨h.1,h.2.st y⟩
theorem iW {k:CC} {at_:List (Nm×Int)} {O:Nat->Prop} {w:World} {s:CS} (m:CX k at_ O w s) (op:Nat) (a d v:Int) (o:a=op) (u:s.code.length<=1000000000):
  Calls prog 69 #[.pointer (some ⟨k.c,0,none⟩), .int .i64 a, .int .i64 d, .int .i64 v] w λe w'=>e= .returned (.int .i64 (s.code.length:Int))/\CP k at_ O w (s.vl op d v) w':=by
 obtain⟨vc,vt,vl,vd,vs,z,y⟩:=m;exact(uR z op a d v o u).mono λe w' h=>⟨h.1,h.2.st y⟩
end
section
def CS.big (s:CS):Nat:=s.code.length+s.tx.length+s.calls.length+s.dats.length
section
variable {s:CS} {B:Nat}
theorem aZ (a:s.big<=B):s.code.length<=B:=by unfold CS.big at a;omega
theorem Fh (a:s.big<=B):s.tx.length<=B:=by unfold CS.big at a;omega
theorem qo (a:s.big<=B):s.calls.length<=B:=by unfold CS.big at a;omega
theorem sU (a:s.big<=B):s.dats.length<=B:=by unfold CS.big at a;omega
theorem bE (s:CS) (a:Nat) (d b n:Int):(s.op a d b n).big=s.big+1:=by simp[CS.op,CS.add,CS.big];omega
theorem bI (s:CS) (a:Nat) (d v:Int):(s.vl a d v).big=s.big+1:=by simp[CS.vl,CS.add,CS.big];omega
theorem bM (s:CS) (i:Nat):(s.land i).big=s.big:=by simp[CS.land,CS.big]
theorem cE (s:CS) (r:Int) (t:List UInt8):(s.text r t).big=s.big+2+t.length:=by simp[CS.text,CS.vl,CS.add,CS.big];omega
theorem cO (s:CS) (r:Int) (nm:Nm):(s.dat r nm).big=s.big+2:=by simp[CS.dat,CS.vl,CS.add,CS.big];omega
theorem cA (s:CS) (nm:Nm):(s.call nm).big=s.big+2:=by simp[CS.call,CS.vl,CS.add,CS.big];omega
theorem cf (s:CS) (nm:Nm):(s.decl nm).big=s.big:=rfl
theorem bL (s:CS) (r:Int):(s.inv r).big=s.big+2:=by simp[CS.inv,bE,bI]
theorem j5 (s:CS) (r n:Int):s.big+1<=(s.st r n).big/\(s.st r n).big<=s.big+2:=by unfold CS.st;split<;>simp only[bI]<;>omega
theorem tu (s:CS) (r m:Int):s.big+6<=(s.chk r m).big/\(s.chk r m).big<=s.big+7:=by have:=j5 s 0 (m+1);unfold CS.chk;simp only[bE,bI];omega
theorem oN (s:CS) (a:Nat) (r:Int) (nm:Nm):s.big+1<=(s.ld a r nm).big/\(s.ld a r nm).big<=s.big+3:=by unfold CS.ld;split<;>simp only[bE,cO]<;>omega
theorem dK (s:CS):s.back.big=s.big+3:=by simp[CS.back,bE]
theorem km (sz:Nm->Int) (s:CS) (r:Int) (nm:Nm):s.big+9<=(s.elem sz r nm).big/\(s.elem sz r nm).big<=s.big+10:=by have:=tu s r (sz nm-1);unfold CS.elem;simp only[bE,cO];omega
theorem qI (op:Nm) (r:Int) (s:CS):s.big+1<=(rm op r s).big/\(rm op r s).big<=s.big+3:=by unfold rm;simp only;split<;>split<;>simp only[bE,bL]<;>omega
theorem dF (a:Nat): ∀(k i:Nat) (s:CS),(pZ a k i s).big=s.big+k
 |0,i,s=>rfl
 |k+1,i,s=>by rw[pZ,dF a k,bE];omega
theorem dW (r:Nat): ∀(k i:Nat) (s:CS),(uw r k i s).big=s.big+k
 |0,i,s=>rfl
 |k+1,i,s=>by rw[uw,dW r k,bE];omega
theorem dz (nm:Nm) (n r:Nat) (s:CS):(kY nm n r s).big=s.big+(2*(r-7)+n+3):=by unfold kY;simp only[bE,dF,cA,dW];omega
theorem eM (c:Int) (n r i:Nat) (s:CS):(zG c n r i s).big=s.big+1:=by unfold zG;split<;>simp only[bE,bI]
variable (sz:Nm->Int)
theorem mi: ∀(ls:List UInt8) (d:List Ex) (a:Int) (s:CS),s.big<=(oP sz ls d a s).2.big
 | _,[],a,s=>ah _
 |ls,x::l,a,s=>by
  rw[oP];split
  ·exact mi ls.tail l a s
  split
  ·refine ax ?_ (mi ls.tail l _ _);have:=j5 (s.text 5 x.tx) 6 x.tx.length;rw[cE]at this;omega
  ·refine ax ?_ (mi ls.tail l _ _);rw[cO];omega
theorem oO (c:Int) (ls:List UInt8) (a:List Ex) (r:Nat) (s:CS):(oP sz ls a 0 s).2.big+6<=(jB sz c ls a r s).big/\(jB sz c ls a r s).big<=(oP sz ls a 0 s).2.big+14:=by
 unfold jB;have:=tu (oP sz ls a 0 s).2 ((r:Int)+vC ls a-1) (min (oP sz ls a 0 s).1 128);simp only[bE,bI];split<;>simp only[bE,eM]<;>omega
mutual
theorem ox: ∀(x:Ex) (r:Nat) (s:CS),s.big<=(fA sz x r s).big
 | .mk k op nm tx v a,r,s=>by
  rw[fA];split
  ·have:=j5 s r v;omega
  split
  ·have:=oN s 14 r nm;omega
  split
  ·have h:=qm a r s;have:=km sz (io sz a r s) r nm;rw[bE];omega
  split
  ·split
   ·rename_i c ls _;have h:=sO ls a r s;have d:=mi sz ls a 0 (qA sz ls a r s);have:=oO sz c ls a r (qA sz ls a r s);omega
   ·have h:=ww a r s;rw[dz];omega
  split
  ·have h:=qm a r s;split
   ·rw[bL];omega
   ·rw[bE,bI];omega
  split
  ·have h:=qm a r s;split
   ·rw[bM,bL,bL];have d:=ql a r ((io sz a r s).vl 19 r 0);rw[bI]at d;omega
   split
   ·rw[bL,bM,bL];have d:=ql a r (((io sz a r s).inv r).vl 19 r 0);rw[bI,bL]at d;omega
   ·have d:=ql a (r+1) (io sz a r s);have:=qI op r (tJ sz a (r+1) (io sz a r s));omega
  ·exact ah _
theorem qm: ∀(l:List Ex) (r:Nat) (s:CS),s.big<=(io sz l r s).big
 | [],r,s=>ah _
 |x::_,r,s=>by rw[io];exact ox x r s
theorem ql: ∀(l:List Ex) (r:Nat) (s:CS),s.big<=(tJ sz l r s).big
 | [],r,s=>ah _
 | _::l,r,s=>by rw[tJ];exact qm l r s
theorem ww: ∀(l:List Ex) (r:Nat) (s:CS),s.big<=(ti sz l r s).big
 | [],r,s=>ah _
 |x::l,r,s=>by rw[ti];exact ax (ox x r s) (ww l (r+1) _)
theorem sO: ∀(ls:List UInt8) (l:List Ex) (r:Nat) (s:CS),s.big<=(qA sz ls l r s).big
 | _,[],r,s=>ah _
 |ls,x::l,r,s=>by
  rw[qA];split
  ·exact ax (ox x r s) (sO ls.tail l (r+1) _)
  ·exact sO ls.tail l r s
end
mutual
theorem F3: ∀(x:St) (s:CS),s.big<=(pP sz x s).big
 | .mk k nm ex b e,s=>by
  rw[pP];have o:=qm sz ex 7 s;have h:=jM b ((io sz ex 7 s).vl 19 7 0);rw[bI]at h;have d:=F2 ex s;split
  ·split
   ·rw[bM];omega
   ·rw[bM];have a:=jM e (((ee sz b ((io sz ex 7 s).vl 19 7 0)).vl 18 0 0).land (io sz ex 7 s).code.length);rw[bM,bI]at a;omega
  split
  ·rw[bM,bI];omega
  split
  ·have:=oN ((jk sz ex s).decl nm) 15 7 nm;rw[cf]at this;omega
  split
  ·have:=oN (jk sz ex s) 15 7 nm;omega
  split
  ·have a:=ql sz ex 7 ((jk sz ex s).op 15 7 15 28);have:=km sz (((tJ sz ex 7 ((jk sz ex s).op 15 7 15 28)).op 3 8 7 0).op 14 7 15 28) 7 nm;simp only[bE]at this a⊢;omega
  split
  ·rw[dK,bE];omega
  ·exact d
theorem jM: ∀(l:List St) (s:CS),s.big<=(ee sz l s).big
 | [],s=>ah _
 |x::l,s=>by rw[ee];exact ax (F3 x s) (jM l _)
theorem F2: ∀(l:List Ex) (s:CS),s.big<=(jk sz l s).big
 | [],s=>by rw[jk,bI];omega
 |x::_,s=>by rw[jk];exact ox sz x 7 s
end
end
end
section
open Go.RowKit
theorem cU {a O O':Nat->Prop} {w0 w w':World} (T:Hid (eb a w0 O w)) (d:eb O w O' w'):Hid (eb a w0 O' w'):=eb.trans T d
theorem nS {k:CC} {at_:List (Nm×Int)} {O:Nat->Prop} {w:World} {s:CS} (m:CX k at_ O w s) (u b:Int) (H:s.big<=950000000):
  Calls prog 132 #[.pointer (some ⟨k.c,0,none⟩), .int .i64 u, .int .i64 b] w λe w'=>e= .returned (.tuple #[])/\CP k at_ O w (s.op 3 u b 0) w':=by
 have a:=G m;have y:=G (eb.refl O w);clear m;go_enter func132,ntmps132;go_wp2_with (first|(go_at_call 70;refine(f9 a.out 3 _ _ _ _ rfl (aZ (by(try simp only[bI,bE,bM,bL,cO,cE,cA,cf]);omega))).mono ?_;rintro e F ⟨rfl,I,d,o⟩;have A:=cU y o;have z:=G d;clear a y d o;skip));exact bodyPost_end (results_none rfl _ _ _) rfl ⟨rfl,_,z.out,A.out⟩
theorem uX {k:CC} {at_:List (Nm×Int)} {O:Nat->Prop} {w:World} {s:CS} (m:CX k at_ O w s) (r:Int) (I:s.big<=940000000):
  Calls prog 183 #[.pointer (some ⟨k.c,0,none⟩), .int .i64 r] w λe w'=>e= .returned (.tuple #[])/\CP k at_ O w (s.inv r) w':=by
 have u:=G m;have z:=G (eb.refl O w);clear m;go_enter func183,ntmps183;go_wp2_with (first|(go_at_call 69;refine(iW u.out 1 _ _ _ rfl (aZ (by(try simp only[bI,bE,bM,bL,cO,cE,cA,cf]);omega))).mono ?_;rintro e H ⟨rfl,J,a,d⟩;have y:=cU z d;have o:=G a;clear u z a d)|(go_at_call 70;refine(f9 o.out 13 _ _ _ _ rfl (aZ (by(try simp only[bI,bE,bM,bL,cO,cE,cA,cf]);omega))).mono ?_;rintro e w2 ⟨rfl,O2,a,d⟩;have F:=cU y d;have A:=G a;clear o y a d));exact bodyPost_end (results_none rfl _ _ _) rfl ⟨rfl,_,A.out,F.out⟩
theorem zJ (n:Int):IntKind.i16.wrap n=kj n:=by unfold kj;simp[IntKind.wrap,IntKind.signed,IntKind.bits];split<;>split<;>omega
theorem xA (n:Int): -32768<=kj n/\kj n<=32767:=by unfold kj;split<;>omega
theorem Ge {k:CC} {at_:List (Nm×Int)} {O:Nat->Prop} {w:World} {s:CS} (m:CX k at_ O w s) (r n:Int) (K: -1099511627776<=n/\n<=1099511627776) (ah:s.big<=945000000):
  Calls prog 179 #[.pointer (some ⟨k.c,0,none⟩), .int .i64 r, .int .i64 n] w λe w'=>e= .returned (.tuple #[])/\CP k at_ O w (s.st r n) w':=by
 have u:=G m;have z:=G (eb.refl O w);clear m;have aj:=zJ n;have ai:=zJ ((n-kj n)/65536);obtain⟨ad,ac⟩:=xA n;have A:=G (show s.st r n=if kj ((n-kj n)/65536)=0 then s.vl 1 r (kj n)else(s.vl 1 r (kj n)).vl 2 r (kj ((n-kj n)/65536))from rfl);have H:=G (xA ((n-kj n)/65536));generalize kj ((n-kj n)/65536)=F at*;generalize kj n=L at*;obtain⟨ab,aa⟩:=H.out;obtain⟨Z,X⟩:=K;have ag:IntKind.i64.wrap (n-L)=n-L:=Qc
 have af:IntKind.i64.wrap L=L:=Qc
 have ae:IntKind.i64.wrap F=F:=Qc
 clear H;by_cases hH:F=0
 ·have M:=beq_iff_eq.2 hH;rw[if_pos hH]at A;clear hH;go_enter func179,ntmps179;go_wp2_with (first|(go_at_call 69;refine(iW u.out 1 _ _ _ rfl (aZ (by(try simp only[bI,bE,bM,bL,cO,cE,cA,cf]);omega))).mono ?_;rintro e I ⟨rfl,V,a,d⟩;have y:=cU z d;have o:=G a;clear u z a d));exact bodyPost_end (results_none rfl _ _ _) rfl ⟨rfl,_,A.out▸o.out,y.out⟩
 ·have M:=Qn.2 hH;rw[if_neg hH]at A;go_enter func179,ntmps179;go_wp2_with (first|(go_at_call 69;refine(iW u.out 1 _ _ _ rfl (aZ (by(try simp only[bI,bE,bM,bL,cO,cE,cA,cf]);omega))).mono ?_;rintro e I ⟨rfl,V,a,d⟩;have y:=cU z d;have o:=G a;clear u z a d)|(go_at_call 69;refine(iW o.out 2 _ _ _ rfl (aZ (by(try simp only[bI,bE,bM,bL,cO,cE,cA,cf]);omega))).mono ?_;rintro e w2 ⟨rfl,O2,a,d⟩;have R:=cU y d;have J:=G a;clear o y a d));exact bodyPost_end (results_none rfl _ _ _) rfl ⟨rfl,_,A.out▸J.out,R.out⟩
theorem Iq {k:CC} {at_:List (Nm×Int)} {O:Nat->Prop} {w:World} {s:CS} (m:CX k at_ O w s) (r o:Int) (a: -1000000000<=o/\o<=1000000000) (ai:s.big<=940000000):
  Calls prog 186 #[.pointer (some ⟨k.c,0,none⟩), .int .i64 r, .int .i64 o] w λe w'=>e= .returned (.tuple #[])/\CP k at_ O w (s.chk r o) w':=by
 have H:=G m;have V:=G (eb.refl O w);clear m;have ah:=a.1;have ag:=a.2;have af:IntKind.i64.wrap (o+1)=o+1:=Qc
 go_enter func186,ntmps186;go_wp2_with (first|(go_at_call 179;refine(Ge H.out 0 (o+1) Qa Qa).mono ?_;rintro e ae ⟨rfl,an,a,d⟩;have R:=cU V d;have F:=G a;clear H V a d)|(go_at_call 70;refine(f9 F.out 12 _ _ _ _ rfl (aZ (by have:=j5 s 0 (o+1);(try simp only[bI,bE,bM,bL,cO,cE,cA,cf]);omega))).mono ?_;rintro e w2 ⟨rfl,O2,a,d⟩;have M:=cU R d;have A:=G a;clear F R a d)|(go_at_call 69;refine(iW A.out 1 _ _ _ rfl (aZ (by have:=j5 s 0 (o+1);(try simp only[bI,bE,bM,bL,cO,cE,cA,cf]);omega))).mono ?_;rintro e ad ⟨rfl,am,a,d⟩;have K:=cU M d;have z:=G a;clear A M a d)|(go_at_call 70;refine(f9 z.out 12 _ _ _ _ rfl (aZ (by have:=j5 s 0 (o+1);(try simp only[bI,bE,bM,bL,cO,cE,cA,cf]);omega))).mono ?_;rintro e ac ⟨rfl,al,a,d⟩;have J:=cU K d;have y:=G a;clear z K a d)|(go_at_call 70;refine(f9 y.out 9 _ _ _ _ rfl (aZ (by have:=j5 s 0 (o+1);(try simp only[bI,bE,bM,bL,cO,cE,cA,cf]);omega))).mono ?_;rintro e ab ⟨rfl,ak,a,d⟩;have I:=cU J d;have u:=G a;clear y J a d)|(go_at_call 70;refine(f9 u.out 7 _ _ _ _ rfl (aZ (by have:=j5 s 0 (o+1);(try simp only[bI,bE,bM,bL,cO,cE,cA,cf]);omega))).mono ?_;rintro e aa ⟨rfl,aj,a,d⟩;have Z:=cU I d;have X:=G a;clear u I a d));exact bodyPost_end (results_none rfl _ _ _) rfl ⟨rfl,_,X.out,Z.out⟩
def jV:=@eb.of_ext
def kt:=@eb.refl
def qO:=@eb.trans
end
end Go.Proofs.YtoedmpgicdekmaaGreatDoor
