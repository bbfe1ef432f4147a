/- Parts of the proof. -/
import Derived.Test.YtoedmpgicdekmaaGreatDoorCo42
set_option maxRecDepth 100000
set_option maxHeartbeats 8000000
set_option linter.all false
namespace Go.Proofs.YtoedmpgicdekmaaGreatDoor
open Value renaming int->Za,slice->Zb,agg->Zd,tuple->Zg
open IntKind(i64)
open Go.Proofs.Tryz
section
open Go.RowKit
theorem sP {f:pD} (a:gJ f=true):4<=f.code.length/\0<=f.zero/\f.zero<=3072/\pR f<=3072/\0<=f.entry/\f.entry<f.code.length/\f.entry.tmod 4=0:=by
 unfold gJ at a;simp only[am,decide_eq_true_eq]at a;obtain⟨h,_,b,c,d,e,g,a,_⟩:=a;exact⟨h,e,g,a,b,c,d⟩
theorem It {f:pD} (d:gJ f=true): ∃a:Nat,pR f=128*a/\1<=a/\a<=24/\ ∃U:Nat,mr f.code.length=U/\f.code.length<=U/\U+f.data.length<=128*a:=by
 obtain⟨w,u,o,h,_⟩:=sP d;unfold pR mr at*;refine⟨(((f.code.length:Int)+127)/128*128+f.data.length+f.zero+127).toNat/128,by omega,by omega,by omega,(((f.code.length:Int)+127)/128*128).toNat,by omega,by omega,by omega⟩
theorem sm (f:pD) (w B:Option Addr) (c y a:Nat) (o:World) (aa:FT o) (X:Sl o w c f.code) (z:gJ f=true) (F:f.code.length<=1000000000) (R:f.data.length<=1000000000) (ag:pR f=128*(a:Int)) (al:a<=24):
  Calls prog 42 #[f.val w B c y] o λe w'=>e=.returned (Za i64 (a:Int))/\au o w':=by
 have H:=G (λW (I:au o W)=>show Calls prog 41 #[f.val w B c y] W λe w'=>e=.returned (.bool true)/\au W w' from by have:=nG f w B c y W (aa.ext I) (X.ext I) F R;rw[z]at this;exact this);obtain⟨_,ae,ah,_⟩:=sP z;have ad:=G (λW=>show Calls prog 85 #[Zd #[Zb w f.code.length c,Zb B f.data.length y,Za i64 f.zero,Za i64 f.entry]] W λe w'=>e=.returned (Za i64 (128*(a:Int)))/\au W w' from by have:=vE w B f.code.length c f.data.length y f.zero f.entry W F R ae J;rw[show mr (mr (f.code.length:Int)+f.data.length+f.zero)=128*(a:Int)from ag]at this;exact this);unfold pD.val at*;have af:(128*(a:Int)).tdiv 128=a:=by rw[Int.mul_tdiv_cancel_left _ Qd]
 have Z:IntKind.i64.wrap (a:Int)=a:=Qc
 clear aa X z;go_enter func42,ntmps42
 go_upto_region 1 with fail
 generalize V:World.alloc o _=W0;obtain⟨d,q,s⟩:=lC V;replace d:=G d;clear V;have A:=q.out.cell;go_wp2_with (first|(go_at_call 41;refine(H.out _ d.out).mono ?_;rintro e aj ⟨rfl,u⟩;replace d:=kx d u;replace q:=kb q u;clear H A u;have A:=q.out.cell)|(go_at_call 85;refine(ad.out _).mono ?_;rintro e ai ⟨rfl,u⟩;replace d:=kx d u;clear ad A u));go_ret;exact⟨by first|rfl|(simp[af];done),d.out⟩
theorem nX {L:List UInt8} {off:Nat} {b:List UInt8} (a:off+b.length<=L.length):(wM L off b).length=L.length:=by
 unfold wM;simp only[H,bG,bK];omega
theorem kS {P:Program} {a:World} {ops:Array Oper} {rest:List Oper} {d:Oper} {o:Act} {Q:Exit->Act->World->Prop} {t e:TypeId} (H:mo P t e) (V:d.guard=none) (u s:Operand)
  (F:d.op=.call {callee:=.builtin .copy,args:= #[u,s],argTypes:= #[t,t]}) (g off h z:Nat) (I:o.eval u=Zb (some ⟨g,off,none⟩) h z) (L:List UInt8) (X:Rw a g e L)
  (w:Option Addr) (c n:Nat) (m:List UInt8) (G:m.length=n) (A:o.eval s=Zb w n c) (ad:Sl a w c m) (aa:off+h<=L.length) (R:n<=h)
  (af: ∀w' v,Rw w' g e (wM L off m)->a.grownBy w' (some g)->wpList P ops Q rest (o.put d.dst v) w'):wpList P ops Q (d::rest) o a:=by
 subst G;refine sN H V u s F g off h z I L X w c m A ad aa λw' k y ae=>af w' _ ?_ ae;rw[bQ R]at y;exact y
def GK (f:pD) (U L:Nat):List UInt8:=wM (wM (List.replicate L 0) 0 f.code) U f.data
def Ee (g i:Nat):Value:=Zb (some ⟨g,128*i,none⟩) 128 128
def FM (g np:Nat):List Value:=(List.range np).map (Ee g)
theorem Ki:nL prog 114 36 1 24 (Zb none 0 0):=⟨underlying114,by kernel_rfl,by rfl,by decide⟩
theorem BK (g j:Nat):FM g j++[Ee g j]=FM g (j+1):=by simp[FM,ll]
theorem xA (f:pD) (aA B:Option Addr) (c X u U:Nat) (o:World) (ba:FT o) (aH:Sl o aA c f.code) (a9:Sl o B X f.data) (aY:gJ f=true) (a3:f.code.length<=1000000000) (a4:f.data.length<=1000000000) (y:pR f=128*(u:Int)) (bT:1<=u) (bq:u<=24) (d:mr (f.code.length:Int)=U) (bu:f.code.length<=U) (a8:U+f.data.length<=128*u):
  Calls prog 44 #[f.val aA B c X] o λe w'=> ∃g v,e=.returned v/\w'.ownsRow o.heap.size 36 1 v u (FM g u)/\Rw w' g 5 (GK f U (128*u))/\au o w':=by
 have ax:=G (λW (V:au o W)=>sm f aA B c X u W (ba.ext V) (aH.ext V) aY a3 a4 y bq);have av:=G (λW=>show Calls prog 87 #[Za i64 f.code.length] W λe w'=>e=.returned (Za i64 (U:Int))/\W=w' from by have:=tV f.code.length W J J;rw[d]at this;exact this);have aP:=G aH;have ay:=G a9;obtain⟨n,an⟩: ∃n,f.code.length=n:=⟨_,rfl⟩
 obtain⟨m,ao⟩: ∃m,f.data.length=m:=⟨_,rfl⟩
 have aT:=G an;have az:=G ao;unfold pD.val at*;rw[an]at ax av bu;rw[ao]at ax a8;rw[an,ao];obtain⟨L,ai⟩: ∃L,128*u=L:=⟨_,rfl⟩
 rw[ai]at a8;have bo:IntKind.i64.wrap ((u:Int)*128)=(L:Int):=by rw[<-ai];simp[IntKind.wrap,IntKind.signed,IntKind.bits];omega
 have b8:(0:Int)<(L:Int):=J
 have b6:L<=3072:=J
 have b7:(0<L)=True:=Qg
 have bI:=G ai;rw[ai];obtain⟨ad,aK⟩: ∃ad,GK f U L=ad:=⟨_,rfl⟩
 have aU:=G (show ad=wM (wM (List.replicate L 0) 0 f.code) U f.data from aK.symm);rw[aK];clear ba aH a9 aY a3 a4 y d an ao ai aK;generalize f.zero=bN at*;generalize f.entry=en at*;go_enter func44,ntmps44
 go_upto_region 1 with fail
 generalize ap:World.alloc o _=W0;obtain⟨F,q,s⟩:=lC ap;replace F:=G F;clear ap;have w:=q.out.cell
 go_upto_region 2 with(first|(go_at_call 42;refine(ax.out _ F.out).mono ?_;rintro e a ⟨rfl,aM⟩;replace F:=kx F aM;replace q:=kb q aM;have bF:=G q.out.lt;clear ax w aM;have w:=q.out.cell)|(at_make;refine sM bt rfl _ _ rfl L J i64 i64 rfl rfl λbP a1 aL bn=> ?_;have am:=G a1;have H:=G (F.out.trans aL);replace q:=kb q aL;clear a1 aL))
 have bY:=am.out.lt;have aJ:(List.replicate L (0:UInt8)).length=L:=iR ..;have bS:=q.out.lt;have cd:=H.out.size;have bW:o.heap.size<a.heap.size:=by have:=q.out.lt;have:=bn;have:=bF.out;omega
 have w:=q.out.cell
 go_upto_if 12 with fail
 go_cut []from 13 to 25 (λaV=>Hid (Rw aV a.heap.size 5 ad)/\Hid (au o aV))
 case first=>
  go_upto_region 5 with(refine kS bt rfl _ _ rfl a.heap.size 0 L L rfl _ am.out aA c n f.code aT.out rfl (aP.out.ext H.out) (by rw[aJ];omega) J λbO bQ aZ a6=> ?_;have bd:=G aZ;have bi:=G a6;clear w aZ a6)
  have ar:=G (H.out.grown bi.out λk e=>by injection e with e;omega);replace q:=G (q.out.grown bi.out Qg);have w:=q.out.cell;have bH:=G (show(wM (List.replicate L (0:UInt8)) 0 f.code).length=L by rw[nX (by rw[aJ,aT.out];omega),aJ]);generalize wM (List.replicate L (0:UInt8)) 0 f.code=bx at*;by_cases hUL:U=L
  ·subst hUL;have br:m=0:=J
   subst br;have aG:f.data=[]:=aX az.out;have bJ:=G (show ad=bx by rw[aU.out,aG,sW]);have bz:=G (show Sl o B X [] by have:=ay.out;rw[aG]at this;exact this);clear aU aG ay az aP;refine aB 8 5 [(4,λv=>v=Za i64 (U:Int),λ_ _=>True)] mixed Qb ⟨λ_ _ _ _ _=>trivial,trivial⟩ ?_;repeat (refine sx ?_ (λa d=> ?_) ?_;rotate_left;(focus have w:=(q.out.ext d.un).cell;clear d;go_simp<;>with_reducible rfl);simp only[bE,bD,bC,bB,bA])
   refine so (λaE d y K R=> ?_) ?_
   ·clear y d;go_simp;refine(av.out aE).mono ?_;rintro e aC ⟨rfl,rfl⟩;exact R _ _ (aI _) rfl trivial
   rintro _ rfl;simp only[bE,bD,bC,bB,bA];repeat (refine sx ?_ (λa d=> ?_) ?_;rotate_left;(focus have w:=(q.out.ext d.un).cell;clear d;go_simp<;>with_reducible rfl);simp only[bE,bD,bC,bB,bA])
   intro aW ag y;have z:=G ag.un;clear y ag;simp only[ae,aw];refine kS bt rfl _ _ rfl a.heap.size 0 0 0 rfl _ (bd.out.ext z.out) B X 0 [] rfl rfl (bz.out.ext (ar.out.trans z.out)) J J λaC bl A ah=> ?_;rw[sW]at A;have al:=G A;have Z:=G ((ar.out.trans z.out).grown ah λk e=>by injection e with e;omega);clear A ah w;go_wp2_with fail
   go_meet
   exact⟨by rw[bJ.out];exact al,Z⟩
  ·have bZ:U<L:=J
   have b4:(U:Int)<=L:=J
   refine aB 8 5 [(4,λv=>v=Za i64 (U:Int),λ_ _=>True)] mixed Qb ⟨λ_ _ _ _ _=>trivial,trivial⟩ ?_;repeat (refine sx ?_ (λa d=> ?_) ?_;rotate_left;(focus have w:=(q.out.ext d.un).cell;clear d;go_simp<;>with_reducible rfl);simp only[bE,bD,bC,bB,bA])
   refine so (λaE d y K R=> ?_) ?_
   ·clear y d;go_simp;refine(av.out aE).mono ?_;rintro e aC ⟨rfl,rfl⟩;exact R _ _ (aI _) rfl trivial
   rintro _ rfl;simp only[bE,bD,bC,bB,bA];repeat (refine sx ?_ (λa d=> ?_) ?_;rotate_left;(focus have w:=(q.out.ext d.un).cell;clear d;go_simp<;>with_reducible rfl);simp only[bE,bD,bC,bB,bA])
   intro aW ag y;have z:=G ag.un;clear y ag;simp only[ae,aw];refine kS bt rfl _ _ rfl a.heap.size U (L-U) (L-U) (by show Value.slice (if L=U then _ else _) _ _=_;rw[if_neg (λe=>hUL e.symm)]) _ (bd.out.ext z.out) B X m f.data az.out rfl (ay.out.ext (ar.out.trans z.out)) (by rw[bH.out];omega) J λaC bl A ah=> ?_;have al:=G A;have Z:=G ((ar.out.trans z.out).grown ah λk e=>by injection e with e;omega);clear A ah w;go_wp2_with fail
   go_meet
   exact⟨by rw[aU.out];exact al,Z⟩
 case rest=>
  obtain⟨al,Z⟩:=hcut;clear am H q w aP ay aT az av;have bG:=G (show wc.ownsRow o.heap.size 36 1 (Zb none 0 0) 0 (FM a.heap.size 0)from World.ownsRow_nil wc _ _ _)
  go_upto_region 7 with fail
  go_loopw [4,5] (λbm aF wr=> ∃(j:Nat) (af:Option Addr) (I:Nat),aF=Za i64 ((128*j:Nat):Int)/\bm=Zb af j I/\j<=u/\Hid (wr.ownsRow o.heap.size 36 1 (Zb af j I) j (FM a.heap.size j))/\Hid (Rw wr a.heap.size 5 ad)/\Hid (au o wr)/\Hid ((Value.slice af j I).ownBlock≠some a.heap.size)) (λ_ aF _=>L-(intOf aF).toNat)
  case atStart=>exact⟨0,none,0,rfl,rfl,aD _,bG,al,Z,G (by simp[Value.ownBlock])⟩
  case round=>
   obtain⟨j,af,I,rfl,rfl,bV,bg,aQ,aO,bk⟩:=hrel;have b5:=bI.out;by_cases hlt:j<u
   ·have a5:((128*j:Nat):Int)<(L:Int):=J
    have aR:=G (show Ee a.heap.size j=Zb (some ⟨a.heap.size,128*j,none⟩) 128 128 from rfl);obtain⟨K,R⟩: ∃K,128*j=K:=⟨_,rfl⟩
    rw[R]at a5 aR⊢;have cb:K+128<=L:=J
    have bo:IntKind.i64.wrap ((K:Int)+128)=K+128:=Qc
    have ca:(K:Int)+128<=L:=J
    have b9:(K:Int)<=K+128:=J
    have bU: ¬(K+128=K):=J
    have aj:=aa wr (.cells #[Ee a.heap.size j] 36);have aS:=G (World.ownsRow.kept bg.out (aj.grownBy none) (by cases (Value.ownBlock (Zb af j I))<;>simp));have be:=G (aQ.out.ext aj);have bc:=G (aO.out.trans aj);have bh:=G (show(wr.alloc (.cells #[Ee a.heap.size j] 36)).heap[wr.heap.size]? =some (.cells [Ee a.heap.size j].toArray 36 (0,0))from aq wr _ _);have bX:=aQ.out.lt;have bR:=aO.out.size;have bp:(wr.alloc (.cells #[Ee a.heap.size j] 36)).heap.size=wr.heap.size+1:=World.size_alloc _ _;rw[aR.out]at bh aj aS be bc bp;clear aj
    go_upto_region 8 with(at_builtin;generalize ap:World.alloc wr _=cc at*;refine fj Ki rfl _ _ rfl o.heap.size (Zb af j I) j (FM a.heap.size j) rfl aS.out wr.heap.size [Zb (some ⟨a.heap.size,K,none⟩) 128 128] rfl bh.out rfl Qk J Qd J λbM bw aW a2 a7 bb=> ?_;have bf:=G a2;have bj:=G a7;have bL:=G bb;clear a2 a7 bb ap)
    rw[<-aR.out,BK]at bf;have am:=G (be.out.grown bj.out (λe=>bk.out e.symm))
    have H:=G (bc.out.grown bj.out λk e=>by
     have bv:=aS.out;rcases bv.2 with⟨aN,_⟩|⟨g',cap',cur,aN,h3,_⟩
     ·rw[aN]at e;simp[Value.ownBlock]at e
     ·rw[aN]at e;simp[Value.ownBlock]at e;omega)
    have bK:=G (show(Value.slice (some ⟨bM,0,none⟩) (j+1) bw).ownBlock≠some a.heap.size from λe=>by
     simp[Value.ownBlock]at e;rcases bL.out with V|V
     ·rw[e]at V;exact bk.out V.symm
     ·omega)
    go_wp2_with fail;go_roundw
    case rel=>exact⟨j+1,_,_,by rw[<-R];go_num,rfl,by omega,bf,am,H,bK⟩
    case measure=>simp[intOf];omega
   ·obtain rfl:j=u:=J
    have a5: ¬((128*j:Nat):Int)<(L:Int):=J
    go_wp2_with fail;go_ret;exact⟨_,_,rfl,bg.out,aQ.out,aO.out⟩
def rQ (f:pD) (R:Rs) (n:Nat):Oc×Int:=if gJ f=true then(uu (pR f).toNat R n ⟨B7 f.code f.data (mr f.code.length).toNat,ul f.entry,0⟩,0)else(⟨0,0,0,0,0,[],0⟩,1)
def As (l:List UInt8) (k:Nat):lO:=λi=>if i<k then l.getD i 0 else 0
theorem B6 (l:List UInt8):As l 0=λ_=>0:=by funext i;simp[As]
theorem Eu (l:List UInt8) (k n:Nat) (d:k+n<=l.length):lH (As l k) k ((l.drop k).take n)=As l (k+n):=by
 funext i;unfold lH As;have a:((l.drop k).take n).length=n:=Qg
 rw[a];by_cases h1:k<=i/\i<k+n
 ·rw[if_pos h1,if_pos J];simp only[bN,ch,h_];rw[if_pos J,show k+(i-k)=i by omega]
 ·rw[if_neg h1];by_cases h2:i<k
  ·rw[if_pos h2,if_pos J]
  ·rw[if_neg h2,if_neg J]
theorem Bg {L:List UInt8} {off:Nat} {b:List UInt8} (a:off+b.length<=L.length) (i:Nat):(wM L off b).getD i 0=if off<=i/\i<off+b.length then b.getD (i-off) 0 else L.getD i 0:=by
 unfold wM;simp only[bN,gt,bG,ch,h_];rw[show min off L.length=off by omega];by_cases h1:i<off
 ·rw[if_pos h1,if_pos h1,if_neg J]
 ·rw[if_neg h1];by_cases h2:i-off<b.length
  ·rw[if_pos h2,if_pos J]
  ·rw[if_neg h2,if_neg J,show off+b.length+(i-off-b.length)=i by omega]
theorem Il {f:pD} {U L:Nat} (o:f.code.length<=U) (h:U+f.data.length<=L):As (GK f U L) L=B7 f.code f.data U:=by
 funext i;have a:(List.replicate L (0:UInt8)).length=L:=iR ..;have d: ∀j,(List.replicate L (0:UInt8)).getD j 0=0:=λj=>by
  rw[bN,List.getElem?_replicate];split<;>rfl
 unfold As B7 GK;rw[Bg (by rw[nX (by rw[a];omega),a];omega),Bg (by rw[a];omega),d];by_cases c1:i<f.code.length
 ·rw[if_pos c1,if_pos J,if_neg J,if_pos J,Nat.sub_zero]
 ·rw[if_neg c1];by_cases c2:U<=i/\i<U+f.data.length
  ·rw[if_pos c2,if_pos c2,if_pos J]
  ·rw[if_neg c2,if_neg c2,if_neg (show ¬(0<=i/\i<0+f.code.length) by omega)];split<;>rfl
theorem BA (sz:Int) (g:Rg) (a:Option Addr) (n c:Nat):prog.built 113 [(1,Za i64 sz),(2,Zd g.cs),(3,Zb a n c)]=some (lK (λ_=>0)++oZ sz g (Zb a n c) (oz 0)).toArray:=by
 kernel_rfl
theorem zN {g:Rg} {ld:Int} {b0 b1 b2 b3:UInt8} (o:0<=g.pc/\g.pc<=4096) (d:oR g): -5000000000<=(po g ld (fW b0 b1 b2 b3)).1.pc/\(po g ld (fW b0 b1 b2 b3)).1.pc<=5000000000:=by
 cases hd:fW b0 b1 b2 b3 with
 |none=>simp only[po];omega
 |some x=>
  have h:=(qZ hd).v;unfold po;simp only;repeat' split
  all_goals try (simp only[Rg.upd];omega)
  ·unfold Io;have:=d x.a.toNat;split
   ·simp only;omega
   ·cases (g.r x.a.toNat==0)<;>simp only[cond]<;>omega
   ·simp only;omega
   ·simp only[wrap64];omega
structure xO (R:Rs) (s:Ru):Prop where
 g:oR s.g
 pc: -5000000000<=s.g.pc/\s.g.pc<=5000000000
 u:s.used<=R.length
theorem Gm {sz:Nat} {a:Rs} {t:xN} {s d:Ru} (h:xO a s) (e:FF sz a t s=.ok d):xO a d:=by
 unfold FF at e;split at e
 ·cases e
 split at e
 ·cases e
 split at e
 ·cases e
 ·rename_i r u;simp only at e;split at e
  ·cases e
  ·injection e with e;subst e;have o:s.used<a.length:=(List.getElem?_eq_some_iff.1 u).1;refine⟨λi=> ?_,h.pc,o⟩;unfold Rg.reply;simp only;split
   ·have:=xW r.1;unfold IL at this;omega
   ·exact h.g i
theorem DV {sz:Nat} {w:Rs} {s y:Ru} (d:xO w s) (e:qu sz w s=.ok y):xO w y:=by
 rw[x_]at e;split at e
 ·cases e
 rename_i z
 have A:=j9 (sz:=sz) (a:=s.g.pc) (n:=4) (by
  cases hm:gU sz s.g.pc 4 with
  |true=>rfl
  |false=>exact absurd (.inr hm) z) Qd
 split at e
 ·cases e
 have o:=(Cr (g:=s.g) (ld:=yl s (sr s)) (b0:=s.m s.g.pc.toNat) (b1:=s.m (s.g.pc.toNat+1)) (b2:=s.m (s.g.pc.toNat+2)) (b3:=s.m (s.g.pc.toNat+3)) d.g J).1;have h:=zN (g:=s.g) (ld:=yl s (sr s)) (b0:=s.m s.g.pc.toNat) (b1:=s.m (s.g.pc.toNat+1)) (b2:=s.m (s.g.pc.toNat+2)) (b3:=s.m (s.g.pc.toNat+3)) J d.g;change oR (po s.g (yl s (sr s)) (sr s)).1 at o;change-5000000000<=(po s.g (yl s (sr s)) (sr s)).1.pc/\(po s.g (yl s (sr s)) (sr s)).1.pc<=5000000000 at h;unfold Cs at e;split at e
 ·cases e
 split at e
 ·exact Gm (s:=⟨_,_,s.used⟩) ⟨o,h,d.u⟩ e
 ·injection e with e;subst e;exact⟨o,h,d.u⟩
theorem Bx {a:World} {base n:Nat} {e:TypeId} {v:Value} {xs:List Value} (u:a.ownsRow base e 1 v n xs) (w:0<n): ∃g o,v=Zb (some ⟨g,0,none⟩) n o/\base<=g/\g<a.heap.size/\n<=o/\ ∀i x,xs[i]? =some x->a.cell? ⟨g,i,none⟩=some x:=by
 rcases u.2 with⟨h,y⟩|⟨g,c,cur,h,hb,hg,hnc,_,_,ht⟩
 ·omega
 ·refine⟨g,c,h,hb,(Array.getElem?_eq_some_iff.1 hg).1,hnc,λi x d=> ?_⟩;rw[cell_of_row a g i cur e (0,0) hg];rw[<-ht,ch]at d;split at d
  ·simpa using d
  ·cases d
theorem wl {P:Program} {o:World} {ops:Array Oper} {rest:List Oper} {a:Oper} {h:Act} {Q:Exit->Act->World->Prop} (z:a.guard=none) (t:TypeId) (d:Array (Nat×Operand)) (y:a.op=.build t d) (w:Array Value)
  (u:P.built t (d.map fun(i,x)=>(i,h.eval x)).toList=some w) (F:wpList P ops Q rest (h.put a.dst (Zd w)) o):wpList P ops Q (a::rest) h o:=
 wpList_plain z λK A=>wp_build t d y (by rw[u];rfl) (by rw[u];exact A _ _ F)
theorem Gt (n:Int):oR (ul n):=λi=>by unfold ul;simp only;split<;>omega
theorem Id {d:World} {g:Nat} {e:TypeId} {l:List UInt8} (a:Rw d g e l) (off n c:Nat) (w:off+n<=l.length) (u:n<=c) (o:c<=maxLen):Sl d (some ⟨g,off,none⟩) c ((l.drop off).take n):=by
 have h:((l.drop off).take n).length=n:=Qg
 refine⟨by rw[h];exact u,o,(λa=>by cases a),.inr ⟨g,off,rfl,a.lt,λi hi=> ?_⟩⟩;rw[h]at hi;rw[cell_of_row d g (off+i) _ e (0,0) a];simp[iM,rz,show off+i<l.length by omega]
theorem H6 {d:World} {u:Option Addr} {c g:Nat} {l:List UInt8} {t:TypeId} (A:Sl d u c l) (w:aO d g t #[Za i64 0,Za i64 0,Za i64 0,Za i64 0,Za i64 0,Zb none 0 0,Za i64 0]) (b i:Nat) (e:u=some ⟨b,i,none⟩) (h:l≠ []):b≠g:=by
 rintro rfl;rcases A.rd with a|⟨b',o,ha,_,hc⟩
 ·exact h a
 ·rw[e]at ha;injection ha with ha;injection ha with z y;subst z y;have a:=hc 0 (List.length_pos_iff.2 h);rw[w.cell,bx]at a
  iterate 7 (rcases i with _|i;(simp at a))
  simp at a
theorem RB.outs {a:World} {b:Nat} {M:lO} {sz:Int} {g:Rg} {h:Value} {d:List Value} (u:RB a b M sz g h d):a.rangeAt b 4115 d:=λj v o=>(u.out j).trans o
theorem xt {a:World} {g:Nat} {u0 u1 u2 u3 u4 u5 u6:Value} (d:Hid (aO a g 49 #[u0,u1,u2,u3,u4,u5,u6])):(loadVar 49 ⟨g,0,none⟩).run prog a=.ok (Zd #[u0,u1,u2,u3,u4,u5,u6]) a:=
 run_loadVar_row a g _ _ _ _ _ d underlying49 rfl Qb
theorem yQ (f:pD) (aQ B:Option Addr) (c aK:Nat) (a:Rs) (bh:Value) (N:Nat) (cX:N<=1000000000) (z:World) (aE:FT z) (aC:Sl z aQ c f.code) (aV:Sl z B aK f.data) (aU:f.code.length<=1000000000) (ag:f.data.length<=1000000000) (a9:wk z (λ_=>True) bh a) (Z:a.length<=1000000000):
  Calls prog 18 #[f.val aQ B c aK,bh,Za i64 (N:Int)] z λe w'=>au z w'/\ ∃bX c2,e=.returned (Zg #[Zd (JE (rQ f a N).1 bX c2).toArray,Za i64 (rQ f a N).2])/\Sl w' bX c2 (rQ f a N).1.data:=by
 have aF:=G (λW (y:au z W)=>nG f aQ B c aK W (aE.ext y) (aC.ext y) aU ag);have bT:=G aE;have cx:=G aC;have cv:=G aV;have bc:=G (a9.mono (Q:=λb=>b<z.heap.size) λb _ y=>y);have a1:=G (show rQ f a N=if gJ f=true then(uu (pR f).toNat a N ⟨B7 f.code f.data (mr f.code.length).toNat,ul f.entry,0⟩,0)else(⟨0,0,0,0,0,[],0⟩,1)from rfl);generalize rQ f a N=bW at*
 cases hv:gJ f with
 |false=>
  have aj:=G (show bW=(⟨0,0,0,0,0,[],0⟩,1) by rw[a1.out,if_neg (by rw[hv];decide)]);rw[hv]at aF;clear a1 aE aC aV a9 hv;unfold pD.val at*;go_enter func18,ntmps18
  go_upto_region 1 with fail
  generalize A:World.alloc (World.alloc z _) _=W0;obtain⟨d,q,F,s⟩:=IF A;replace d:=G d;clear A;have ad:=q.out.cell;go_wp2_with (first|(go_at_call 41;refine(aF.out _ d.out).mono ?_;rintro e aS ⟨rfl,o⟩;replace d:=kx d o;replace F:=kb F o;clear aF ad o;have c1:=F.out.cell;have cq:=F.out.frozen));generalize A:World.setCell _ _ _=W8;obtain⟨b4,aI,ao⟩:=nc A F;have cm:=ao _ d J;have Z:=xt b4;clear A aI ao c1 cq;refine bodyPost_ret (v:=Zg #[Zd #[Za i64 0,Za i64 0,Za i64 0,Za i64 0,Za i64 0,Zb none 0 0,Za i64 0],Za i64 1]) ?_ rfl ⟨cm.out,none,0,by rw[aj.out];rfl,by rw[aj.out];exact ep _⟩;simp[results,results18,asAddr,Z,Act.put]
 |true=>
  obtain⟨w,ai,bY,bj,U,R,u1,u2⟩:=It hv;obtain⟨_,_,_,_,e0,ct,_⟩:=sP hv;have aj:=G (show bW=(uu (128*w) a N ⟨B7 f.code f.data U,ul f.entry,0⟩,0) by rw[a1.out,if_pos hv,ai,R];rfl);have bz:=G (λW (y:au z W)=>sm f aQ B c aK w W (aE.ext y) (aC.ext y) hv aU ag ai bj);have bM:=G (λW (y:au z W)=>xA f aQ B c aK w U W (aE.ext y) (aC.ext y) (aV.ext y) hv aU ag ai bY bj R u1 u2);have bO:=G (Il (L:=128*w) u1 u2)
  have aG:=G (show(GK f U (128*w)).length=128*w by
   unfold GK;have af:(List.replicate (128*w) (0:UInt8)).length=128*w:=iR ..
   rw[nX (by rw[nX (by rw[af];omega),af];omega),nX (by rw[af];omega),af])
  have bG:=G (λW=>y' f.entry W);rw[hv]at aF;obtain⟨I,V,X,rfl,cd⟩:=bc.out.form;have cG:=G (show-5000000000<=f.entry/\f.entry<=5000000000 by omega);have bF:=G (fun(W:World) (b:Nat) (s:Ru) (cl:RB W b s.m (128*w:Nat) s.g (Zb I V X) (oz s.used)) (cj:FT W) (af:wk W (λk=>k≠b) (Zb I V X) a) (a5:xO a s)=>Bb b s.m (128*w) s.g (Zb I V X) s.used a W cl cj af a5.u Z J a5.g a5.pc);clear a1 aE aC aV a9 hv aU ag ai R u1 u2 Z cd e0 ct cx cv;unfold pD.val at*;rw[<-bO.out]at aj;clear bO;generalize GK f U (128*w)=ap at*;generalize f.code.length=n at*;generalize f.data.length=m at*;generalize f.zero=cI at*;generalize f.entry=en at*;obtain⟨L,aW⟩: ∃L,128*w=L:=⟨_,rfl⟩
  have cN:IntKind.i64.wrap ((w:Int)*128)=(L:Int):=by rw[<-aW];simp[IntKind.wrap,IntKind.signed,IntKind.bits];omega
  rw[aW]at aj aG bF;have bQ:=G aW;clear aW;go_enter func18,ntmps18
  go_upto_region 1 with fail
  generalize A:World.alloc (World.alloc z _) _=W0;obtain⟨d,q,F,s⟩:=IF A;replace d:=G d;clear A;have ad:=q.out.cell
  go_upto_region 3 with(first|(go_at_call 41;refine(aF.out _ d.out).mono ?_;rintro e aS ⟨rfl,o⟩;replace d:=kx d o;replace F:=kb F o;replace q:=kb q o;clear aF ad o;have ad:=q.out.cell))
  refine aB 7 6 [(1,λv=>v=Za i64 (w:Int),λ_ _=>True),(5,λv=>v=Zd (ul en).cs,λ_ _=>True)] mixed Qb ⟨λ_ _ _ _ _=>trivial,λ_ _ _ _ _=>trivial,trivial⟩ ?_;repeat (refine sx ?_ (λaS R=> ?_) ?_;rotate_left;(focus have ad:=(q.out.ext R.un).cell;clear R;go_simp<;>with_reducible rfl);simp only[bE,bD,bC,bB,bA])
  refine so (λan R ai K av=> ?_) ?_
  ·clear ai;go_simp;refine(bz.out an (d.out.trans R.un)).mono ?_;rintro e a2 ⟨rfl,o⟩;exact av _ _ o rfl trivial
  rintro _ rfl;simp only[bE,bD,bC,bB,bA];repeat (refine sx ?_ (λaS R=> ?_) ?_;rotate_left;(focus have ad:=(q.out.ext R.un).cell;clear R;go_simp<;>with_reducible rfl);simp only[bE,bD,bC,bB,bA])
  refine so (λan R ai K av=> ?_) ?_
  ·clear ai;go_simp;refine(bG.out an).mono ?_;rintro e a2 ⟨rfl,o⟩;exact av _ _ o rfl trivial
  rintro _ rfl;simp only[bE,bD,bC,bB,bA];repeat (refine sx ?_ (λaS R=> ?_) ?_;rotate_left;(focus have ad:=(q.out.ext R.un).cell;clear R;go_simp<;>with_reducible rfl);simp only[bE,bD,bC,bB,bA])
  intro aq aT ai;replace d:=kx d aT.un;replace F:=kb F aT.un;replace q:=kb q aT.un;clear ai aT bz bG ad;simp only[ae,aw];refine wl rfl 113 _ rfl _ (by simp only[dx,bL,dz];exact(congrArg (Program.built prog 113) (show _=[(1,Value.int i64 (L:Int)),(2,Zd (ul en).cs),(3,Zb I V X)]from rfl)).trans (BA (L:Int) (ul en) I V X)) ?_
  go_upto_region 4 with fail
  have cW:z.heap.size+1<aq.heap.size:=F.out.lt;have bP:=G (show ∀W,Mv (λk=>k=aq.heap.size) (aq.alloc (.cells (lK (λ_=>0)++oZ (L:Int) (ul en) (Zb I V X) (oz 0)).toArray 113)) W->au z W from λW ag=>((cT d.out).trans ((cT (aa aq _)).trans ag)).ext λk a6 e=>by omega);generalize A:World.alloc aq _=bw at*;obtain⟨o,bi,cM⟩:=lC A;replace d:=kx d o;replace F:=kb F o;replace q:=kb q o;have bf:=G (show RB bw aq.heap.size (λ_=>0) (L:Int) (ul en) (Zb I V X) (oz 0)from bi.out);generalize aq.heap.size=b at*;clear A o bi;have ad:=q.out.cell
  go_upto_region 5 with(go_at_call 44;refine(bM.out _ d.out).mono ?_;rintro e an ⟨ax,cK,rfl,bn,bp,o⟩;obtain⟨cp,cZ,rfl,cS,cg,cU,bo⟩:=Bx bn J;have bK:=G bo;have aX:=G bp;have aH:=G o;clear bM bn bp o ad bo)
  have cV:b<bw.heap.size:=ry bf.out;have aZ:=G (bf.out.ext aH.out);have bl:=kb F aH.out;have ci:=aX.out.lt;have bR:=G (bT.out.ext (d.out.trans aH.out));have cy:=G (show wk an (λk=>k≠b) (Zb I V X) a from(bc.out.keep ((cT (S:=λk=>k=b) (d.out.trans aH.out)).keepP λk y _=>by omega)).mono λk y _=>by omega);have ch:ax≠b:=λe=>by
   have aJ:some _=some _:=aX.out.symm.trans (e▸aZ.out);injection aJ with aJ;injection aJ with aJ _ _;have co:=congrArg Array.size aJ;rw[gd,gd,H,cA,jT,aG.out]at co;have:=bQ.out;omega
  have cn:=FW bR.out aZ.out;clear bf q d F bT bc;have bV:=G (show RB an b (As ap (128*0)) (L:Int) (ul en) (Zb I V X) (oz 0) by rw[Nat.mul_zero,B6];exact aZ.out)
  go_loopw [27] (λv wr=> ∃j:Nat,v=Za i64 (j:Int)/\j<=w/\Hid (RB wr b (As ap (128*j)) (L:Int) (ul en) (Zb I V X) (oz 0))/\Hid (Mv (λk=>k=b) an wr)) (λv _=>w-(intOf v).toNat)
  case atStart=>exact⟨0,rfl,aD _,bV,G (gG _ _)⟩
  case round=>
   obtain⟨j,rfl,cR,aO,aN⟩:=hrel;clear bV aZ;have cE:=bQ.out;by_cases hlt:j<w
   ·have cf:(j:Int)<(w:Int):=J
    obtain⟨K,av⟩: ∃K,128*j=K:=⟨_,rfl⟩
    have a4:=bK.out j (Ee ax j) (by simp[FM,hlt]);have cz:=G (show Ee ax j=Zb (some ⟨ax,K,none⟩) 128 128 by rw[<-av];rfl);rw[cz.out]at a4;have ck:=((aN.out.keepP (P:=λk=>k≠b) λk y _=>y).cell j (show cp≠b by omega) cg).trans a4;have cB:=G (show Rw wr ax 5 ap from(aN.out.block ax ci ch).trans aX.out);have am:=G (Id cB.out K 128 128 (by rw[aG.out];omega) Qd Qd);have cb:IntKind.i64.wrap ((j:Int)*128)=(K:Int):=by rw[<-av];simp[IntKind.wrap,IntKind.signed,IntKind.bits];omega
    have cO:=λz=>H9 b K J z;have cD:=G (show((ap.drop K).take 128).length=128 by simp[aG.out];omega);rw[av]at aO
    go_upto_region 8 with(refine nT rfl _ _ rfl aO.out K (4096-K) (4096-K) rfl (some ⟨ax,K,none⟩) 128 128 ((ap.drop K).take 128) cD.out rfl am.out J J λa2 cL bu bq _=> ?_;have bU:=G bu;have cC:=G (aN.out.trans bq);clear bu bq ck a4)
    rw[Eu _ _ _ (by rw[aG.out];omega)]at bU;have cH:=G (show RB a2 b (As ap (128*(j+1))) (L:Int) (ul en) (Zb I V X) (oz 0) by rw[show 128*(j+1)=K+128 by omega];exact bU.out);go_wp2_with fail;go_roundw
    case rel=>exact⟨j+1,by go_num,by omega,cH,cC⟩
    case measure=>simp[intOf];omega
   ·obtain rfl:j=w:=J
    have cf: ¬(j:Int)<j:=J
    rw[cE]at aO;generalize wr=cJ at*;obtain⟨O,al⟩: ∃O,uu L a N ⟨As ap L,ul en,0⟩=O:=⟨_,rfl⟩
    rw[al]at aj;have bN:=G al;have bI:=G (show xO a ⟨As ap L,ul en,0⟩from⟨Gt en,cG.out,aD _⟩);clear al bK aX aG
    go_upto_region 9 with fail
    go_loopw [2] (λv wr=> ∃(k:Nat) (s:Ru),v=Za i64 (k:Int)/\k<=N/\Hid (RB wr b s.m (L:Int) s.g (Zb I V X) (oz s.used))/\Hid (xO a s)/\Hid (uu L a k s=O)/\Hid (Mv (λk=>k=b) an wr)) (λv _=>(intOf v).toNat)
    case atStart=>exact⟨N,_,rfl,ah _,aO,bI,bN,aN⟩
    case round=>
     obtain⟨k,s,rfl,a6,aY,bJ,bd,aM⟩:=hrel;clear aO bI bN aN;have br: ¬z.heap.size+1=b:=J
     rcases k with _|k
     ·have al:O=⟨3,0,0,0,0,[],s.used⟩:=bd.out.symm;have ce: ¬(0:Int)<0:=J
      have ad:=aY.out.out 0;have cr:=aY.out.frz 4115;simp only[bx,oz,cP]at ad;have aP:=G (show RB (wr.setCell ⟨b,4115,none⟩ (Za i64 3)) b s.m (L:Int) s.g (Zb I V X) [Za i64 3,Za i64 0,Za i64 0,Za i64 0,Za i64 0,Zb none 0 0,Za i64 (s.used:Int)]from aY.out.setOut 0 (Za i64 3));have az:=G (aM.out.trans (Es wr b 4115 (Za i64 3)))
      go_upto_region 14 with fail
      generalize World.setCell wr _ _=bv at*;have aA:=G (pE az.out bl.out br);clear ad cr;go_wp2_with (first|(refine wpList_load_mid rfl 49 _ rfl b 4115 rfl _ _ aP.out.outs underlying49 rfl Qb ?_)|(refine wpList_store_row rfl 49 _ _ rfl _ _ rfl rfl _ _ aA.out Qb rfl Qk ?_;generalize A:World.setRow bv _ _=W10;obtain⟨a3,_,aI,ao⟩:=ro A aA));have Z:=xt a3;have a7:=G (bP.out bv ((cT aH.out).trans az.out));have a8:=ao _ a7 J;clear A aI ao;refine bodyPost_ret (v:=Zg #[Zd #[Za i64 3,Za i64 0,Za i64 0,Za i64 0,Za i64 0,Zb none 0 0,Za i64 (s.used:Int)],Za i64 0]) ?_ rfl ⟨a8.out,none,0,by rw[aj.out,al];rfl,by rw[aj.out,al];exact ep _⟩;simp[results,results18,asAddr,Z,Act.put]
     ·have ce:(0:Int)<((k+1:Nat):Int):=J
      have cb:IntKind.i64.wrap (((k+1:Nat):Int)-1)=(k:Int):=Qc
      have cQ:(0:Int)<(k:Int)+1:=J
      have bS:=G (show FT wr from bR.out.mv cn aM.out);have ay:=G (show wk wr (λk=>k≠b) (Zb I V X) a from cy.out.keep (aM.out.keepP λk y _=>y));have am:=G (bF.out wr b s aY.out bS.out ay.out bJ.out);have aL:=G (show O=match qu L a s with| .error F=>F| .ok ar=>uu L a k ar from bd.out.symm);have be:=G (λar (y:qu L a s=.ok ar)=>DV bJ.out y);have bH:=G (show qu L a ⟨s.m,s.g,s.used⟩=qu L a s from rfl);rw[bH.out]at am;clear bH bd bS ay
      cases hst:qu L a s with
      |error oc=>
       rw[hst]at am aL;have al:O=oc:=aL.out;clear hst be
       go_upto_region 12 with(go_at_call 45;refine am.out.mono ?_;rintro e aR ⟨ag,rfl,af⟩;have az:=G (aM.out.trans ag);have ay:=G af;clear am ag af)
       obtain⟨c0,cY,bg,ba,bt,bm⟩:=ay.out;have aP:=G bt;have bb:=G bm;clear bt bm ay;have aA:=G (pE az.out bl.out br);obtain⟨b9,b8,b7,b6,b5,bk,bZ⟩:=oc;unfold JE at aP;simp only at aP bb;go_wp2_with (first|(refine wpList_load_mid rfl 49 _ rfl b 4115 rfl _ _ aP.out.outs underlying49 rfl Qb ?_)|(refine wpList_store_row rfl 49 _ _ rfl _ _ rfl rfl _ _ aA.out Qb rfl Qk ?_;generalize A:World.setRow aR _ _=W10;obtain⟨a3,_,aI,ao⟩:=ro A aA));have Z:=xt a3;have a7:=G (bP.out aR ((cT aH.out).trans az.out));have a8:=ao _ a7 J
       have cw:=G (show Sl W10 bg ba bk from by
        subst A
        refine bb.out.keepP (P:=λk=>k≠z.heap.size+1) ⟨by simp,λk a6 Z=>setRow_other aR _ k _ a6⟩ λb1 ca e cc=>H6 bb.out aA.out b1 ca e cc)
       clear A aI ao;refine bodyPost_ret (v:=Zg #[Zd #[Za i64 b9,Za i64 b8,Za i64 b7,Za i64 b6,Za i64 b5,Zb bg bk.length ba,Za i64 (bZ:Int)],Za i64 0]) ?_ rfl ⟨a8.out,bg,ba,by rw[aj.out,al];rfl,by rw[aj.out,al];exact cw.out⟩;simp[results,results18,asAddr,Z,Act.put]
      |ok ar=>
       rw[hst]at am aL;have cu:=G (show uu L a k ar=O from aL.out.symm);have cF:=G (be.out ar hst);clear hst be aL;go_wp2_with (go_at_call 45;refine am.out.mono ?_;rintro e aR ⟨ag,rfl,af⟩;have az:=G (aM.out.trans ag);have ay:=G af;clear am ag af);go_roundw
       case rel=>exact⟨k,ar,by go_num,by omega,ay,cF,cu,az⟩
       case measure=>simp[intOf]
end
end Go.Proofs.YtoedmpgicdekmaaGreatDoor
