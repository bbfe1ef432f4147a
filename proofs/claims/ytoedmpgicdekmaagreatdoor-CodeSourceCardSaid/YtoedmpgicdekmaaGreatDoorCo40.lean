/- Parts of the proof. -/
import Derived.Test.YtoedmpgicdekmaaGreatDoorCo39
set_option maxRecDepth 100000
set_option maxHeartbeats 8000000
set_option linter.all false
namespace Go.Proofs.YtoedmpgicdekmaaGreatDoor
open Value renaming int->Za,slice->Zb,string->Zc,agg->Zd,tuple->Zg
open IntKind(i64)
open Go.Proofs.Tryz
section
open Go.RowKit
def nq (s:List UInt8):List UInt8×Int:=
 if(dB s).2.2=0 then(if(iO (dB s).1).2=0 then(if(dD (dB s).1).2=0 then r_ (dD (dB s).1).1 else([],(dD (dB s).1).2))else([],(iO (dB s).1).2))else([],(dB s).2.2)
theorem rg {p:Pg} (a:(dD p).2=0):(r_ (dD p).1).2=0/\(dD p).1.code.length<=1536/\(dD p).1.data.length<=1536:=by
 have u: ∀f:pD,(r_ f).2=0->f.code.length<=1536/\f.data.length<=1536:=λf a=>by
  unfold r_ at a;split at a
  ·split at a
   ·exact absurd a Qd
   ·rename_i d;unfold j6 wW at d;simp only[H]at d;omega
  ·exact absurd a Qd
 have h:(r_ (dD p).1).2=0:=by
  unfold dD at a⊢;split at a
  ·rename_i w;rw[if_pos w];unfold EL at a⊢;split at a
   ·exact absurd a Qd
   ·rename_i z;rw[if_neg z];simp only at a⊢;split at a
    ·rename_i y;rw[if_pos y];split at a
     ·rename_i o;rw[if_pos o];exact o
     ·exact absurd a Qd
    ·exact absurd a Qd
  ·exact absurd a Qd
 exact⟨h,u _ h⟩
theorem tp {a w':World} {o B:Option Addr} {n c m h:Nat} {P:Nat->Prop} {p:Pg} (u:nM a P (Zb o n c) p.vs) (w:nP a P (Zb B m h) p.fs) (d:au a w'):nM w' (λ_=>True) (Zb o n c) p.vs/\nP w' (λ_=>True) (Zb B m h) p.fs:=
 ⟨u.keep (.of_ext d) (Q:=λ_=>True) (λ_ _ _=>trivial),w.keep (.of_ext d) (Q:=λ_=>True) (λ_ _ _=>trivial)⟩
structure Kc (w:World) (s:List UInt8):Prop where
 pa: ∀W,au w W->Calls prog 22 #[Zc (Z s)] W λe w'=>au W w'/\ ∃A n c B m d,e=.returned (Zg #[Zd #[Zb A n c,Zb B m d],Za i64 (dB s).2.1,Za i64 (dB s).2.2])/\nM w' (λ_=>True) (Zb A n c) (dB s).1.vs/\nP w' (λ_=>True) (Zb B m d) (dB s).1.fs
 ck: ∀(W:World) (A B:Option Addr) (n c m d:Nat),au w W->nM W (λ_=>True) (Zb A n c) (dB s).1.vs->nP W (λ_=>True) (Zb B m d) (dB s).1.fs->Calls prog 11 #[Zd #[Zb A n c,Zb B m d]] W λe w'=>e=.returned (Zg #[Zc (Z (iO (dB s).1).1),Za i64 (iO (dB s).1).2])/\au W w'
 co: ∀(W:World) (A B:Option Addr) (n c m d:Nat),au w W->nM W (λ_=>True) (Zb A n c) (dB s).1.vs->nP W (λ_=>True) (Zb B m d) (dB s).1.fs->Calls prog 12 #[Zd #[Zb A n c,Zb B m d]] W λe w'=>(∃A c B d,e=.returned (Zg #[Zd #[Zb A (dD (dB s).1).1.code.length c,Zb B (dD (dB s).1).1.data.length d,Za i64 (dD (dB s).1).1.zero,Za i64 (dD (dB s).1).1.entry],Za i64 (dD (dB s).1).2])/\Sl w' A c (dD (dB s).1).1.code/\Sl w' B d (dD (dB s).1).1.data)/\au W w'
 mak:(dD (dB s).1).2=0-> ∀(W:World) (A B:Option Addr) (c d:Nat),au w W->Sl W A c (dD (dB s).1).1.code->Sl W B d (dD (dB s).1).1.data->Calls prog 24 #[Zd #[Zb A (dD (dB s).1).1.code.length c,Zb B (dD (dB s).1).1.data.length d,Za i64 (dD (dB s).1).1.zero,Za i64 (dD (dB s).1).1.entry]] W λe w'=>au W w'/\ ∃A2 c2,e=.returned (Zg #[Zb A2 (r_ (dD (dB s).1).1).1.length c2,Za i64 0])/\Sl w' A2 c2 (r_ (dD (dB s).1).1).1
theorem Bh (s:List UInt8) (o:World) (X:EZ o) (y:ew o o.heap.size) (V:BT o) (R:FT o):Kc o s:=by
 have ae:=Gz s;refine⟨λW a=> ?_,λW h B n c m d a u w=> ?_,λW h B n c m d a u w=> ?_,λG W h B c d a F A=> ?_⟩
 ·refine(rY s W (X.ext a) (gR y a)).mono λe w' z=> ?_;obtain⟨a,h,n,c,B,m,d,aa,u,w⟩:=z;obtain⟨F,A⟩:=tp u w (.refl _);exact⟨a,h,n,c,B,m,d,aa,F,A⟩
 ·exact pu (dB s).1 J _ W h B n c m d u w (gR y a) (V.ext a)
 ·exact pU (dB s).1 J (Iv _ J) W h B n c m d u w (gR y a) (V.ext a) (R.ext a)
 ·obtain⟨I,ag,af⟩:=rg G;refine(vg (dD (dB s).1).1 h B c d W (R.ext a) F A J J).mono λe w' z=> ?_;obtain⟨a,H,ad,c2,rfl,rfl,G⟩:=z;rw[I];exact⟨a,H,c2,rfl,G⟩
theorem J9 (h B:Option Addr) (n c m d:Nat) {p:Pg} {o a:World} (z:au o a) (w:nM a (λ_=>True) (Zb h n c) p.vs) (y:nP a (λ_=>True) (Zb B m d) p.fs) (t:TypeId):
  Hid (au o (a.alloc (.cells #[Zb h n c,Zb B m d] t)))/\Hid (aO (a.alloc (.cells #[Zb h n c,Zb B m d] t)) a.heap.size t #[Zb h n c,Zb B m d])/\Hid (nM (a.alloc (.cells #[Zb h n c,Zb B m d] t)) (λ_=>True) (Zb h n c) p.vs)/\Hid (nP (a.alloc (.cells #[Zb h n c,Zb B m d] t)) (λ_=>True) (Zb B m d) p.fs):=by
 have u:=aa a (.cells #[Zb h n c,Zb B m d] t);obtain⟨F,A⟩:=tp w y u;exact⟨G (z.trans u),G (aq a _ _),G F,G A⟩
theorem CO (s:List UInt8) (w0 w:World) (z:au w0 w) (o:Kc w0 s):Calls prog 23 #[Zc (Z s)] w λe w'=>au w w'/\ ∃d c,e=.returned (Zg #[Zb d (nq s).1.length c,Za i64 (nq s).2])/\Sl w' d c (nq s).1:=by
 obtain⟨aC,aE,aF,aD⟩:=o;have bd:=G z;have av:=G (aC w z);have aw:=G (λW (o:au w W) d B n c m u=>aE W d B n c m u (z.trans o));have af:=G (λW (o:au w W) d B n c m u=>aF W d B n c m u (z.trans o));have A:=G (show nq s=if(dB s).2.2=0 then(if(iO (dB s).1).2=0 then(if(dD (dB s).1).2=0 then r_ (dD (dB s).1).1 else([],(dD (dB s).1).2))else([],(iO (dB s).1).2))else([],(dB s).2.2)from rfl);have ae:=G (fun(o:(dD (dB s).1).2=0) W (aR:au w W) d B c u=>aD o W d B c u (z.trans aR));have ad:=G (fun(o:(dD (dB s).1).2=0)=>(rg o).1);clear aC aE aF aD z;generalize nq s=bc at*;generalize dB s=r at*;obtain⟨p,ba,en⟩:=r;try simp only at av aw af A ae ad
 generalize iO p=aJ at*;generalize dD p=aU at*;obtain⟨⟨aL,aI,F,V⟩,aK⟩:=aU;try simp only at af A ae ad
 generalize r_ ⟨aL,aI,F,V⟩=mk at*;generalize aS:aL.length=al at*;generalize aT:aI.length=aj at*;clear aS aT;go_enter func23,ntmps23
 go_upto_region 2 with(go_at_call 22;refine av.out.mono ?_;rintro e aQ ⟨a,d,n,c,B,m,u,rfl,aG,aH⟩;obtain⟨H,ay,ao,ax⟩:=J9 d B n c m u a aG aH 31;clear a aG aH av)
 generalize aQ.alloc (.cells #[Zb d n c,Zb B m u] 31)=bb at*;by_cases h1:en=0
 ·subst h1;have ar:=G (A.out.trans (if_pos rfl));have c1:=ay.out.cell
  go_upto_region 5 with(go_at_call 11;refine(aw.out _ H.out _ _ _ _ _ _ ao.out ax.out).mono ?_;rintro e a6 ⟨rfl,a⟩;have I:=G (H.out.trans a);have am:=tp ao.out ax.out a;have aM:=G am.1;have aO:=G am.2;have aP:=G (ay.out.ext a);clear a am H ao ax ay c1 aw)
  by_cases h2:aJ.2=0
  ·have ap:=G (ar.out.trans (if_pos h2));have c1:=aP.out.cell;rw[h2]
   go_upto_region 8 with(go_at_call 12;refine(af.out _ I.out _ _ _ _ _ _ aM.out aO.out).mono ?_;rintro e ai ⟨⟨ah,c2,ag,X,rfl,aA,az⟩,a⟩;have R:=aa ai (.cells #[Zb ah al c2,Zb ag aj X,Za i64 F,Za i64 V] 38);have an:=G (I.out.trans (a.trans R));have a3:=G (aq ai 38 #[Zb ah al c2,Zb ag aj X,Za i64 F,Za i64 V]);have a1:=G (aA.ext R);have aY:=G (az.ext R);clear a R aA az I aM aO aP af c1)
   generalize ai.alloc (.cells #[Zb ah al c2,Zb ag aj X,Za i64 F,Za i64 V] 38)=aW at*;by_cases h3:aK=0
   ·subst h3;have y:=G (ap.out.trans (if_pos rfl));have aN:=G (ae.out rfl aW an.out ah ag c2 X a1.out aY.out);have a2:=G (ad.out rfl);have c1:=a3.out.cell;clear A ar ap ae ad;go_wp2_with (go_at_call 24;refine aN.out.mono ?_;rintro e a5 ⟨a,a4,aV,rfl,aB⟩;have aX:=G (an.out.trans a);have aZ:=G aB;clear a aB aN);go_ret2;rw[y.out,a2.out];exact⟨aX.out,a4,aV,rfl,aZ.out⟩
   ·have a7:(aK !=0)=true:=bne_iff_ne.2 h3;have y:=G (ap.out.trans (if_neg h3));go_wp2_with fail;go_ret2;rw[y.out];exact⟨an.out,none,0,rfl,ep _⟩
  ·have a8:(aJ.2 !=0)=true:=bne_iff_ne.2 h2;have y:=G (ar.out.trans (if_neg h2));go_wp2_with fail;go_ret2;rw[y.out];exact⟨I.out,none,0,rfl,ep _⟩
 ·have a9:(en !=0)=true:=bne_iff_ne.2 h1;have y:=G (A.out.trans (if_neg h1));go_wp2_with fail;go_ret2;rw[y.out];exact⟨H.out,none,0,rfl,ep _⟩
theorem EP (g:Rg) (b A c:Nat) (b0 b1 b2 b3:UInt8) (ld:Int) (w:World) (ag:FT w) (ah:wa w b A b0 b1 b2 b3) (af:4<=c) (ad:c<=maxLen) (H:fW b0 b1 b2 b3=none):
  Calls prog 92 #[Zd g.cs,Zb (some ⟨b,A,none⟩) 4 c,Za i64 ld] w λe w'=>e=.returned (Zg #[Zd g.cs,Za i64 0,Zd #[Za i64 2,Za i64 1,Za i64 0,Za i64 0,Za i64 0,Za i64 0,Za i64 0]])/\au w w':=by
 have X:=G (λW (ai:au w W)=>show Calls prog 86 #[Zb (some ⟨b,A,none⟩) 4 c] W λe w'=>e=Cv none/\au W w' from by
  have:=fy b A c b0 b1 b2 b3 W (ag.ext ai) (ah.ext ai) af ad;rw[H]at this
  exact this)
 unfold Cv at X;clear ag ah H af ad;go_enter func92,ntmps92
 go_upto_region 1 with fail
 generalize u:World.alloc (World.alloc (World.alloc w _) _) _=W0;obtain⟨d,r,q,a,s⟩:=F8 u;replace d:=G d;clear u
 go_upto_region 2 with(go_at_call 86;refine(X.out _ d.out).mono ?_;rintro e I ⟨rfl,o⟩;clear X;replace d:=kx d o;replace r:=kb r o;replace q:=kb q o;replace a:=kb a o)
 generalize u:World.alloc I _=W1;obtain⟨o,x,aA⟩:=lC u;replace d:=kx d o;replace r:=kb r o;replace q:=kb q o;replace a:=kb a o;clear u o;have ay:=G (λW=>tU 1 W);have av:=x.out.cell;have ax:=r.out.cell;have ar:True:=trivial
 go_upto_region 3 with fail
 refine aB 2 2 [(1,λv=>v=Zd #[Za i64 2,Za i64 1,Za i64 0,Za i64 0,Za i64 0,Za i64 0,Za i64 0],λ_ _=>True)] mixed Qb ⟨λ_ _ _ _ _=>trivial,trivial⟩ ?_;clear av ax ar;refine sx ?_ (λI V=> ?_) ?_;rotate_left;(focus rw[oE 109 (.tmp 3) rfl w.heap.size rfl _ (dm (kb r V.un))]);simp only[bE,bD,bC,bB,bA];refine so (λZ V R K aq=> ?_) ?_
 ·clear R V;go_simp;refine(ay.out Z).mono ?_;rintro e az ⟨rfl,o⟩;exact aq _ _ o rfl trivial
 rintro _ rfl;simp only[bE,bD,bC,bB,bA];intro aa F R;replace d:=kx d F.un;replace q:=kb q F.un;replace a:=kb a F.un;have aC:w.heap.size+1+1<aa.heap.size:=a.out.lt;clear R F r x;simp only[ae,aw];go_wp2_with (refine wpList_store_row rfl 109 _ _ rfl _ _ rfl rfl _ _ q.out Qb rfl (f8 _) ?_;generalize u:World.setRow aa _ _=W7;obtain⟨am,_,z,y⟩:=ro u q;replace d:=y _ d J;replace a:=z _ _ _ J a;clear u z y q;have aE:=a.out.cell;have aD:=a.out.frozen);generalize u:World.setCell _ _ _=W8;obtain⟨aj,z,y⟩:=nc u a;have al:=z _ _ _ J am;have ap:=y _ d J;have ao:=dm al;have an:=j' aj;clear z y u;refine bodyPost_ret (v:=Zg #[Zd g.cs,Za i64 0,Zd #[Za i64 2,Za i64 1,Za i64 0,Za i64 0,Za i64 0,Za i64 0,Za i64 0]]) ?_ rfl ⟨rfl,ap.out⟩;simp[results,results92,asAddr,ao,an]
theorem EQ (g:Rg) (b X c:Nat) (b0 b1 b2 b3:UInt8) (x:dq) (y S:Int) (ld:Int) (w:World) (ap:FT w) (aq:wa w b X b0 b1 b2 b3) (am:4<=c) (al:c<=maxLen) (Z:fW b0 b1 b2 b3=some x) (aF:x.b<16) (aE:0<=x.b)
  (ad: -2147483648<=g.r x.b.toNat/\g.r x.b.toNat<=2147483647) (az: -200<=x.c/\x.c<=300) (z:bT g x=(y,S)) (ao:S=1\/S=4) (aS: -5000000000<=y/\y<=5000000000) (V:y.tmod S≠0):
  Calls prog 92 #[Zd g.cs,Zb (some ⟨b,X,none⟩) 4 c,Za i64 ld] w λe w'=>e=.returned (Zg #[Zd g.cs,Za i64 0,Zd #[Za i64 2,Za i64 3,Za i64 0,Za i64 0,Za i64 0,Za i64 0,Za i64 0]])/\au w w':=by
 have H:=G (λW (A:au w W)=>show Calls prog 86 #[Zb (some ⟨b,X,none⟩) 4 c] W λe w'=>e=.returned (Zg #[x.val,Za i64 0])/\au W w' from by
  have:=fy b X c b0 b1 b2 b3 W (ap.ext A) (aq.ext A) am al;rw[Z]at this
  exact this)
 have I:=G (λW=>show Calls prog 145 #[Zd g.cs,x.val] W λe w'=>e=.returned (Zg #[Za i64 y,Za i64 S])/\au W w' from by
  have:=ij g x W (by first|exact ad|simpa using ad) J J;rw[z]at this
  exact this)
 have aH:S=4:=by
  rcases ao with A|A
  ·subst A;exact absurd (Int.tmod_one y) V
  ·exact A
 subst aH;obtain⟨k,aQ,aP,aO,v⟩:=x;unfold dq.val at H I;simp only at H I;clear ap aq Z am al ad z aF aE az ao;go_enter func92,ntmps92
 go_upto_region 1 with fail
 generalize u:World.alloc (World.alloc (World.alloc w _) _) _=W0;obtain⟨o,r,q,d,s⟩:=F8 u;replace o:=G o;clear u;replace V:=G V
 go_upto_region 2 with(go_at_call 86;refine(H.out _ o.out).mono ?_;rintro e aj ⟨rfl,a⟩;clear H;replace o:=kx o a;replace r:=kb r a;replace q:=kb q a;replace d:=kb d a)
 generalize u:World.alloc aj _=W1;obtain⟨a,x,aN⟩:=lC u;replace o:=kx o a;replace r:=kb r a;replace q:=kb q a;replace d:=kb d a;clear u a;have ag:=x.out.cell;have ah:=r.out.cell;have aJ:True:=trivial
 go_upto_region 5 with(first|(refine ci rfl 109 _ rfl _ rfl _ (dm r) ?_)|(go_at_call 145;refine(I.out _).mono ?_;rintro e aM ⟨rfl,a⟩;clear I ag ah;replace o:=kx o a;replace r:=kb r a;replace q:=kb q a;replace d:=kb d a;replace x:=kb x a;have ag:=x.out.cell;have ah:=r.out.cell;clear a))
 have aK:=G (λW=>tU 3 W);obtain⟨T,an⟩: ∃T,y.tmod 4=T:=⟨_,rfl⟩
 have aC:(T==0)=false:=Qn.2 (an▸V.out)
 go_upto_region 6 with fail
 clear aC an V;generalize (T !=0)=bb;refine aB 2 2 [(1,λv=>v=Zd #[Za i64 2,Za i64 3,Za i64 0,Za i64 0,Za i64 0,Za i64 0,Za i64 0],λ_ _=>True)] mixed Qb ⟨λ_ _ _ _ _=>trivial,trivial⟩ ?_;clear ag ah aJ;refine sx ?_ (λaj af=> ?_) ?_;rotate_left;(focus rw[oE 109 (.tmp 3) rfl w.heap.size rfl _ (dm (kb r af.un))]);simp only[bE,bD,bC,bB,bA];refine so (λav af z K aI=> ?_) ?_
 ·clear z af;go_simp;refine(aK.out av).mono ?_;rintro e aL ⟨rfl,a⟩;exact aI _ _ a rfl trivial
 rintro _ rfl;simp only[bE,bD,bC,bB,bA];intro ai aa z;replace o:=kx o aa.un;replace q:=kb q aa.un;replace d:=kb d aa.un;have aR:w.heap.size+1+1<ai.heap.size:=d.out.lt;clear z aa r x;simp only[ae,aw];go_wp2_with (refine wpList_store_row rfl 109 _ _ rfl _ _ rfl rfl _ _ q.out Qb rfl (f8 _) ?_;generalize u:World.setRow ai _ _=W7;obtain⟨ay,_,R,F⟩:=ro u q;replace o:=F _ o J;replace d:=R _ _ _ J d;clear u R F q;have aU:=d.out.cell;have aT:=d.out.frozen);generalize u:World.setCell _ _ _=W8;obtain⟨ar,R,F⟩:=nc u d;have ax:=R _ _ _ J ay;have aG:=F _ o J;have aD:=dm ax;have aA:=j' ar;clear R F u;refine bodyPost_ret (v:=Zg #[Zd g.cs,Za i64 0,Zd #[Za i64 2,Za i64 3,Za i64 0,Za i64 0,Za i64 0,Za i64 0,Za i64 0]]) ?_ rfl ⟨rfl,aG.out⟩;simp[results,results92,asAddr,aD,aA]
theorem IZ {S:Nat->Prop} {k:Nat} {a w':World} {t:TypeId} {d:Array Value} (u:Hid (aO a k t d)) (o:Mv S a w') (h: ¬S k):Hid (aO w' k t d):=pE o u h
def UB (q z:Nat) (w w':World):Prop:=Mv (λj=>j=q\/j=z) w w'/\(∀t cs,aO w q t cs-> ∃cs',aO w' q t cs'/\cs'.size=cs.size)/\ ∀t cs,aO w z t cs-> ∃cs',aO w' z t cs'/\cs'.size=cs.size
theorem UB.refl (q o:Nat) (h:World):UB q o h h:=⟨gG _ _,λt d a=>⟨d,a,rfl⟩,λt d a=>⟨d,a,rfl⟩⟩
theorem UB.trans (q a:Nat) (A b c:World) (y:UB q a A b) (k:UB q a b c):UB q a A c:=
 ⟨y.1.trans k.1,λt z d=>by obtain⟨c1,w,u⟩:=y.2.1 t z d;obtain⟨c2,o,h⟩:=k.2.1 t c1 w;exact⟨c2,o,h.trans u⟩,λt z d=>by obtain⟨c1,w,u⟩:=y.2.2 t z d;obtain⟨c2,o,h⟩:=k.2.2 t c1 w;exact⟨c2,o,h.trans u⟩⟩
theorem UB.row {q h g:Nat} {z w':World} {o y:Array Value} {t:TypeId} (ad:UB q h z w') (H:g=q\/g=h) (ae:q≠h) (A:Hid (aO w' g t y)) (X:y.size=o.size):UB q h z (w'.setRow g o):=by
 refine UB.trans _ _ _ _ _ ad ?_;obtain⟨aa,_,F,_⟩:=ro (w:=w') (g:=g) (c1:=o) rfl A;refine⟨⟨rfl,rfl,rfl,by simp,λk F I=>setRow_other w' g k o λe=>I (by rcases H with rfl|rfl;exact .inl e;exact .inr e)⟩,λu d w=> ?_,λu d w=> ?_⟩
 ·by_cases e:q=g
  ·subst e;have a:some (Obj.cells d u (0,0))=some (Obj.cells y t (0,0)):=w.symm.trans A.out;injection a with a;injection a with V R;subst V R;exact⟨o,aa.out,X.symm⟩
  ·exact⟨d,(F q u d e (G w)).out,rfl⟩
 ·by_cases e:h=g
  ·subst e;have a:some (Obj.cells d u (0,0))=some (Obj.cells y t (0,0)):=w.symm.trans A.out;injection a with a;injection a with V R;subst V R;exact⟨o,aa.out,X.symm⟩
  ·exact⟨d,(F h u d e (G w)).out,rfl⟩
theorem ym (g:Rg) (b ai c:Nat) (b0 b1 b2 b3:UInt8) (k o z:Nat) (R y:Int) (ld:Int) (a:World) (aH:FT a) (aI:wa a b ai b0 b1 b2 b3) (aF:4<=c) (aE:c<=maxLen) (aD:fW b0 b1 b2 b3=some ⟨k,o,z,R,y⟩) (aX:k=15\/k=17)
  (ha:o<16) (aY:z<16) (aU:0<=g.pc/\g.pc<=1000000) (aB: -2147483648<=g.r z/\g.r z<=2147483647) (av: -200<=R/\R<=300) (aS: -32768<=y/\y<=32767) (bo:k=15->(g.r z+R).tmod 4=0) (bg: -2147483648<=g.r o/\g.r o<=2147483647):
  Calls prog 92 #[Zd g.cs,Zb (some ⟨b,ai,none⟩) 4 c,Za i64 ld] a λe w'=>e=.returned (Zg #[Zd (Rg.mk g.r (g.pc+4)).cs,Za i64 (if k=15 then g.r o else(g.r o)%256),Zd #[Za i64 0,Za i64 0,Za i64 0,Za i64 0,Za i64 0,Za i64 0,Za i64 0]])/\au a w':=by
 have aO:=G (λW (aJ:au a W)=>show Calls prog 86 #[Zb (some ⟨b,ai,none⟩) 4 c] W λe w'=>e=.returned (Zg #[Zd #[Za i64 k,Za i64 o,Za i64 z,Za i64 R,Za i64 y],Za i64 0])/\au W w' from by
  have:=fy b ai c b0 b1 b2 b3 W (aH.ext aJ) (aI.ext aJ) aF aE;rw[aD]at this
  exact this)
 have ag:=G (λW=>show Calls prog 145 #[Zd g.cs,Zd #[Za i64 k,Za i64 o,Za i64 z,Za i64 R,Za i64 y]] W λe w'=>e=.returned (Zg #[Za i64 (bT g ⟨k,o,z,R,y⟩).1,Za i64 (bT g ⟨k,o,z,R,y⟩).2])/\au W w' from
  ij g ⟨k,o,z,R,y⟩ W (by simpa using aB) Qi av)
 obtain⟨bl,bk⟩:=aU;obtain⟨be,bd⟩:=aS;have bh:IntKind.i64.wrap (g.pc+4)=g.pc+4:=Qc
 have bi:IntKind.i64.wrap (4*y)=4*y:=Qc
 have bj:IntKind.i64.wrap (g.pc+4+4*y)=g.pc+4+4*y:=Qc
 clear aH aI aD aF aE aB av;unfold bT at ag;simp only[bY]at ag;have bp:(o:Int)<16:=J
 have bn:(z:Int)<16:=J
 have bf:IntKind.i64.wrap (g.r o)=g.r o:=Qc
 rcases aX with rfl|rfl;all_goals
  simp at ag;go_enter func92,ntmps92
  go_upto_region 1 with fail
  generalize F:World.alloc (World.alloc (World.alloc a _) _) _=W0;obtain⟨u,r,q,w,s⟩:=F8 F;replace u:=G u;clear F
  go_upto_region 2 with(go_at_call 86;refine(aO.out _ u.out).mono ?_;rintro e ah ⟨rfl,d⟩;have bc:a.heap.size+1+1<ah.heap.size:=(by have:=s.out;have:=dr d;omega);clear aO;replace u:=kx u d;replace r:=kb r d;replace q:=kb q d;replace w:=kb w d)
  generalize F:World.alloc ah _=W1;obtain⟨d,x,a9⟩:=lC F;replace u:=kx u d;replace r:=kb r d;replace q:=kb q d;replace w:=kb w d;clear F d;have H:=x.out.cell;have I:=r.out.cell
  go_upto_region 5 with(first|(refine ci rfl 109 _ rfl _ rfl _ (dm r) ?_)|(go_at_call 145;refine(ag.out _).mono ?_;rintro e V ⟨rfl,d⟩;clear ag H I;replace u:=kx u d;replace r:=kb r d;replace q:=kb q d;replace w:=kb w d;replace x:=kb x d;have H:=x.out.cell;have I:=r.out.cell;clear d))
  have br:=kX g
  go_upto_region 9 with fail
  go_upto_region 10 with(first|(refine ci rfl 109 _ rfl _ rfl _ (dm r) ?_)|(refine wpList_store_row rfl 109 _ _ rfl _ _ rfl rfl _ _ (aq _ _ _) Qb rfl (f8 _) ?_))
  generalize F:World.setRow (World.alloc V _) _ _=W3;obtain⟨an,a8,A,ad⟩:=ro F (aq V _ _);have ba:a.heap.size+1+1<V.heap.size:=w.out.lt;replace r:=A _ _ _ J (kb r (aa V _));replace q:=A _ _ _ J (kb q (aa V _));replace w:=A _ _ _ J (kb w (aa V _));replace x:=A _ _ _ (by have:=x.out.lt;omega) (kb x (aa V _));replace u:=ad _ (kx u (aa V _)) J;clear F A ad I H;have H:=x.out.cell;have I:=r.out.cell;have fr:=r.out.frozen
  go_upto_region 12 with fail
  generalize F:World.setCell W3 _ _=W4;obtain⟨a7,aC,A,ad⟩:=uC F;replace r:=aC _ _ r;replace q:=A _ _ _ J q;replace w:=A _ _ _ J w;replace x:=A _ _ _ J x;replace an:=A _ _ _ J an;replace u:=ad _ u J;rw[oa]at r;clear F A aC ad I H fr;have H:=x.out.cell;have I:=r.out.cell;have fr:=r.out.frozen;have a4:=an.out.cell;have a2:=jL ⟨g.r,g.pc+4⟩ o ha;have bq:=jL g z aY;simp only at a2
 all_goals
  have bb:a.heap.size+1+1<W4.heap.size:=w.out.lt
 focus (go_upto_region 26 with fail;refine cC (UB (a.heap.size+1) (a.heap.size+1+1)) (UB.refl _ _) (UB.trans _ _) 6 1 [] [1,2,3,4,5] mixed Qb Qb Qb Qf trivial ?_)
 rotate_left
 focus (go_upto_region 28 with fail;refine cC (UB (a.heap.size+1) (a.heap.size+1+1)) (UB.refl _ _) (UB.trans _ _) 7 1 [] [1,2,3,4,5,6] mixed Qb Qb Qb Qf trivial ?_)
 rotate_left;all_goals
  clear H I fr a4;refine sx ?_ (λah aj=> ?_) ?_;rotate_left;(focus rw[oE 109 (.tmp 3) rfl a.heap.size rfl _ (dm (IZ r (Mv.un aj.1) J))]);simp only[bE,bD,bC,bB,bA];repeat (refine sx ?_ (λah aj=> ?_) ?_;rotate_left;(focus have I:=(IZ r (Mv.un aj.1) J).out.cell;clear aj;go_simp<;>with_reducible rfl);simp only[bE,bD,bC,bB,bA])
  intro ao af aV;clear aV;simp only[ae,aw];obtain⟨a5,Z,ar⟩:=af.2.1 _ _ (mq q.out);obtain⟨a3,aK,sz⟩:=af.2.2 _ _ (mq w.out);have aG:=G (show au a ao from((cT u.out).trans (Mv.un af.1)).ext λj bm e=>by omega);have aM:=af;clear af;refine aN Qf Qe (λK X=> ?_);refine wp_store_row 109 _ _ rfl _ _ rfl rfl _ _ Z Qb (by rw[ar];rfl) (f8 _) ?_;have al:=UB.row aM (.inl rfl) J (G Z) (show a5.size=(Rg.cs ⟨g.r,g.pc+4⟩).size by rw[ar];rfl);refine X _ _ al ?_;clear X;refine aN Qf Qe (λK X=> ?_);go_simp;refine X _ _ al ?_;clear X;obtain⟨aR,_,aA,ay⟩:=ro (w:=ao) (g:=a.heap.size+1) (c1:=(Rg.cs ⟨g.r,g.pc+4⟩)) rfl (G Z);have am:=aA _ _ _ (show a.heap.size+1+1≠a.heap.size+1 by omega) (G aK);have a1:=ay _ aG J;clear aA ay aG Z aK aM;generalize World.setRow ao _ _=ap at*;refine aN Qf Qe (λK X=> ?_);refine wp_store_row 181 _ _ rfl _ _ rfl rfl _ _ am.out Qb (by rw[sz]) Qk ?_;have aL:=UB.row al (.inr rfl) J am (show a3.size=(#[Za i64 0,Za i64 0,Za i64 0,Za i64 0,Za i64 0,Za i64 0,Za i64 0]:Array Value).size by rw[sz]);refine X _ _ aL ?_;clear X;obtain⟨aP,_,az,ax⟩:=ro (w:=ap) (g:=a.heap.size+1+1) (c1:= #[Za i64 0,Za i64 0,Za i64 0,Za i64 0,Za i64 0,Za i64 0,Za i64 0]) rfl am;have aQ:=az _ _ _ (show a.heap.size+1≠a.heap.size+1+1 by omega) aR;have aZ:=ax _ a1 J;clear az ax al aL;generalize World.setRow ap _ _=a6 at*;refine cQ ?_;go_wp2_with fail;have aW:=dm aQ;have aT:=j' aP;refine bodyPost_ret (v:=Zg #[Zd (Rg.mk g.r (g.pc+4)).cs,Za i64 _,Zd #[Za i64 0,Za i64 0,Za i64 0,Za i64 0,Za i64 0,Za i64 0,Za i64 0]]) ?_ rfl ⟨rfl,aZ.out⟩;simp[results,results92,asAddr,aW,aT]<;>(simp[IntKind.wrap,IntKind.signed,IntKind.bits];omega)
end
end Go.Proofs.YtoedmpgicdekmaaGreatDoor
