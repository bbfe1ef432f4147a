/- Parts of the proof. -/
import Derived.Test.YtoedmpgicdekmaaGreatDoorCo15
import Derived.Test.YtoedmpgicdekmaaGreatDoorCo18
set_option maxRecDepth 100000
set_option maxHeartbeats 8000000
set_option linter.all false
namespace Go.Proofs.YtoedmpgicdekmaaGreatDoor
open IntKind(i64)
open Go.Proofs.Tryz
section
open Go.RowKit
theorem JH {o a:World} {b0 b1 b2:Nat} {y t1 t2:TypeId} {R G F A:Value} (h d q r:Value) (aa:au o a) (ad:aO a b0 y #[R,G]) (H:aO a b1 t1 #[F]) (I:aO a b2 t2 #[A])
  (l0:o.heap.size<=b0) (X:o.heap.size<=b1) (V:o.heap.size<=b2) (w:b0≠b1) (u:b0≠b2) (z:b1≠b2):
  au o ((((a.setCell ⟨b0,0,none⟩ h).setCell ⟨b0,1,none⟩ d).setCell ⟨b1,0,none⟩ q).setCell ⟨b2,0,none⟩ r)/\aO ((((a.setCell ⟨b0,0,none⟩ h).setCell ⟨b0,1,none⟩ d).setCell ⟨b1,0,none⟩ q).setCell ⟨b2,0,none⟩ r) b0 y #[h,d]/\
   aO ((((a.setCell ⟨b0,0,none⟩ h).setCell ⟨b0,1,none⟩ d).setCell ⟨b1,0,none⟩ q).setCell ⟨b2,0,none⟩ r) b1 t1 #[q]/\aO ((((a.setCell ⟨b0,0,none⟩ h).setCell ⟨b0,1,none⟩ d).setCell ⟨b1,0,none⟩ q).setCell ⟨b2,0,none⟩ r) b2 t2 #[r]:=by
 refine⟨(((aa.set l0 _).set l0 _).set X _).set V _,?_,?_,?_⟩
 ·have:=(((ad.set 0 h).set 1 d).far (p:=⟨b1,0,none⟩) w q).far (p:=⟨b2,0,none⟩) u r;simpa using this
 ·have:=(((H.far (p:=⟨b0,0,none⟩) (eS w) h).far (p:=⟨b0,1,none⟩) (eS w) d).set 0 q).far (p:=⟨b2,0,none⟩) z r;simpa using this
 ·have:=(((I.far (p:=⟨b0,0,none⟩) (eS u) h).far (p:=⟨b0,1,none⟩) (eS u) d).far (p:=⟨b1,0,none⟩) (eS z) q).set 0 r;simpa using this
theorem rk (w u o:Value) (a:World):
  CallsD prog 47 #[w,u,o] .returning a λe d w'=>e=.returned (.tuple #[])/\d=.returning/\w'=a:=by
 refine callsD_of_wpS func47 rfl λz A y=> ?_;apply wpS_seq;apply wpS_region;simp[wpOpsS,go_sem,recoverD,y,ntmps47,Exit.thenS];apply wpS_seq;apply wpS_region;simp[wpOpsS,go_sem,Exit.thenS];refine wpS_cond (t:=false) (by simp[Act.eval]) ?_;simp only[aR,if_false];refine wpS_of_wp (wp_skip ?_)
 cases z;simp_all[bodyPostS,results,results47]
theorem vT (u a:World) (b0 b1 b2:Nat) (aj ai ah ag:Value) (d n:Int) (H:List PanicEntry) (ae:au u a) (A:aO a b0 31 #[aj,ai]) (z:aO a b1 3 #[ah]) (y:aO a b2 33 #[ag])
  (l0:u.heap.size<=b0) (ap:u.heap.size<=b1) (ao:u.heap.size<=b2) (an:b0≠b1) (am:b0≠b2) (al:b1≠b2):
  CallsD prog 47 #[.pointer (some ⟨b0,0,none⟩),.pointer (some ⟨b1,0,none⟩),.pointer (some ⟨b2,0,none⟩)] (.panicking ({v:=.iface 120 (.agg #[.int i64 d,.int i64 n]),recovered:=false}::H)) a λe Z w'=>
   e=.returned (.tuple #[])/\Z=.panicking ({v:=.iface 120 (.agg #[.int i64 d,.int i64 n]),recovered:=true}::H)/\
   au u w'/\aO w' b0 31 #[.slice none 0 0,.slice none 0 0]/\aO w' b1 3 #[.int i64 d]/\aO w' b2 33 #[.int i64 n]:=by
 have o:=aa a (.cells #[.int i64 d,.int i64 n] 120);have af:=aq a 120 #[.int i64 d,.int i64 n];have aA:=G (ae.trans o);have X:=G (A.ext o);have V:=G (z.ext o);have R:=G (y.ext o);have aB:=G af;have aw:b0≠a.heap.size:=λe=>by have:=A.lt;omega
 have av:b1≠a.heap.size:=λe=>by have:=z.lt;omega
 have ar:b2≠a.heap.size:=λe=>by have:=y.lt;omega
 clear o af ae A z y;refine callsD_of_wpS func47 rfl λaL aM ay=> ?_;apply wpS_seq;apply wpS_region;simp[wpOpsS,go_sem,recoverD,ay,ntmps47,Exit.thenS];have ad: ∀v F b c:Value,#[F,b,c]++((Array.replicate 19 undef).setIfInBounds 3 v).setIfInBounds 0 v= #[F,b,c,v,undef,undef,v,undef,undef,undef,undef,undef,undef,undef,undef,undef,undef,undef,undef,undef,undef,undef]:=by
  intro v F b c;apply jF;simp[jq]
 rw[ad];clear ad;apply wpS_seq;apply wpS_region;simp[wpOpsS,go_sem,Exit.thenS];refine wpS_cond (t:=true) (by simp[Act.eval]) ?_;simp only[if_true];refine wpS_of_wp ?_;have az: ∀(v:Value) (I:TypeId) (a:World),(Instr.typeAssert (.iface 120 v) I 120 true).run prog a=.ok (.tuple #[v,.bool true]) a:=λv I a=>by simp[Instr.typeAssert,run_underlying underlying120]
 go_wp2_with fail;clear az;have ax:a.heap.size≠b0/\a.heap.size≠b1/\a.heap.size≠b2:=⟨λe=>aw e.symm,λe=>av e.symm,λe=>ar e.symm⟩
 obtain⟨aJ,aI,aH⟩:=ax;have aK:=aB.out.cell;have aN:=X.out.cell;have c1:=V.out.cell;have c2:=R.out.cell;have aE:=X.out.frozen;have aD:=V.out.frozen;have aC:=R.out.frozen;generalize a.alloc (.cells #[.int i64 d,.int i64 n] 120)=aG at*;generalize a.heap.size=aF at*;go_region;have w:=JH (.slice none 0 0) (.slice none 0 0) (.int i64 d) (.int i64 n) aA.out X.out V.out R.out l0 ap ao an am al;refine⟨rfl,_,rfl,.tuple #[],?_,rfl,rfl,w.1.drew,w.2.1.drew,w.2.2.1.drew,w.2.2.2.drew⟩;simp[results,results47]
structure PW (w:World) (x0 x1 y z:Value) (W:World):Prop where
 e:au w W
 b0:aO W w.heap.size 31 #[x0,x1]
 b1:aO W (w.heap.size+1) 3 #[y]
 b2:aO W (w.heap.size+1+1) 33 #[z]
theorem Gw (a:World) (u o h d:Value):PW a u o h d (((a.alloc (.cells #[u,o] 31)).alloc (.cells #[h] 3)).alloc (.cells #[d] 33)):=by
 refine⟨((aa a _).alloc' _).alloc' _,((aq a _ _).alloc _).alloc _,?_,?_⟩
 ·have:=(aq (a.alloc (.cells #[u,o] 31)) 3 #[h]).alloc (.cells #[d] 33);rwa [World.size_alloc]at this
 ·have:=aq ((a.alloc (.cells #[u,o] 31)).alloc (.cells #[h] 3)) 33 #[d];rwa [World.size_alloc,World.size_alloc]at this
section
variable {w W W':World} {x0 x1 y z:Value}
theorem PW.ex (d:PW w x0 x1 y z W) (a:au W W'):PW w x0 x1 y z W':=⟨d.e.trans a,d.b0.ext a,d.b1.ext a,d.b2.ext a⟩
theorem PW.lt (a:PW w x0 x1 y z W):w.heap.size+1+1<W.heap.size:=a.b2.lt
theorem PW.grown {g:Nat} (d:PW w x0 x1 y z W) (a:W.grownBy W' (some g)) (h:w.heap.size+1+1<g):PW w x0 x1 y z W':=
 ⟨d.e.grown a (λk e=>by injection e with e;omega),d.b0.grown a (λe=>by injection e with e;omega),d.b1.grown a (λe=>by injection e with e;omega),d.b2.grown a (λe=>by injection e with e;omega)⟩
theorem PW.drew (a:PW w x0 x1 y z W):PW w x0 x1 y z W.drew:=⟨a.e.drew,a.b0.drew,a.b1.drew,a.b2.drew⟩
theorem PW.put0 (a:PW w x0 x1 y z W) (h d:Value):PW w h d y z ((W.setCell ⟨w.heap.size,0,none⟩ h).setCell ⟨w.heap.size,1,none⟩ d):=by
 refine⟨(a.e.set (ah _) _).set (ah _) _,?_,(a.b1.far (p:=⟨w.heap.size,0,none⟩) (by show _≠w.heap.size;omega) _).far (p:=⟨w.heap.size,1,none⟩) (by show _≠w.heap.size;omega) _,(a.b2.far (p:=⟨w.heap.size,0,none⟩) (by show _≠w.heap.size;omega) _).far (p:=⟨w.heap.size,1,none⟩) (by show _≠w.heap.size;omega) _⟩;have:=(a.b0.set 0 h).set 1 d;simpa using this
theorem PW.put1 (a:PW w x0 x1 y z W) (q:Value):PW w x0 x1 q z (W.setCell ⟨w.heap.size+1,0,none⟩ q):=by
 refine⟨a.e.set (by show w.heap.size<=w.heap.size+1;omega) _,a.b0.far (p:=⟨w.heap.size+1,0,none⟩) (by show _≠w.heap.size+1;omega) _,?_,a.b2.far (p:=⟨w.heap.size+1,0,none⟩) (by show _≠w.heap.size+1;omega) _⟩;have:=a.b1.set 0 q;simpa using this
theorem PW.put2 (a:PW w x0 x1 y z W) (q:Value):PW w x0 x1 y q (W.setCell ⟨w.heap.size+1+1,0,none⟩ q):=by
 refine⟨a.e.set (by show w.heap.size<=w.heap.size+1+1;omega) _,a.b0.far (p:=⟨w.heap.size+1+1,0,none⟩) (by show _≠w.heap.size+1+1;omega) _,a.b1.far (p:=⟨w.heap.size+1+1,0,none⟩) (by show _≠w.heap.size+1+1;omega) _,?_⟩;have:=a.b2.set 0 q;simpa using this
end
theorem x' {w W:World} {b i:Nat} (v:Value):dM (λk=>k≠b) W (W.setCell ⟨b,i,none⟩ v):=⟨by simp[World.setCell],λk a _=>Below.heap_setCell W ⟨b,i,none⟩ v k a⟩
theorem yG.keepP {o w':World} {P:Nat->Prop} {h:Option Addr} {c:Nat} {l:List cB} (d:yG o h c l) (u:dM P o w') (y: ∀b off,h=some ⟨b,off,none⟩->l≠ []->P b):yG w' h c l:=by
 refine⟨d.le,d.max,?_⟩;by_cases hl:l=[]
 ·exact .inl hl
 ·rcases d.rd with z|⟨b,off,ha,hlt,hc⟩
  ·exact .inl z
  ·have a:=λw=>u.cell w (y b off ha hl) hlt;exact .inr ⟨b,off,ha,aA hlt u.size,λi hi=>let⟨q0,q1,q2,q3⟩:=hc i hi;⟨(a _).trans q0,(a _).trans q1,(a _).trans q2,(a _).trans q3⟩⟩
theorem xf {d W:World} {V R G F a b:Value} {base:Nat} {u:Option Addr} {c:Nat} {h:List cB} (w:Int) (ag:PW d V R G F W) (A:jg W base 188 (.slice u h.length c) h) (af:d.heap.size+3<=base):
  PA (((W.setCell ⟨d.heap.size+1,0,none⟩ a).setCell ⟨d.heap.size+1+1,0,none⟩ b).alloc (.cells #[.slice u h.length c,.int i64 w] 124)) W.heap.size h w:=by
 have z:=A.tks.2;have ad: ∀k,(Value.slice u h.length c).ownBlock=some k->base<=k:=λk I=>(World.ownsRow.lt A k I).1;have y: ∀b off,u=some ⟨b,off,none⟩->h≠ []->b≠d.heap.size+1/\b≠d.heap.size+1+1:=λb off e o=>by
  subst e;have:=ad b rfl;omega
 have X:(((W.setCell ⟨d.heap.size+1,0,none⟩ a).setCell ⟨d.heap.size+1+1,0,none⟩ b)).heap.size=W.heap.size:=by simp[World.setCell]
 have H:=(z.keepP (x' (w:=d) (b:=d.heap.size+1) (i:=0) a) (λb off e o=>(y b off e o).1)).keepP (x' (w:=d) (b:=d.heap.size+1+1) (i:=0) b) (λb off e o=>(y b off e o).2);refine⟨u,c,?_,H.ext (aa _ _),λb off e o=> ?_⟩
 ·have:=aq ((W.setCell ⟨d.heap.size+1,0,none⟩ a).setCell ⟨d.heap.size+1+1,0,none⟩ b) 124 #[.slice u h.length c,.int i64 w];rwa [X]at this
 ·rcases z.rd with ae|⟨b',off',ha,hlt,_⟩
  ·exact absurd ae o
  ·rw[e]at ha;injection ha with ha;injection ha with ha;omega
theorem gR {a w':World} (h:ew a a.heap.size) (d:au a w'):ew w' w'.heap.size:=⟨(h.fb (aW d (ah _))).1,aA h.2 d.size⟩
theorem pg {a W:World} {b i:Nat} (v:Value) (h:b<=a.heap.size+1+1):dM (λb=>a.heap.size+1+1<b) W (W.setCell ⟨b,i,none⟩ v):=
 ⟨by simp[World.setCell],λk d _=>Below.heap_setCell W ⟨b,i,none⟩ v k (by show k≠b;omega)⟩
theorem tN {a W:World} (d b:Value):dM (λb=>a.heap.size+1+1<b) W ((W.setCell ⟨a.heap.size,0,none⟩ d).setCell ⟨a.heap.size,1,none⟩ b):=
 fJ (pg d J) (pg b J)
theorem Ce {a W:World} (h b c d:Value):dM (λb=>a.heap.size+1+1<b) W ((((W.setCell ⟨a.heap.size,0,none⟩ h).setCell ⟨a.heap.size,1,none⟩ b).setCell ⟨a.heap.size+1,0,none⟩ c).setCell ⟨a.heap.size+1+1,0,none⟩ d):=
 fJ (fJ (fJ (pg h J) (pg b J)) (pg c J)) (pg d J)
def xQ (w:World) (r:Pg×Int×Int) (e:Ending) (w':World):Prop:=
 au w w'/\ ∃A n c B m d,e=.returned (.tuple #[.agg #[.slice A n c,.slice B m d],.int i64 r.2.1,.int i64 r.2.2])/\nM w' (λb=>w.heap.size<=b) (.slice A n c) r.1.vs/\nP w' (λb=>w.heap.size<=b) (.slice B m d) r.1.fs
theorem o_ {a w':World} {d en:Int} (h:au a w'):xQ a (ow,d,en) (.returned (.tuple #[.agg #[.slice none 0 0,.slice none 0 0],.int i64 d,.int i64 en])) w':=
 ⟨h,none,0,0,none,0,0,rfl,⟨none,0,rfl,.inl rfl⟩,⟨none,0,rfl,.inl rfl⟩⟩
theorem rY (s:List UInt8) (d:World) (a5:EZ d) (a7:ew d d.heap.size):Calls prog 22 #[.string (Z s)] d (xQ d (dB s)):=by
 have bm: ∀(fn:Fn) (first a9:Array Value) (d:World),(Instr.makeFunc fn first a9).run prog d=.ok (.func fn first a9) d:=λ_ _ _ _=>rfl;obtain⟨⟨w,I,en⟩,aK⟩: ∃bh,ja s=bh:=⟨_,rfl⟩
 have bf:(Z s).size=s.length:=aZ s;have R:=G (Gw d (.slice none 0 0) (.slice none 0 0) (.int i64 0) (.int i64 0))
 have aq:=G (show ∀W,EZ W->Calls prog 46 #[.string (Z s)] W (λe w'=> ∃A c,e=.returned (.tuple #[.slice A w.length c,.int i64 I,.int i64 en])/\jg w' W.heap.size 188 (.slice A w.length c) w/\au W w')from
  λW bg=>by
   have:=ww s W bg;rw[aK]at this
   exact this.mono (λe w' ⟨⟨A,c,aS,aR⟩,a2⟩=>⟨A,c,aS,aR,a2⟩))
 have ap:=G a5;have aT:=G a7;clear a5 a7;by_cases hen:en=0
 ·subst hen;have aM:=G (show dB s=xe s.length w by unfold dB;rw[aK];rfl);have aN:=x7 s;rw[aK]at aN;have aN:w.length<=4000/\dW w<=12000:=aN;have aX:=G aN;clear aK aN;generalize s.length=V at*;generalize aJ:d9 (4*w.length+8) ow w=X;have a3:=G aJ
  cases X with
  |error qn=>
   obtain⟨q,n⟩:=qn;have ar:=G (show dB s=(ow,IE (V:Int) q,n) by rw[aM.out,xe,aJ]);clear aJ aM;go_enter_defers func22,ntmps22;go_wp2_with (first|(go_at_call 46;refine(aq.out _ (ap.out.ext R.out.e)).mono ?_;rintro e aU ⟨A,c,rfl,aj,y⟩;have o:=G (R.out.ex y);have c1:=o.out.b1.cell;have ax:=o.out.b1.frozen;have c2:=o.out.b2.cell;have aw:=o.out.b2.frozen;have av:=G (xf (a:=.int i64 I) (b:=.int i64 0) (V:Int) o.out aj (by have:=R.out.lt;omega));have al:=G (((o.out.put1 (.int i64 I)).put2 (.int i64 0)).ex (aa _ (.cells #[.slice A w.length c,.int i64 V] 124)));have aO:=o.out.lt;clear y aj aq ap R o)|(go_at_call 48;refine(qD (4*w.length+8) (by have:=aX.out.1;omega) w (V:Int) _ _ av.out J).mono ?_;intro e aY an;rw[show d9 (4*w.length+8) ⟨[],[]⟩ w=_ from a3.out]at an;obtain⟨ao,az⟩:=an;have az:e=.panicked [{v:=.iface 120 (.agg #[.int i64 (IE (V:Int) q),.int i64 n]),recovered:=false}]:=az;subst az;have z:=G (al.out.grown ao aO);clear ao av al));refine leaves_cons (f:=47) (args:= #[.pointer (some ⟨d.heap.size,0,none⟩),.pointer (some ⟨d.heap.size+1,0,none⟩),.pointer (some ⟨d.heap.size+1+1,0,none⟩)]) Qe Qm ?_;refine(vT d aY d.heap.size (d.heap.size+1) (d.heap.size+1+1) _ _ _ _ _ _ _ z.out.e z.out.b0 z.out.b1 z.out.b2 J J J J J J).mono ?_;rintro e a4 be ⟨rfl,rfl,y,a8,aS,aR⟩;have aD:=a8.cell;have aC:=aS.cell;have aB:=aR.cell;refine(show Leaves _ _ _ _ [] .returning be from ?_);refine⟨.tuple #[.agg #[.slice none 0 0,.slice none 0 0],.int i64 (IE (V:Int) q),.int i64 n],?_,by rw[ar.out];exact o_ y⟩;simp[results,results22,go_sem,aD,aC,aB]
  |ok pr=>
   obtain⟨p,r⟩:=pr;have a6:mC p<=6000000:=by
    have:=(tn _ _ _ _ _ aJ).1;have a8:mC ow=0:=rfl;have:=aX.out.2;omega
   generalize a1:lJ p=ok
   have aW:=G (show ∀(P:Nat->Prop) (W:World) (A B:Option Addr) (n c m aV:Nat),nM W P (.slice A n c) p.vs->nP W P (.slice B m aV) p.fs->ew W W.heap.size->Calls prog 28 #[.agg #[.slice A n c,.slice B m aV]] W λe w'=>e=.returned (.bool ok)/\au W w' from
    λP W A B n c m aV aS aR a2=>a1▸xY p a6 P W A B n c m aV aS aR a2)
   have ar:=G (show dB s=if ok then(p,0,0)else(ow,0,6) by rw[aM.out,xe,aJ];simp only[a1]);clear aJ aM a1 a6
   cases ok with
   |true=>
    have ar:=G (show dB s=(p,0,0)from ar.out);go_enter_defers func22,ntmps22;go_wp2_with (first|(go_at_call 46;refine(aq.out _ (ap.out.ext R.out.e)).mono ?_;rintro e aU ⟨A,c,rfl,aj,y⟩;have o:=G (R.out.ex y);have c1:=o.out.b1.cell;have ax:=o.out.b1.frozen;have c2:=o.out.b2.cell;have aw:=o.out.b2.frozen;have av:=G (xf (a:=.int i64 I) (b:=.int i64 0) (V:Int) o.out aj (by have:=R.out.lt;omega));have al:=G (((o.out.put1 (.int i64 I)).put2 (.int i64 0)).ex (aa _ (.cells #[.slice A w.length c,.int i64 V] 124)));have aO:=o.out.lt;clear y aj aq ap R o)|(go_at_call 48;refine(qD (4*w.length+8) (by have:=aX.out.1;omega) w (V:Int) _ _ av.out J).mono ?_;intro e aY an;rw[show d9 (4*w.length+8) ⟨[],[]⟩ w=_ from a3.out]at an;obtain⟨ao,ai,H,af,ag,ad,ae,az,aP,aQ⟩:=an;subst az;have z:=G (al.out.grown ao aO);have ay:=al.out.lt;have aE:=G (z.out.put0 (.slice ai H af) (.slice ag ad ae));have aG:=G ((aP.keep (Q:=λb=>d.heap.size+1+1<b) ⟨ah _,λ_ _ _=>rfl⟩ (λb u _=>aA ay u)).keep (Q:=λb=>d.heap.size+1+1<b) (tN (.slice ai H af) (.slice ag ad ae)) (λ_ u _=>u));have aH:=G ((aQ.keep (Q:=λb=>d.heap.size+1+1<b) ⟨ah _,λ_ _ _=>rfl⟩ (λb u _=>aA ay u)).keep (Q:=λb=>d.heap.size+1+1<b) (tN (.slice ai H af) (.slice ag ad ae)) (λ_ u _=>u));have aL:=z.out.b0.cell;have aI:=z.out.b0.frozen;clear ao av al aP aQ ay z)|(go_at_call 28;refine(aW.out _ _ _ _ _ _ _ _ aG.out aH.out (gR aT.out aE.out.e)).mono ?_;rintro e bd ⟨rfl,y⟩;clear aL aI;have F:=G (aE.out.ex y);have ba:=G (aG.out.keep (.of_ext y) (Q:=λb=>d.heap.size+1+1<b) (λ_ u _=>u));have bb:=G (aH.out.keep (.of_ext y) (Q:=λb=>d.heap.size+1+1<b) (λ_ u _=>u));have aL:=F.out.b0.cell;have aI:=F.out.b0.frozen;have c1:=F.out.b1.cell;have ax:=F.out.b1.frozen;have c2:=F.out.b2.cell;have aw:=F.out.b2.frozen;clear y aG aH aE aW aT));have am:=G (((F.out.put0 (.slice ai H af) (.slice ag ad ae)).put1 (.int i64 0)).put2 (.int i64 0));have bi:=G (ba.out.keep (Q:=λb=>d.heap.size<=b) (Ce (.slice ai H af) (.slice ag ad ae) (.int i64 0) (.int i64 0)) (λb u _=>by omega));have bj:=G (bb.out.keep (Q:=λb=>d.heap.size<=b) (Ce (.slice ai H af) (.slice ag ad ae) (.int i64 0) (.int i64 0)) (λb u _=>by omega));refine leaves_cons (f:=47) (args:= #[.pointer (some ⟨d.heap.size,0,none⟩),.pointer (some ⟨d.heap.size+1,0,none⟩),.pointer (some ⟨d.heap.size+1+1,0,none⟩)]) Qe Qm ?_;refine(rk _ _ _ _).mono ?_;rintro e a4 bc ⟨rfl,rfl,rfl⟩;have aD:=am.out.b0.cell;have aC:=am.out.b1.cell;have aB:=am.out.b2.cell;refine(show Leaves _ _ _ _ [] .returning _ from ?_);refine⟨.tuple #[.agg #[.slice ai H af,.slice ag ad ae],.int i64 0,.int i64 0],?_,by rw[ar.out];exact⟨am.out.e,_,_,_,_,_,_,rfl,bi.out,bj.out⟩⟩;simp[results,results22,go_sem,aD,aC,aB]
   |false=>
    have ar:=G (show dB s=(ow,0,6)from ar.out);go_enter_defers func22,ntmps22;go_wp2_with (first|(go_at_call 46;refine(aq.out _ (ap.out.ext R.out.e)).mono ?_;rintro e aU ⟨A,c,rfl,aj,y⟩;have o:=G (R.out.ex y);have c1:=o.out.b1.cell;have ax:=o.out.b1.frozen;have c2:=o.out.b2.cell;have aw:=o.out.b2.frozen;have av:=G (xf (a:=.int i64 I) (b:=.int i64 0) (V:Int) o.out aj (by have:=R.out.lt;omega));have al:=G (((o.out.put1 (.int i64 I)).put2 (.int i64 0)).ex (aa _ (.cells #[.slice A w.length c,.int i64 V] 124)));have aO:=o.out.lt;clear y aj aq ap R o)|(go_at_call 48;refine(qD (4*w.length+8) (by have:=aX.out.1;omega) w (V:Int) _ _ av.out J).mono ?_;intro e aY an;rw[show d9 (4*w.length+8) ⟨[],[]⟩ w=_ from a3.out]at an;obtain⟨ao,ai,H,af,ag,ad,ae,az,aP,aQ⟩:=an;subst az;have z:=G (al.out.grown ao aO);have ay:=al.out.lt;have aE:=G (z.out.put0 (.slice ai H af) (.slice ag ad ae));have aG:=G ((aP.keep (Q:=λb=>d.heap.size+1+1<b) ⟨ah _,λ_ _ _=>rfl⟩ (λb u _=>aA ay u)).keep (Q:=λb=>d.heap.size+1+1<b) (tN (.slice ai H af) (.slice ag ad ae)) (λ_ u _=>u));have aH:=G ((aQ.keep (Q:=λb=>d.heap.size+1+1<b) ⟨ah _,λ_ _ _=>rfl⟩ (λb u _=>aA ay u)).keep (Q:=λb=>d.heap.size+1+1<b) (tN (.slice ai H af) (.slice ag ad ae)) (λ_ u _=>u));have aL:=z.out.b0.cell;have aI:=z.out.b0.frozen;clear ao av al aP aQ ay z)|(go_at_call 28;refine(aW.out _ _ _ _ _ _ _ _ aG.out aH.out (gR aT.out aE.out.e)).mono ?_;rintro e bd ⟨rfl,y⟩;clear aL aI;have F:=G (aE.out.ex y);have ba:=G (aG.out.keep (.of_ext y) (Q:=λb=>d.heap.size+1+1<b) (λ_ u _=>u));have bb:=G (aH.out.keep (.of_ext y) (Q:=λb=>d.heap.size+1+1<b) (λ_ u _=>u));have aL:=F.out.b0.cell;have aI:=F.out.b0.frozen;have c1:=F.out.b1.cell;have ax:=F.out.b1.frozen;have c2:=F.out.b2.cell;have aw:=F.out.b2.frozen;clear y aG aH aE aW aT));have am:=G (((F.out.put0 (.slice none 0 0) (.slice none 0 0)).put1 (.int i64 0)).put2 (.int i64 6));refine leaves_cons (f:=47) (args:= #[.pointer (some ⟨d.heap.size,0,none⟩),.pointer (some ⟨d.heap.size+1,0,none⟩),.pointer (some ⟨d.heap.size+1+1,0,none⟩)]) Qe Qm ?_;refine(rk _ _ _ _).mono ?_;rintro e a4 bc ⟨rfl,rfl,rfl⟩;have aD:=am.out.b0.cell;have aC:=am.out.b1.cell;have aB:=am.out.b2.cell;refine(show Leaves _ _ _ _ [] .returning _ from ?_);refine⟨.tuple #[.agg #[.slice none 0 0,.slice none 0 0],.int i64 0,.int i64 6],?_,by rw[ar.out];exact o_ am.out.e⟩;simp[results,results22,go_sem,aD,aC,aB]
 ·have bl:(en !=0)=true:=by simp[bne,hen]
  have bn:(en==0)=false:=by simp[hen]
  have aM:=G (show dB s=(ow,I,en) by unfold dB;rw[aK];exact if_neg hen);clear aK hen bf;go_enter_defers func22,ntmps22;go_wp2_with (go_at_call 46;refine(aq.out _ (ap.out.ext R.out.e)).mono ?_;rintro e aU ⟨A,c,rfl,aj,y⟩;have o:=G (R.out.ex y);have c1:=o.out.b1.cell;have ax:=o.out.b1.frozen;have c2:=o.out.b2.cell;have aw:=o.out.b2.frozen;clear y aj aq ap aT R);have aF:=G ((o.out.put1 (.int i64 I)).put2 (.int i64 en));clear c1 ax c2 aw o;generalize (aU.setCell ⟨d.heap.size+1,0,none⟩ (.int i64 I)).setCell ⟨d.heap.size+1+1,0,none⟩ (.int i64 en)=bk at*;have aL:=aF.out.b0.cell;have c1:=aF.out.b1.cell;have c2:=aF.out.b2.cell;have aI:=aF.out.b0.frozen;have ax:=aF.out.b1.frozen;have aw:=aF.out.b2.frozen;go_region;have z:=G ((((aF.out.put0 (.slice none 0 0) (.slice none 0 0)).put1 (.int i64 I)).put2 (.int i64 en)).drew);go_wp2_with fail;have aD:=z.out.b0.cell;have aC:=z.out.b1.cell;have aB:=z.out.b2.cell;refine⟨.tuple #[.agg #[.slice none 0 0,.slice none 0 0],.int i64 I,.int i64 en],?_,by rw[aM.out];exact o_ z.out.e⟩;simp[results,results22,go_sem,aD,aC,aB]
end
end Go.Proofs.YtoedmpgicdekmaaGreatDoor
