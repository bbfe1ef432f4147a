/- Parts of the proof. -/
import Derived.Test.YtoedmpgicdekmaaGreatDoorCo26
set_option maxRecDepth 100000
set_option maxHeartbeats 8000000
set_option linter.all false
namespace Go.Proofs.YtoedmpgicdekmaaGreatDoor
open IntKind(i64)
open Go.Proofs.Tryz
section
open Go.RowKit
theorem oE {P:Program} {a:World} {d:Oper} {h:Operand->Value} (ty:TypeId) (x:Operand) (u:d.op=.load ty x) (g:Nat) (o:h x=.pointer (some ⟨g,0,none⟩)) (v:Value) (w:(loadVar ty ⟨g,0,none⟩).run P a=.ok v a):(execOp h d).run P a=.ok (.value v) a:=by
 simp[execOp,u,Instr.loadAt,Instr.sureAddr,o,w,Result.andThen]
theorem ES (g:Rg) (b V c:Nat) (b0 b1 b2 b3:UInt8) (k A z y:Nat) (ld:Int) (w:World) (an:FT w) (ao:wa w b V b0 b1 b2 b3) (am:4<=c) (al:c<=maxLen) (Z:fW b0 b1 b2 b3=some ⟨k,A,z,y,0⟩) (aa:k=7\/k=8)
  (ha:A<16) (aM:z<16) (aE:y<16) (aj: -2147483648<=g.r z/\g.r z<=2147483647) (I:g.r y=0):
  Calls prog 92 #[.agg g.cs,.slice (some ⟨b,V,none⟩) 4 c,.int i64 ld] w λe w'=>e=.returned (.tuple #[.agg g.cs,.int i64 0,.agg #[.int i64 2,.int i64 2,.int i64 0,.int i64 0,.int i64 0,.int i64 0,.int i64 0]])/\au w w':=by
 have av:=G (λW (ap:au w W)=>show Calls prog 86 #[.slice (some ⟨b,V,none⟩) 4 c] W λe w'=>e=.returned (.tuple #[.agg #[.int i64 k,.int i64 A,.int i64 z,.int i64 y,.int i64 0],.int i64 0])/\au W w' from by
  have:=fy b V c b0 b1 b2 b3 W (an.ext ap) (ao.ext ap) am al;rw[Z]at this
  exact this)
 have ar:=G (λW=>show Calls prog 145 #[.agg g.cs,.agg #[.int i64 k,.int i64 A,.int i64 z,.int i64 y,.int i64 0]] W λe w'=>e=.returned (.tuple #[.int i64 0,.int i64 0])/\au W w' from by
  have:=ij g ⟨k,A,z,y,0⟩ W (by simpa using aj) Qi Qi;unfold bT dq.val at this;rw[if_neg Qi,if_neg Qi]at this
  exact this)
 clear an ao Z am al aj;go_enter func92,ntmps92
 go_upto_region 1 with fail
 generalize u:World.alloc (World.alloc (World.alloc w _) _) _=W0;obtain⟨o,r,q,d,s⟩:=F8 u;replace o:=G o;clear u;replace aa:=G aa;replace I:=G I
 go_upto_region 2 with(go_at_call 86;refine(av.out _ o.out).mono ?_;rintro e ai ⟨rfl,a⟩;clear av;replace o:=kx o a;replace r:=kb r a;replace q:=kb q a;replace d:=kb d a)
 generalize u:World.alloc ai _=W1;obtain⟨a,x,aK⟩:=lC u;replace o:=kx o a;replace r:=kb r a;replace q:=kb q a;replace d:=kb d a;clear u a;have af:=x.out.cell;have ag:=r.out.cell
 go_upto_region 5 with(first|(refine ci rfl 109 _ rfl _ rfl _ (dm r) ?_)|(go_at_call 145;refine(ar.out _).mono ?_;rintro e aJ ⟨rfl,a⟩;clear ar af ag;replace o:=kx o a;replace r:=kb r a;replace q:=kb q a;replace d:=kb d a;replace x:=kb x a;have af:=x.out.cell;have ag:=r.out.cell;clear a))
 have aq:=jL g y aE;rw[I.out]at aq;have aH:=G (λW=>tU 2 W);rcases aa.out with rfl|rfl;all_goals
  clear aa I
  go_upto_region 8 with fail
  refine aB 2 2 [(1,λv=>v=.agg #[.int i64 2,.int i64 2,.int i64 0,.int i64 0,.int i64 0,.int i64 0,.int i64 0],λ_ _=>True)] mixed Qb ⟨λ_ _ _ _ _=>trivial,trivial⟩ ?_;clear af ag aq;refine sx ?_ (λai ad=> ?_) ?_;rotate_left;(focus rw[oE 109 (.tmp 3) rfl w.heap.size rfl _ (dm (kb r ad.un))]);simp only[bE,bD,bC,bB,bA];refine so (λay ad H K aG=> ?_) ?_
  ·clear H ad;go_simp;refine(aH.out ay).mono ?_;rintro e aI ⟨rfl,a⟩;exact aG _ _ a rfl trivial
  rintro _ rfl;simp only[bE,bD,bC,bB,bA];intro ah X H;replace o:=kx o X.un;replace q:=kb q X.un;replace d:=kb d X.un;have aL:w.heap.size+1+1<ah.heap.size:=d.out.lt;clear H X r x;simp only[ae,aw];go_wp2_with (refine wpList_store_row rfl 109 _ _ rfl _ _ rfl rfl _ _ q.out Qb rfl (f8 _) ?_;generalize u:World.setRow ah _ _=W7;obtain⟨aA,_,R,F⟩:=ro u q;replace o:=F _ o J;replace d:=R _ _ _ J d;clear u R F q;have aO:=d.out.cell;have aN:=d.out.frozen);generalize u:World.setCell _ _ _=W8;obtain⟨ax,R,F⟩:=nc u d;have az:=R _ _ _ J aA;have aF:=F _ o J;have aD:=dm az;have aC:=j' ax;clear R F u;refine bodyPost_ret (v:=.tuple #[.agg g.cs,.int i64 0,.agg #[.int i64 2,.int i64 2,.int i64 0,.int i64 0,.int i64 0,.int i64 0,.int i64 0]]) ?_ rfl ⟨rfl,aF.out⟩;simp[results,results92,asAddr,aD,aC]
theorem Hz {d W:World} {g i:Nat} {v:Value} (G:(d.setCell ⟨g,i,none⟩ v).drew=W):Hid (W.heap.size=d.heap.size)/\(∀t a,Hid (aO d g t a)->Hid (aO W g t (a.setIfInBounds i v)))/\(∀k t a,k≠g->Hid (aO d k t a)->Hid (aO W k t a))/\ ∀w0,Hid (au w0 d)->w0.heap.size<=g->Hid (au w0 W):=by
 subst G;obtain⟨F,A,z,y⟩:=uC (w:=d) (g:=g) (i:=i) (v:=v) rfl;exact⟨F,λt a h=>mq (A t a h),λk t a o h=>mq (z k t a o h),λw0 w u=>sJ (y w0 w u) (eR (aI _))⟩
def IS (g:Rg) (k ra rb:Nat) (xc xv ld:Int):Int:=if k=1 then xv else if k=2 then wrap32 (g.r ra+xv*65536)else if k=3 then wrap32 (g.r rb+wrap32 xc)else if k=14 then wrap32 ld else ld%256
theorem EM (g:Rg) (b ag c:Nat) (b0 b1 b2 b3:UInt8) (k F A:Nat) (R z:Int) (ld:Int) (X:World) (an:FT X) (ao:wa X b ag b0 b1 b2 b3) (am:4<=c) (al:c<=maxLen) (Z:fW b0 b1 b2 b3=some ⟨k,F,A,R,z⟩) (aD:k=1\/k=2\/k=3\/k=14\/k=16)
  (ha:F<16) (aE:A<16) (aB:0<=g.pc/\g.pc<=1000000) (aj: -2147483648<=g.r A/\g.r A<=2147483647) (ai: -200<=R/\R<=300) (az: -32768<=z/\z<=32767) (aX:k=14->(g.r A+R).tmod 4=0):
  Calls prog 92 #[.agg g.cs,.slice (some ⟨b,ag,none⟩) 4 c,.int i64 ld] X λe w'=>e=.returned (.tuple #[.agg (Rg.upd ⟨g.r,g.pc+4⟩ F (IS g k F A R z ld)).cs,.int i64 0,.agg #[.int i64 0,.int i64 0,.int i64 0,.int i64 0,.int i64 0,.int i64 0,.int i64 0]])/\au X w':=by
 have av:=G (λW (ap:au X W)=>show Calls prog 86 #[.slice (some ⟨b,ag,none⟩) 4 c] W λe w'=>e=.returned (.tuple #[.agg #[.int i64 k,.int i64 F,.int i64 A,.int i64 R,.int i64 z],.int i64 0])/\au W w' from by
  have:=fy b ag c b0 b1 b2 b3 W (an.ext ap) (ao.ext ap) am al;rw[Z]at this
  exact this)
 have ae:=G (λW=>show Calls prog 145 #[.agg g.cs,.agg #[.int i64 k,.int i64 F,.int i64 A,.int i64 R,.int i64 z]] W λe w'=>e=.returned (.tuple #[.int i64 (bT g ⟨k,F,A,R,z⟩).1,.int i64 (bT g ⟨k,F,A,R,z⟩).2])/\au W w' from
  ij g ⟨k,F,A,R,z⟩ W (by simpa using aj) Qi ai)
 obtain⟨aV,aU⟩:=aB;obtain⟨aQ,aP⟩:=az;have aR:IntKind.i64.wrap (g.pc+4)=g.pc+4:=Qc
 have aS:IntKind.i64.wrap (4*z)=4*z:=Qc
 have aT:IntKind.i64.wrap (g.pc+4+4*z)=g.pc+4+4*z:=Qc
 clear an ao Z am al aj ai;unfold bT at ae;simp only[bY]at ae;have aY:(F:Int)<16:=J
 have aW:(A:Int)<16:=J
 rcases aD with rfl|rfl|rfl|rfl|rfl;all_goals
  simp at ae;go_enter func92,ntmps92
  go_upto_region 1 with fail
  generalize a:World.alloc (World.alloc (World.alloc X _) _) _=W0;obtain⟨u,r,q,o,s⟩:=F8 a;replace u:=G u;clear a
  go_upto_region 2 with(go_at_call 86;refine(av.out _ u.out).mono ?_;rintro e ah ⟨rfl,w⟩;have aO:X.heap.size+1+1<ah.heap.size:=(by have:=s.out;have:=dr w;omega);clear av;replace u:=kx u w;replace r:=kb r w;replace q:=kb q w;replace o:=kb o w)
  generalize a:World.alloc ah _=W1;obtain⟨w,x,aM⟩:=lC a;replace u:=kx u w;replace r:=kb r w;replace q:=kb q w;replace o:=kb o w;clear a w;have I:=x.out.cell;have H:=r.out.cell
  go_upto_region 5 with(first|(refine ci rfl 109 _ rfl _ rfl _ (dm r) ?_)|(go_at_call 145;refine(ae.out _).mono ?_;rintro e V ⟨rfl,w⟩;clear ae I H;replace u:=kx u w;replace r:=kb r w;replace q:=kb q w;replace o:=kb o w;replace x:=kb x w;have I:=x.out.cell;have H:=r.out.cell;clear w))
  have aH:=kX g
  go_upto_region 9 with fail
  go_upto_region 10 with(first|(refine ci rfl 109 _ rfl _ rfl _ (dm r) ?_)|(refine wpList_store_row rfl 109 _ _ rfl _ _ rfl rfl _ _ (aq _ _ _) Qb rfl (f8 _) ?_))
  generalize a:World.setRow (World.alloc V _) _ _=W3;obtain⟨af,aL,d,y⟩:=ro a (aq V _ _);have aN:X.heap.size+1+1<V.heap.size:=o.out.lt;replace r:=d _ _ _ J (kb r (aa V _));replace q:=d _ _ _ J (kb q (aa V _));replace o:=d _ _ _ J (kb o (aa V _));replace x:=d _ _ _ (by have:=x.out.lt;omega) (kb x (aa V _));replace u:=y _ (kx u (aa V _)) J;clear a d y H I;have I:=x.out.cell;have H:=r.out.cell;have fr:=r.out.frozen
  go_upto_region 12 with fail
  generalize a:World.setCell W3 _ _=W4;obtain⟨aK,ad,d,y⟩:=uC a;replace r:=ad _ _ r;replace q:=d _ _ _ J q;replace o:=d _ _ _ J o;replace x:=d _ _ _ J x;replace af:=d _ _ _ J af;replace u:=y _ u J;rw[oa]at r;clear a d ad y H I fr;have I:=x.out.cell;have H:=r.out.cell;have fr:=r.out.frozen;have aI:=af.out.cell;have ar:=jL ⟨g.r,g.pc+4⟩ F ha;have aG:=jL g A aE;simp only at ar
 focus (go_upto_region 42 with fail;generalize a:World.setCell W4 _ _=W5;replace a:=uC a)
 rotate_left
 focus (go_upto_region 18 with fail;go_region;go_upto_region 42 with fail;generalize a:World.drew (World.setCell W4 _ _)=W5;replace a:=Hz a)
 rotate_left
 focus (go_upto_region 20 with fail;go_region;go_upto_region 42 with fail;generalize a:World.drew (World.setCell W4 _ _)=W5;replace a:=Hz a)
 rotate_left
 focus (go_upto_region 42 with fail;generalize a:World.setCell W4 _ _=W5;replace a:=uC a)
 rotate_left
 focus (go_upto_region 42 with fail;generalize a:World.setCell W4 _ _=W5;replace a:=uC a)
 rotate_left;all_goals
  obtain⟨aJ,ad,d,y⟩:=a;replace r:=ad _ _ r;replace q:=d _ _ _ J q;replace o:=d _ _ _ J o;replace u:=y _ u J;rw[qB _ _ _ ha]at r;clear ad d y I H fr aI x af ar aG aH;go_wp2_with (first|(refine ci rfl 109 _ rfl _ rfl _ (dm r) ?_)|(refine wpList_store_row rfl 109 _ _ rfl _ _ rfl rfl _ _ q.out Qb rfl (f8 _) ?_;generalize a:World.setRow W5 _ _=W7;obtain⟨ay,_,d,y⟩:=ro a q;replace u:=y _ u J;replace o:=d _ _ _ J o;clear a d y q r;have a1:=o.out.cell;have aZ:=o.out.frozen));generalize a:World.setCell _ _ _=W8;obtain⟨aw,d,y⟩:=nc a o;have ax:=d _ _ _ J ay;have aF:=y _ u J;have aC:=dm ax;have aA:=j' aw;clear d y a;refine bodyPost_ret (v:=.tuple #[.agg (Rg.upd ⟨g.r,g.pc+4⟩ F _).cs,.int i64 0,.agg #[.int i64 0,.int i64 0,.int i64 0,.int i64 0,.int i64 0,.int i64 0,.int i64 0]]) ?_ rfl ⟨rfl,aF.out⟩;simp[results,results92,asAddr,aC,aA,IS]
def Io (g:Rg) (ra:Nat) (xv:Int):Nat->Rg
 |18=>⟨g.r,g.pc+4+4*xv⟩
 |19=>⟨g.r,cond (g.r ra==0) (g.pc+4+4*xv) (g.pc+4)⟩
 |20=>⟨(Rg.upd g ra (g.pc+4)).r,g.pc+4+4*xv⟩
 | _=>⟨g.r,wrap64 (g.r ra)⟩
theorem ER (g:Rg) (b ai c:Nat) (b0 b1 b2 b3:UInt8) (k R F:Nat) (V z:Int) (ld:Int) (I:World) (ap:FT I) (ar:wa I b ai b0 b1 b2 b3) (ao:4<=c) (an:c<=maxLen) (am:fW b0 b1 b2 b3=some ⟨k,R,F,V,z⟩) (aI:k=18\/k=19\/k=20\/k=21)
  (ha:R<16) (aJ:F<16) (aG:0<=g.pc/\g.pc<=1000000) (al: -2147483648<=g.r F/\g.r F<=2147483647) (Z: -200<=V/\V<=300) (aE: -32768<=z/\z<=32767):
  Calls prog 92 #[.agg g.cs,.slice (some ⟨b,ai,none⟩) 4 c,.int i64 ld] I λe w'=>e=.returned (.tuple #[.agg (Io g R z k).cs,.int i64 0,.agg #[.int i64 0,.int i64 0,.int i64 0,.int i64 0,.int i64 0,.int i64 0,.int i64 0]])/\au I w':=by
 have ay:=G (λW (av:au I W)=>show Calls prog 86 #[.slice (some ⟨b,ai,none⟩) 4 c] W λe w'=>e=.returned (.tuple #[.agg #[.int i64 k,.int i64 R,.int i64 F,.int i64 V,.int i64 z],.int i64 0])/\au W w' from by
  have:=fy b ai c b0 b1 b2 b3 W (ap.ext av) (ar.ext av) ao an;rw[am]at this
  exact this)
 have af:=G (λW=>show Calls prog 145 #[.agg g.cs,.agg #[.int i64 k,.int i64 R,.int i64 F,.int i64 V,.int i64 z]] W λe w'=>e=.returned (.tuple #[.int i64 (bT g ⟨k,R,F,V,z⟩).1,.int i64 (bT g ⟨k,R,F,V,z⟩).2])/\au W w' from
  ij g ⟨k,R,F,V,z⟩ W (by simpa using al) Qi Z)
 obtain⟨aZ,aY⟩:=aG;obtain⟨aU,aT⟩:=aE;have aV:IntKind.i64.wrap (g.pc+4)=g.pc+4:=Qc
 have aW:IntKind.i64.wrap (4*z)=4*z:=Qc
 have aX:IntKind.i64.wrap (g.pc+4+4*z)=g.pc+4+4*z:=Qc
 clear ap ar am ao an al Z;unfold bT at af;simp only[bY]at af;have a2:(R:Int)<16:=J
 have a1:(F:Int)<16:=J
 obtain⟨aA,aD⟩: ∃t:Bool,(g.r R==0)=t:=⟨_,rfl⟩
 rcases aI with rfl|rfl|rfl|rfl;all_goals
  simp at af;go_enter func92,ntmps92
  go_upto_region 1 with fail
  generalize d:World.alloc (World.alloc (World.alloc I _) _) _=W0;obtain⟨u,r,q,o,s⟩:=F8 d;replace u:=G u;clear d
  go_upto_region 2 with(go_at_call 86;refine(ay.out _ u.out).mono ?_;rintro e aj ⟨rfl,y⟩;have aS:I.heap.size+1+1<aj.heap.size:=(by have:=s.out;have:=dr y;omega);clear ay;replace u:=kx u y;replace r:=kb r y;replace q:=kb q y;replace o:=kb o y)
  generalize d:World.alloc aj _=W1;obtain⟨y,x,aQ⟩:=lC d;replace u:=kx u y;replace r:=kb r y;replace q:=kb q y;replace o:=kb o y;clear d y;have H:=x.out.cell;have ad:=r.out.cell
  go_upto_region 5 with(first|(refine ci rfl 109 _ rfl _ rfl _ (dm r) ?_)|(go_at_call 145;refine(af.out _).mono ?_;rintro e X ⟨rfl,y⟩;clear af H ad;replace u:=kx u y;replace r:=kb r y;replace q:=kb q y;replace o:=kb o y;replace x:=kb x y;have H:=x.out.cell;have ad:=r.out.cell;clear y))
  have aM:=kX g
  go_upto_region 9 with fail
  go_upto_region 10 with(first|(refine ci rfl 109 _ rfl _ rfl _ (dm r) ?_)|(refine wpList_store_row rfl 109 _ _ rfl _ _ rfl rfl _ _ (aq _ _ _) Qb rfl (f8 _) ?_))
  generalize d:World.setRow (World.alloc X _) _ _=W3;obtain⟨ag,aP,a,w⟩:=ro d (aq X _ _);have aR:I.heap.size+1+1<X.heap.size:=o.out.lt;replace r:=a _ _ _ J (kb r (aa X _));replace q:=a _ _ _ J (kb q (aa X _));replace o:=a _ _ _ J (kb o (aa X _));replace x:=a _ _ _ (by have:=x.out.lt;omega) (kb x (aa X _));replace u:=w _ (kx u (aa X _)) J;clear d a w ad H;have H:=x.out.cell;have ad:=r.out.cell;have fr:=r.out.frozen
  go_upto_region 12 with fail
  generalize d:World.setCell W3 _ _=W4;obtain⟨aO,A,a,w⟩:=uC d;replace r:=A _ _ r;replace q:=a _ _ _ J q;replace o:=a _ _ _ J o;replace x:=a _ _ _ J x;replace ag:=a _ _ _ J ag;replace u:=w _ u J;rw[oa]at r;clear d a A w ad H fr;have H:=x.out.cell;have ad:=r.out.cell;have fr:=r.out.frozen;have aN:=ag.out.cell;have aw:=jL ⟨g.r,g.pc+4⟩ R ha;have aL:=jL g F aJ;simp only at aw;have ax:=kX ⟨g.r,g.pc+4⟩;simp only at ax
 focus (go_upto_region 42 with fail;generalize d:World.setCell W4 _ _=ae;obtain⟨ah,A,a,w⟩:=uC d;replace r:=A _ _ r;replace q:=a _ _ _ J q;replace o:=a _ _ _ J o;replace u:=w _ u J;rw[oa]at r)
 rotate_left
 focus (cases aA;(focus (go_upto_region 42 with fail;generalize W4=ae at*));rotate_left;(go_upto_region 42 with fail;generalize d:World.setCell W4 _ _=ae;obtain⟨ah,A,a,w⟩:=uC d;replace r:=A _ _ r;replace q:=a _ _ _ J q;replace o:=a _ _ _ J o;replace u:=w _ u J;rw[oa]at r))
 rotate_left 2
 focus (go_upto_region 42 with fail;generalize d:World.setCell W4 _ _=W6;obtain⟨ah,A,a,w⟩:=uC d;replace r:=A _ _ r;replace q:=a _ _ _ J q;replace o:=a _ _ _ J o;replace u:=w _ u J;rw[qB _ _ _ ha]at r;generalize d:World.setCell W6 _ _=ae;obtain⟨ah,A,a,w⟩:=uC d;replace r:=A _ _ r;replace q:=a _ _ _ J q;replace o:=a _ _ _ J o;replace u:=w _ u J;rw[oa]at r)
 rotate_left
 focus (go_upto_region 42 with fail;generalize d:World.setCell W4 _ _=ae;obtain⟨ah,A,a,w⟩:=uC d;replace r:=A _ _ r;replace q:=a _ _ _ J q;replace o:=a _ _ _ J o;replace u:=w _ u J;rw[oa]at r)
 all_goals
  clear H ad fr aN x ag aw aL aM ax;try clear A a w
  go_wp2_with (first|(refine ci rfl 109 _ rfl _ rfl _ (dm r) ?_)|(refine wpList_store_row rfl 109 _ _ rfl _ _ rfl rfl _ _ q.out Qb rfl (f8 _) ?_;generalize d:World.setRow ae _ _=W7;obtain⟨aC,_,a,w⟩:=ro d q;replace u:=w _ u J;replace o:=a _ _ _ J o;clear d a w q r;have a4:=o.out.cell;have a3:=o.out.frozen));generalize d:World.setCell _ _ _=W8;obtain⟨az,a,w⟩:=nc d o;have aB:=a _ _ _ J aC;have aK:=w _ u J;have aH:=dm aB;have aF:=j' az;clear a w d;refine bodyPost_ret (v:=.tuple #[.agg (Rg.cs _),.int i64 0,.agg #[.int i64 0,.int i64 0,.int i64 0,.int i64 0,.int i64 0,.int i64 0,.int i64 0]]) ?_ rfl ⟨rfl,aK.out⟩;simp[results,results92,asAddr,aH,aF];first|rfl|(unfold Io;simp only[aD,cond];done)
end
end Go.Proofs.YtoedmpgicdekmaaGreatDoor
