/- Parts of the proof. -/
import Derived.Test.YtoedmpgicdekmaaGreatDoorCo25
set_option maxRecDepth 100000
set_option maxHeartbeats 8000000
set_option linter.all false
namespace Go.Proofs.YtoedmpgicdekmaaGreatDoor
open IntKind(i64)
open Go.Proofs.Tryz
section
open Go.RowKit
section
variable {w w' W:World} {g:Nat} {t t1 t2 t3:TypeId} {cs c1 c2 c3:Array Value}
theorem kb (d:Hid (aO w g t cs)) (a:au w w'):Hid (aO w' g t cs):=aO.ext d a
theorem kx {w0:World} (d:Hid (au w0 w)) (a:au w w'):Hid (au w0 w'):=sJ d a
theorem lC (a:w.alloc (.cells c1 t1)=W):au w W/\Hid (aO W w.heap.size t1 c1)/\Hid (W.heap.size=w.heap.size+1):=by
 subst a;exact⟨aa _ _,aq _ _ _,World.size_alloc _ _⟩
theorem IF (o:(w.alloc (.cells c1 t1)).alloc (.cells c2 t2)=W):au w W/\Hid (aO W w.heap.size t1 c1)/\Hid (aO W (w.heap.size+1) t2 c2)/\Hid (W.heap.size=w.heap.size+1+1):=by
 obtain⟨u,b1,h⟩:=lC (w:=w) (c1:=c1) (t1:=t1) rfl;obtain⟨d,b2,a⟩:=lC o;unfold Hid at*;rw[h]at b2 a;exact⟨u.trans d,b1.ext d,b2,a⟩
theorem F8 (o:((w.alloc (.cells c1 t1)).alloc (.cells c2 t2)).alloc (.cells c3 t3)=W):au w W/\Hid (aO W w.heap.size t1 c1)/\Hid (aO W (w.heap.size+1) t2 c2)/\Hid (aO W (w.heap.size+1+1) t3 c3)/\Hid (W.heap.size=w.heap.size+1+1+1):=by
 obtain⟨u,b1,b2,h⟩:=IF (w:=w) (c1:=c1) (t1:=t1) (c2:=c2) (t2:=t2) rfl;obtain⟨a,b3,d⟩:=lC o;unfold Hid at*;rw[h]at b3 d;exact⟨u.trans a,b1.ext a,b2.ext a,b3,d⟩
theorem ro (u:w.setRow g c1=W) (a:Hid (aO w g t cs)):Hid (aO W g t c1)/\Hid (W.heap.size=w.heap.size)/\(∀k t cs,k≠g->Hid (aO w k t cs)->Hid (aO W k t cs))/\ ∀w0,Hid (au w0 w)->w0.heap.size<=g->Hid (au w0 W):=by
 subst u;exact⟨setRow_heap _ _ cs c1 t _ a,by simp[Hid],λk t cs d a=>(setRow_other w g k _ d).trans a,λw0 o h=>below_setRow o h _⟩
theorem uC {i:Nat} {v:Value} (u:w.setCell ⟨g,i,none⟩ v=W):Hid (W.heap.size=w.heap.size)/\(∀t cs,Hid (aO w g t cs)->Hid (aO W g t (cs.setIfInBounds i v)))/\(∀k t cs,k≠g->Hid (aO w k t cs)->Hid (aO W k t cs))/\ ∀w0,Hid (au w0 w)->w0.heap.size<=g->Hid (au w0 W):=by
 subst u;exact⟨by simp[World.setCell,Hid],λt cs a=>aO.set a i v,λk t cs d a=>aO.far (p:=⟨g,i,none⟩) a d v,λw0 o h=>au.set (p:=⟨g,i,none⟩) o h v⟩
end
theorem oa (g:Rg) (p:Int):g.cs.setIfInBounds 16 (.int i64 p)=Rg.cs ⟨g.r,p⟩:=rfl
def Rg.upd (g:Rg) (i:Nat) (v:Int):Rg:=⟨λj=>if j=i then v else g.r j,g.pc⟩
theorem qB (g:Rg) (v:Int): ∀(i:Nat),i<16->g.cs.setIfInBounds i (.int .i32 v)=(g.upd i v).cs:=by
 intro i hi
 iterate 16 (rcases i with _|i;exact rfl)
 omega
theorem nc {W u:World} {g:Nat} {t:TypeId} {A z w o h d a u0 u1 u2 u3 u4 u5 u6:Value} (ag:((((((W.setCell ⟨g,0,none⟩ u0).setCell ⟨g,1,none⟩ u1).setCell ⟨g,2,none⟩ u2).setCell ⟨g,3,none⟩ u3).setCell ⟨g,4,none⟩ u4).setCell ⟨g,5,none⟩ u5).setCell ⟨g,6,none⟩ u6=u) (F:Hid (aO W g t #[A,z,w,o,h,d,a])):
  Hid (aO u g t #[u0,u1,u2,u3,u4,u5,u6])/\(∀k t y,k≠g->Hid (aO W k t y)->Hid (aO u k t y))/\ ∀w0,Hid (au w0 W)->w0.heap.size<=g->Hid (au w0 u):=by
 subst ag;have af:aO _ g t #[u0,z,w,o,h,d,a]:=F.out.set 0 u0;have ae:aO _ g t #[u0,u1,w,o,h,d,a]:=af.set 1 u1;have ad:aO _ g t #[u0,u1,u2,o,h,d,a]:=ae.set 2 u2;have H:aO _ g t #[u0,u1,u2,u3,h,d,a]:=ad.set 3 u3;have I:aO _ g t #[u0,u1,u2,u3,u4,d,a]:=H.set 4 u4;have aa:aO _ g t #[u0,u1,u2,u3,u4,u5,a]:=I.set 5 u5;refine⟨aa.set 6 u6,λk t y G X=> ?_,λw0 V R=> ?_⟩
 ·iterate 7 (refine aO.far ?_ G _)
  exact X
 ·iterate 7 (refine au.set ?_ R _)
  exact V
theorem zi (g:Rg) (i:Nat) (hi:i<16) (v:Int):(g.upd i v).cs[i]? =some (.int .i32 v):=by
 rw[jL _ i hi];simp[Rg.upd]
theorem D6 (g:Rg) (i:Nat) (hi:i<16) (v:Int):(g.upd i v).cs.setIfInBounds i (.int .i32 v)=(g.upd i v).cs:=by
 rw[qB _ v i hi]
 congr 1
 simp only[Rg.upd]
 congr 1
 funext j;split<;>rfl
theorem dm {a:World} {g:Rg} {b:Nat} (d:Hid (aO a b 109 g.cs)):(loadVar 109 ⟨b,0,none⟩).run prog a=.ok (.agg g.cs) a:=
 run_loadVar_row a b _ _ g.cs _ _ d underlying109 rfl Qb
theorem j' {a:World} {b:Nat} {u0 u1 u2 u3 u4 u5 u6:Value} (d:Hid (aO a b 181 #[u0,u1,u2,u3,u4,u5,u6])):(loadVar 181 ⟨b,0,none⟩).run prog a=.ok (.agg #[u0,u1,u2,u3,u4,u5,u6]) a:=
 run_loadVar_row a b _ _ _ _ _ d underlying181 rfl Qb
theorem f8 (g:Rg):g.cs.all (·.oneCell')=true:=by simp[Rg.cs,Value.oneCell']
theorem kX (g:Rg):g.cs[16]? =some (.int i64 g.pc):=rfl
theorem tU (n:Int) (a:World):Calls prog 146 #[.int i64 n] a λe w'=>e=.returned (.agg #[.int i64 2,.int i64 n,.int i64 0,.int i64 0,.int i64 0,.int i64 0,.int i64 0])/\au a w':=by
 go_enter func146,ntmps146;have d:=(aq a 181 #[.int i64 2,.int i64 n,.int i64 0,.int i64 0,.int i64 0,.int i64 0,.int i64 0]).cell;go_wp2_with fail;exact bodyPost_ret (v:=.agg #[.int i64 2,.int i64 n,.int i64 0,.int i64 0,.int i64 0,.int i64 0,.int i64 0]) (by simp[results,results146,go_sem,d]) rfl ⟨rfl,aa a _⟩
theorem ET (g:Rg) (b al c:Nat) (b0 b1 b2 b3:UInt8) (k A z y:Nat) (ld:Int) (X:World) (aI:FT X) (aK:wa X b al b0 b1 b2 b3) (aH:4<=c) (aG:c<=maxLen) (aE:fW b0 b1 b2 b3=some ⟨k,A,z,y,0⟩) (aj:k=4\/k=5\/k=6\/k=7\/k=8\/k=9\/k=10\/k=11\/k=12\/k=13)
  (ha:A<16) (a5:z<16) (a4:y<16) (a1:0<=g.pc/\g.pc<=1000000) (aC: -2147483648<=g.r z/\g.r z<=2147483647) (ag:k=7\/k=8->g.r y≠0):
  Calls prog 92 #[.agg g.cs,.slice (some ⟨b,al,none⟩) 4 c,.int i64 ld] X λe w'=>e=.returned (.tuple #[.agg (Rg.upd ⟨g.r,g.pc+4⟩ A (mi k (g.r z) (g.r y))).cs,.int i64 0,.agg #[.int i64 0,.int i64 0,.int i64 0,.int i64 0,.int i64 0,.int i64 0,.int i64 0]])/\au X w':=by
 have aM:=G (λW (ah:au X W)=>show Calls prog 86 #[.slice (some ⟨b,al,none⟩) 4 c] W λe w'=>e=.returned (.tuple #[.agg #[.int i64 k,.int i64 A,.int i64 z,.int i64 y,.int i64 0],.int i64 0])/\au W w' from by
  have:=fy b al c b0 b1 b2 b3 W (aI.ext ah) (aK.ext ah) aH aG;rw[aE]at this
  exact this)
 have aL:=G (λW=>show Calls prog 145 #[.agg g.cs,.agg #[.int i64 k,.int i64 A,.int i64 z,.int i64 y,.int i64 0]] W λe w'=>e=.returned (.tuple #[.int i64 0,.int i64 0])/\au W w' from by
  have:=ij g ⟨k,A,z,y,0⟩ W (by simpa using aC) Qi Qi;unfold bT dq.val at this;rw[if_neg Qi,if_neg Qi]at this
  exact this)
 have aP:=G (λW=>Ak k (g.r z) (g.r y) W aj ag);obtain⟨bw,bv⟩:=a1;have bu:IntKind.i64.wrap (g.pc+4)=g.pc+4:=Qc
 clear aI aK aE aH aG aC;go_enter func92,ntmps92
 go_upto_region 1 with fail
 generalize w:World.alloc (World.alloc (World.alloc X _) _) _=W0;obtain⟨d,r,q,a,s⟩:=F8 w;replace d:=G d;clear w;replace aj:=G aj;replace ag:=G ag
 go_upto_region 2 with(go_at_call 86;refine(aM.out _ d.out).mono ?_;rintro e Z ⟨rfl,o⟩;clear aM;replace d:=kx d o;replace r:=kb r o;replace q:=kb q o;replace a:=kb a o)
 generalize w:World.alloc Z _=W1;obtain⟨o,x,be⟩:=lC w;replace d:=kx d o;replace r:=kb r o;replace q:=kb q o;replace a:=kb a o;clear w o;have ad:=x.out.cell;have af:=r.out.cell
 go_upto_region 5 with(first|(refine ci rfl 109 _ rfl _ rfl _ (dm r) ?_)|(go_at_call 145;refine(aL.out _).mono ?_;rintro e I ⟨rfl,o⟩;clear aL ad af;replace d:=kx d o;replace r:=kb r o;replace q:=kb q o;replace a:=kb a o;replace x:=kb x o;have ad:=x.out.cell;have af:=r.out.cell;clear o))
 have bG:=jL g y a4;have bH:=jL g z a5;have bI:=kX g;have a3:3<k/\k<14:=by have:=aj.out;omega
 obtain⟨aW,aV⟩:=a3;have aF:k=7\/k=8\/(¬k=7/\ ¬k=8):=J
 obtain⟨K,H⟩: ∃K:Int,(k:Int)=K:=⟨_,rfl⟩
 rw[H]at x ad aP;have bN:=G H;have aA: ¬K=1:=J
 have az: ¬K=2:=J
 have ay: ¬K=3:=J
 have R: ∀j:Int,14<=j->(K==j)=false:=λj bx=>Qn.2 J;have bq:=Qn.2 aA;have bj:=Qn.2 az;have bf:=Qn.2 ay;have bp:=R 14 Qd;have bo:=R 15 Qd;have bn:=R 16 Qd;have bm:=R 17 Qd;have bl:=R 18 Qd;have bk:=R 19 Qd;have bi:=R 20 Qd;have bh:=R 21 Qd;have bg:=R 22 Qd
 have aO:=G (show(K==7)=true/\(g.r y==0)=false\/(K==7)=false/\(K==8)=true/\(g.r y==0)=false\/(K==7)=false/\(K==8)=false by
  rcases aF with ah|ah|⟨h1,h2⟩
  ·exact .inl ⟨beq_iff_eq.2 J,Qn.2 (ag.out (.inl ah))⟩
  ·exact .inr (.inl ⟨Qn.2 J,beq_iff_eq.2 J,Qn.2 (ag.out (.inr ah))⟩)
  ·exact .inr (.inr ⟨Qn.2 J,Qn.2 J⟩))
 have bt:X.heap.size+1+1<Z.heap.size:=by have:=s.out;have:=dr o;omega
 generalize a7:mi k (g.r z) (g.r y)=an at*;clear H aA az ay R aF ag aj aW aV
 go_upto_region 7 with fail
 rcases aO.out with⟨ar,ap⟩|⟨ar,ap,e3⟩|⟨ar,ap⟩
 all_goals
  clear aO
  go_upto_region 9 with fail
  try clear e3
  clear ar ap
  go_upto_region 10 with(first|(refine ci rfl 109 _ rfl _ rfl _ (dm r) ?_)|(refine wpList_store_row rfl 109 _ _ rfl _ _ rfl rfl _ _ (aq _ _ _) Qb rfl (f8 _) ?_))
  generalize w:World.setRow (World.alloc I _) _ _=W3;obtain⟨ai,bd,u,F⟩:=ro w (aq I _ _);have br:X.heap.size+1+1<I.heap.size:=a.out.lt;replace r:=u _ _ _ J (kb r (aa I _));replace q:=u _ _ _ J (kb q (aa I _));replace a:=u _ _ _ J (kb a (aa I _));replace x:=u _ _ _ (by have:=x.out.lt;omega) (kb x (aa I _));replace d:=F _ (kx d (aa I _)) J;clear w u F af ad;have ad:=x.out.cell;have af:=r.out.cell;have fr:=r.out.frozen
  go_upto_region 12 with fail
  generalize w:World.setCell W3 _ _=W4;obtain⟨bc,aD,u,F⟩:=uC w;replace r:=aD _ _ r;replace q:=u _ _ _ J q;replace a:=u _ _ _ J a;replace x:=u _ _ _ J x;replace ai:=u _ _ _ J ai;replace d:=F _ d J;rw[oa]at r;clear w u aD F af ad fr;have ad:=x.out.cell;have af:=r.out.cell;have fr:=r.out.frozen;have a8:=ai.out.cell
  go_upto_region 14 with fail
  refine cC (UW X.heap.size 109 (Rg.cs ⟨g.r,g.pc+4⟩) (Rg.upd ⟨g.r,g.pc+4⟩ A an).cs) (UW.refl _ _ _ _) (UW.trans _ _ _ _) 15 16 [(13,λv=>v=.int .i32 an,λ_ _=>True)] [3,8] mixed Qb Qb Qb Qf ⟨λ_ _ _ _ _=>trivial,trivial⟩ ?_;clear ad af fr a8;have bF:(z:Int)<16:=J
  have bz:(y:Int)<16:=J
  repeat (first|(refine bU Qf ?_;simp only[bE,bD,bC,bB,bA])|(refine sx ?_ (λZ V=> ?_) ?_;rotate_left;(focus have bL:=(x.out.grown (aJ V.1) (λe=>by injection e with e;omega)).cell;have bK:=(ai.out.grown (aJ V.1) (λe=>by injection e with e;omega)).cell;clear V;go_simp<;>with_reducible rfl);simp only[bE,bD,bC,bB,bA]))
  refine so (λaR V ao K H=> ?_) ?_
  ·clear ao V;go_simp;refine(aP.out aR).mono ?_;rintro e bb ⟨rfl,rfl⟩;exact H _ _ (UW.refl _ _ _ _ _) rfl trivial
  rintro _ rfl;simp only[bE,bD,bC,bB,bA];repeat (first|(refine bU Qf ?_;simp only[bE,bD,bC,bB,bA])|(refine sx ?_ (λZ V=> ?_) ?_;rotate_left;(focus clear V;go_simp<;>with_reducible rfl);simp only[bE,bD,bC,bB,bA]))
  intro aS aB ao;clear ao;simp only[ae,aw];obtain⟨⟨ba,aX⟩,aY,V,ax⟩:=aB.store r.out A (.int .i32 an) (.int .i32 (g.r A)) (qB _ _ _ ha) (D6 _ _ ha _) (jL ⟨g.r,g.pc+4⟩ A ha) (zi _ _ ha _);have av:=G V;refine aN Qf Qe (λK H=> ?_);go_simp;refine H _ _ av.out ?_;clear H aB aX aY V;refine cQ ?_;generalize World.setCell aS _ _=a9 at*;replace r:=G ax;have am:=aJ av.out.1;replace q:=G (q.out.grown am (λe=>by injection e with e;omega));replace a:=G (a.out.grown am (λe=>by injection e with e;omega));replace d:=G (d.out.grown am (λk e=>by injection e with e;omega));clear ax am av x ai;go_wp2_with (first|(refine ci rfl 109 _ rfl _ rfl _ (dm r) ?_)|(refine wpList_store_row rfl 109 _ _ rfl _ _ rfl rfl _ _ q.out Qb rfl (f8 _) ?_;generalize w:World.setRow a9 _ _=W7;obtain⟨aU,_,u,F⟩:=ro w q;replace d:=F _ d J;replace a:=u _ _ _ J a;clear w u F q r;have bM:=a.out.cell;have bJ:=a.out.frozen));generalize w:World.setCell _ _ _=W8;obtain⟨aQ,u,F⟩:=nc w a;have aT:=u _ _ _ J aU;have a6:=F _ d J;have a2:=dm aT;have aZ:=j' aQ;clear u F w;refine bodyPost_ret (v:=.tuple #[.agg (Rg.upd ⟨g.r,g.pc+4⟩ A an).cs,.int i64 0,.agg #[.int i64 0,.int i64 0,.int i64 0,.int i64 0,.int i64 0,.int i64 0,.int i64 0]]) ?_ rfl ⟨by rw[a7],a6.out⟩;simp[results,results92,asAddr,a2,aZ]
end
section
abbrev Nm:=List UInt8
structure CS where
 code:List dq
 tx:List UInt8
 calls:List (Nat×Nm)
 dats:List (Nat×Nm)
 slots:List (Nm×Int)
 frame:Int
def jQ (n:Int):Int:=if n%65536<32768 then n%65536 else n%65536-65536
def EJ (n:Int):Int:=jQ ((n-jQ n)/65536)
def CS.add (s:CS) (x:dq):CS:={s with code:=s.code++[x]}
def CS.vl (s:CS) (op:Nat) (a v:Int):CS:=s.add ⟨op,a,0,0,v⟩
def CS.op (s:CS) (o:Nat) (a b n:Int):CS:=s.add ⟨o,a,b,n,0⟩
def CS.st (s:CS) (r n:Int):CS:=if EJ n=0 then s.vl 1 r (jQ n)else(s.vl 1 r (jQ n)).vl 2 r (EJ n)
def gS (x:dq) (v:Int):dq:={x with v:=v}
def CS.land (s:CS) (i:Nat):CS:={s with code:=s.code.modify i (gS · ((s.code.length:Int)-i-1))}
def CS.inv (s:CS) (r:Int):CS:=(s.vl 1 0 0).op 13 r r 0
def CS.chk (s:CS) (r m:Int):CS:=(((((s.st 0 (m+1)).op 12 0 r 0).vl 1 14 (-1)).op 12 14 14 r).op 9 0 0 14).op 7 0 0 0
def CS.text (s:CS) (r:Int) (t:List UInt8):CS:={(s.vl 1 r s.tx.length)with dats:=s.dats++[(s.code.length,[])],tx:=s.tx++t}
def CS.dat (s:CS) (r:Int) (nm:Nm):CS:={(s.vl 1 r 0)with dats:=s.dats++[(s.code.length,nm)]}
def iw (l:List (Nm×Int)) (nm:Nm):Option Int:=(l.find? (·.1==nm)).map (·.2)
def CS.ld (s:CS) (o:Nat) (r:Int) (nm:Nm):CS:=match iw s.slots nm with
 |some at_=>s.op o r 15 at_
 |none=>(s.dat 0 nm).op o r 0 0
def iU (l:List (Nm×Int)) (nm:Nm) (v:Int):List (Nm×Int):=if l.any (·.1==nm)=true then l.map (λx=>if x.1=nm then(nm,v)else x)else(nm,v)::l
def CS.decl (s:CS) (nm:Nm):CS:={s with slots:=iU s.slots nm (32+4*s.slots.length)}
def J_:List (Nm×Nat×Bool×Bool):=[([43],4,false,false),([45],5,false,false),([42],6,false,false),([47],7,false,false),([37],8,false,false),([61,61],13,false,false),([33,61],13,false,true),([60],12,false,false),([60,61],12,true,true),([62],12,true,false)]
def tw (op:Nm):Nat×Bool×Bool:=((J_.find? (·.1==op)).map (·.2)).getD (12,false,true)
def biop (op:Nm) (r:Int) (s:CS):CS:=
 let s1:=if(tw op).2.1=true then s.op (tw op).1 r (r+1) r else s.op (tw op).1 r r (r+1)
 if(tw op).2.2=true then s1.inv r else s1
def svL (o:Nat):Nat->Nat->CS->CS
 |0,i,s=>s
 |k+1,i,s=>svL o k (i+1) (s.op o i 15 (4+4*((i:Int)-7)))
def mvL (r:Nat):Nat->Nat->CS->CS
 |0,i,s=>s
 |k+1,i,s=>mvL r k (i+1) (s.op 3 (1+i) (r+i) 0)
def CS.call (s:CS) (nm:Nm):CS:={(s.vl 20 14 0)with calls:=s.calls++[(s.code.length,nm)]}
def caFin (nm:Nm) (n r:Nat) (s:CS):CS:=(svL 14 (r-7) 7 ((mvL r n 0 (svL 15 (r-7) 7 s)).call nm)).op 3 r 1 0
def ua:List UInt8->List Ex->Nat
 | _,[]=>0
 |ls,_::l=>if ls.headD 0=105 then ua ls.tail l+1 else ua ls.tail l
def biM (c:Int) (n r i:Nat) (s:CS):CS:=if n<=i\/c=10/\0<i then s.vl 1 (2+i) 0 else s.op 3 (2+i) (r+i) 0
section
variable (sz:Nm->Int)
def CS.elem (s:CS) (r:Int) (nm:Nm):CS:=((s.chk r (sz nm-1)).dat 0 nm).op 4 0 0 r
def mQ:List UInt8->List Ex->Int->CS->Int×CS
 | _,[],lim,s=>(lim,s)
 |ls,x::l,lim,s=>if ls.headD 0=105 then mQ ls.tail l lim s else if x.k=2 then mQ ls.tail l x.tx.length ((s.text 5 x.tx).st 6 x.tx.length)else mQ ls.tail l (sz x.nm) (s.dat 5 x.nm)
def iT (c:Int) (ls:List UInt8) (a:List Ex) (r:Nat) (s:CS):CS:=
 let n:=ua ls a
 let p:=mQ sz ls a 0 s
 let s1:=if c=9\/c=10 then p.2.chk ((r:Int)+n-1) (min p.1 128)else p.2
 let s2:=biM c n r 2 (biM c n r 1 (biM c n r 0 s1))
 let s3:=if c=9\/c=10 then s2.op 3 6 ((r:Int)+n-1) 0 else s2
 ((s3.vl 1 1 c).op 22 0 0 0).op 3 r 1 0
mutual
def fu:Ex->Nat->CS->CS
 | .mk k op nm tx v a,r,s=>
  if k=1 then s.st r v
  else if k=3 then s.ld 14 r nm
  else if k=4 then((eW a r s).elem sz r nm).op 16 r 0 0
  else if k=5 then(match fX nm with
   |some (c,ls)=>iT sz c ls a r (mP ls a r s)
   |none=>caFin nm a.length r (p6 a r s))
  else if k=6 then(if op=[33]then(eW a r s).inv r else((eW a r s).vl 1 0 0).op 5 r 0 r)
  else if k=7 then
   (if op=[38,38]then((((nI a r ((eW a r s).vl 19 r 0)).inv r).inv r).land (eW a r s).code.length)
   else if op=[124,124]then(((nI a r (((eW a r s).inv r).vl 19 r 0)).inv r).land ((eW a r s).inv r).code.length).inv r
   else biop op r (nI a (r+1) (eW a r s)))
  else s
def eW:List Ex->Nat->CS->CS
 | [],r,s=>s
 |x::_,r,s=>fu x r s
def nI:List Ex->Nat->CS->CS
 | [],r,s=>s
 | _::l,r,s=>eW l r s
def p6:List Ex->Nat->CS->CS
 | [],r,s=>s
 |x::l,r,s=>p6 l (r+1) (fu x r s)
def mP:List UInt8->List Ex->Nat->CS->CS
 | _,[],r,s=>s
 |ls,x::l,r,s=>if ls.headD 0=105 then mP ls.tail l (r+1) (fu x r s)else mP ls.tail l r s
end
def CS.back (s:CS):CS:=((s.op 14 14 15 0).op 3 15 15 s.frame).op 21 14 0 0
mutual
def nH:St->CS->CS
 | .mk k nm ex b e,s=>
  if k=4 then
   (if e.isEmpty=true then(dI b ((eW sz ex 7 s).vl 19 7 0)).land (eW sz ex 7 s).code.length
   else(dI e (((dI b ((eW sz ex 7 s).vl 19 7 0)).vl 18 0 0).land (eW sz ex 7 s).code.length)).land (dI b ((eW sz ex 7 s).vl 19 7 0)).code.length)
  else if k=5 then
   ((dI b ((eW sz ex 7 s).vl 19 7 0)).vl 18 0 ((s.code.length:Int)-(dI b ((eW sz ex 7 s).vl 19 7 0)).code.length-1)).land (eW sz ex 7 s).code.length
  else if k=1 then((gO ex s).decl nm).ld 15 7 nm
  else if k=2 then(gO ex s).ld 15 7 nm
  else if k=3 then((((nI sz ex 7 ((gO ex s).op 15 7 15 28)).op 3 8 7 0).op 14 7 15 28).elem sz 7 nm).op 17 8 0 0
  else if k=6 then((gO ex s).op 3 1 7 0).back
  else gO ex s
def dI:List St->CS->CS
 | [],s=>s
 |x::l,s=>dI l (nH x s)
def gO:List Ex->CS->CS
 | [],s=>s.vl 1 7 0
 |x::_,s=>fu sz x 7 s
end
def lf:List Nm->Nat->CS->CS
 | [],i,s=>s
 |p::l,i,s=>lf l (i+1) ((s.decl p).op 15 (1+i) 15 (32+4*i))
def wh:Nat->Nat->CS->CS
 |0,i,s=>s
 |k+1,i,s=>wh k (i+1) (s.op 15 0 15 (32+4*i))
def zY (f:Fc) (s:CS):CS:=
 let s0:CS:={s with slots:=[],frame:=e_ f}
 let s1:=(((((s0.op 3 15 15 (-(e_ f:Int))).vl 1 0 3071).op 12 0 0 15).op 7 0 0 0).op 15 14 15 0)
 let s2:=wh (cK f.body) f.ps.length ((lf f.ps 0 s1).vl 1 0 0)
 ((dI sz f.body s2).vl 1 1 0).back
def ig:List Fc->List (Nm×Int)×CS->List (Nm×Int)×CS
 | [],p=>p
 |f::l,p=>ig l ((f.nm,(p.2.code.length:Int))::p.1,zY sz f p.2)
end
def GX:CS:=⟨[],[],[],[],[],0⟩
def eU:CS:=((((((GX.call dH).vl 1 0 255).op 9 2 1 0).vl 1 1 0).vl 1 3 0).vl 1 4 0|>.op 22 0 0 0).vl 18 0 (-1)
def lN:List Vr->Int->List (Nm×Int)->Int×List (Nm×Int)
 | [],n,l=>(n,l)
 |v::r,n,l=>if v.sz=0 then lN r (n+4) ((v.nm,n)::l)else lN r n l
def qe:List Vr->Int->List (Nm×Int)->Int×List (Nm×Int)
 | [],n,l=>(n,l)
 |v::r,n,l=>if 0<v.sz then qe r (n+v.sz) ((v.nm,n)::l)else qe r n l
def pI:List Vr->List (Nm×Int)->List (Nm×Int)
 | [],l=>l
 |v::r,l=>if 0<v.sz then pI r ((v.nm,v.sz)::l)else pI r l
def aQ (l:List (Nm×Int)) (nm:Nm):Int:=(iw l nm).getD 0
structure pD where
 code:List UInt8
 data:List UInt8
 zero:Int
 entry:Int
def b8 (n:Int):UInt8:=UInt8.ofNat (n%256).toNat
def kI (x:dq):List UInt8:=if(jh x.op).2.2.2.2.1=true then[b8 x.op,b8 x.a,b8 (x.v/256),b8 x.v]else[b8 x.op,b8 x.a,b8 x.b,b8 x.c]
def lI (l:List UInt8):List UInt8:=l++List.replicate ((4-l.length%4)%4) 0
def mr (n:Int):Int:=(n+127)/128*128
def tS (at_:List (Nm×Int)):List (Nat×Nm)->List dq->List dq
 | [],c=>c
 |p::l,c=>tS at_ l (c.modify p.1 (gS · (aQ at_ p.2-p.1-1)))
def addV (x:dq) (v:Int):dq:={x with v:=x.v+v}
def tR (data tx:Int) (pl:List (Nm×Int)):List (Nat×Nm)->List dq->List dq
 | [],c=>c
 |p::l,c=>tR data tx pl l (c.modify p.1 (addV · (if p.2=[]then data else data+(tx+aQ pl p.2))))
def iG (p:Pg):CS×List (Nm×Int)×Int:=
 let i:=lN p.vs 0 []
 let a:=qe p.vs i.1 i.2
 let f:=ig (aQ (pI p.vs [])) p.fs ([],eU)
 (f.2,f.1,a.1)
end
end Go.Proofs.YtoedmpgicdekmaaGreatDoor
