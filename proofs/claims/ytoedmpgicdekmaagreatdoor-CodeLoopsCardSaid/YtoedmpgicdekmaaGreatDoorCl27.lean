/- Parts of the proof. -/
import Derived.Test.YtoedmpgicdekmaaGreatDoorCl00
import Derived.Test.YtoedmpgicdekmaaGreatDoorCl16
import Derived.Test.YtoedmpgicdekmaaGreatDoorCl26
set_option maxRecDepth 100000
set_option maxHeartbeats 8000000
set_option linter.unusedVariables false
set_option linter.unusedSimpArgs false
set_option linter.unusedSectionVars false
namespace Go.Proofs.YtoedmpgicdekmaaGreatDoor
open Go.Proofs.Tryz
open Go.RowKit
theorem IL {S:Nat->Prop} {k:Nat} {a w':World} {t:TypeId} {d:Array Value} (u:Hid (aM a k t d)) (o:Mv S a w') (h: ¬S k):Hid (aM w' k t d):=oT o u h
def UB (q z:Nat) (w w':World):Prop:=Mv (λj=>j=q\/j=z) w w'/\(∀t cs,aM w q t cs-> ∃cs',aM w' q t cs'/\cs'.size=cs.size)/\ ∀t cs,aM w z t cs-> ∃cs',aM w' z t cs'/\cs'.size=cs.size
theorem UB.refl (q o:Nat) (h:World):UB q o h h:=⟨gn _ _,λt d a=>⟨d,a,rfl⟩,λt d a=>⟨d,a,rfl⟩⟩
theorem UB.trans (q a:Nat) (A b c:World) (y:UB q a A b) (k:UB q a b c):UB q a A c:=
 ⟨y.1.trans k.1,λt z d=>by obtain⟨c1,w,u⟩:=y.2.1 t z d;obtain⟨c2,o,h⟩:=k.2.1 t c1 w;exact⟨c2,o,h.trans u⟩,λt z d=>by obtain⟨c1,w,u⟩:=y.2.2 t z d;obtain⟨c2,o,h⟩:=k.2.2 t c1 w;exact⟨c2,o,h.trans u⟩⟩
theorem UB.row {q h g:Nat} {z w':World} {o y:Array Value} {t:TypeId} (V:UB q h z w') (R:g=q\/g=h) (X:q≠h) (A:Hid (aM w' g t y)) (J:y.size=o.size):UB q h z (w'.setRow g o):=by
 refine UB.trans _ _ _ _ _ V ?_;obtain⟨K,_,F,_⟩:=qJ (w:=w') (g:=g) (c1:=o) rfl A;refine⟨⟨rfl,rfl,rfl,by simp,λk F M=>setRow_other w' g k o λe=>M (by rcases R with rfl|rfl;exact .inl e;exact .inr e)⟩,λu d w=> ?_,λu d w=> ?_⟩
 ·by_cases e:q=g
  ·subst e;have a:some (Obj.cells d u (0,0))=some (Obj.cells y t (0,0)):=w.symm.trans A.out;injection a with a;injection a with I H;subst I H;exact⟨o,K.out,J.symm⟩
  ·exact⟨d,(F q u d e (G w)).out,rfl⟩
 ·by_cases e:h=g
  ·subst e;have a:some (Obj.cells d u (0,0))=some (Obj.cells y t (0,0)):=w.symm.trans A.out;injection a with a;injection a with I H;subst I H;exact⟨o,K.out,J.symm⟩
  ·exact⟨d,(F h u d e (G w)).out,rfl⟩
theorem xC (g:Rg) (b ab c:Nat) (b0 b1 b2 b3:UInt8) (k o z:Nat) (H y:Int) (ld:Int) (a:World) (aB:FT a) (aC:vu a b ab b0 b1 b2 b3) (az:4<=c) (ay:c<=maxLen) (ax:fH b0 b1 b2 b3=some ⟨k,o,z,H,y⟩) (aS:k=15\/k=17)
  (ha:o<16) (aT:z<16) (aP:0<=g.pc/\g.pc<=1000000) (ar: -2147483648<=g.r z/\g.r z<=2147483647) (al: -200<=H/\H<=300) (aM: -32768<=y/\y<=32767) (bj:k=15->(g.r z+H).tmod 4=0) (bb: -2147483648<=g.r o/\g.r o<=2147483647):
  Calls prog 92 #[.agg g.cs, .slice (some ⟨b,ab,none⟩) 4 c, .int .i64 ld] a λe w'=>e= .returned (.tuple #[.agg (Rg.mk g.r (g.pc+4)).cs, .int .i64 (if k=15 then g.r o else(g.r o)%256), .agg #[.int .i64 0, .int .i64 0, .int .i64 0, .int .i64 0, .int .i64 0, .int .i64 0, .int .i64 0]])/\au a w':=by
 have aI:=G (λW (aD:au a W)=>show Calls prog 86 #[.slice (some ⟨b,ab,none⟩) 4 c] W λe w'=>e= .returned (.tuple #[.agg #[.int .i64 k, .int .i64 o, .int .i64 z, .int .i64 H, .int .i64 y], .int .i64 0])/\au W w' from by
  have:=fe b ab c b0 b1 b2 b3 W (aB.ext aD) (aC.ext aD) az ay;rw[ax]at this
  exact this)
 have X:=G (λW=>show Calls prog 145 #[.agg g.cs, .agg #[.int .i64 k, .int .i64 o, .int .i64 z, .int .i64 H, .int .i64 y]] W λe w'=>e= .returned (.tuple #[.int .i64 (bR g ⟨k,o,z,H,y⟩).1, .int .i64 (bR g ⟨k,o,z,H,y⟩).2])/\au W w' from
  gP g ⟨k,o,z,H,y⟩ W (by simpa using ar) Qi al)
 obtain⟨bg,bf⟩:=aP;obtain⟨a9,a8⟩:=aM;have bc:IntKind.i64.wrap (g.pc+4)=g.pc+4:=Qc
 have bd:IntKind.i64.wrap (4*y)=4*y:=Qc
 have be:IntKind.i64.wrap (g.pc+4+4*y)=g.pc+4+4*y:=Qc
 clear aB aC ax az ay ar al;unfold bR at X;simp only[bW]at X;have bk:(o:Int)<16:=Qa
 have bi:(z:Int)<16:=Qa
 have ba:IntKind.i64.wrap (g.r o)=g.r o:=Qc
 rcases aS with rfl|rfl;all_goals
  simp at X;go_enter func92,ntmps92
  go_upto_region 1 with fail
  generalize F:World.alloc (World.alloc (World.alloc a _) _) _=W0;obtain⟨u,r,q,w,s⟩:=Fq F;replace u:=G u;clear F
  go_upto_region 2 with(go_at_call 86;refine(aI.out _ u.out).mono ?_;rintro e Z ⟨rfl,d⟩;have a7:a.heap.size+1+1<Z.heap.size:=(by have:=s.out;have:=dm d;omega);clear aI;replace u:=kx u d;replace r:=kb r d;replace q:=kb q d;replace w:=kb w d)
  generalize F:World.alloc Z _=W1;obtain⟨d,x,a4⟩:=kZ F;replace u:=kx u d;replace r:=kb r d;replace q:=kb q d;replace w:=kb w d;clear F d;have M:=x.out.cell;have K:=r.out.cell
  go_upto_region 5 with(first|(refine ce rfl 109 _ rfl _ rfl _ (dh r) ?_)|(go_at_call 145;refine(X.out _).mono ?_;rintro e I ⟨rfl,d⟩;clear X M K;replace u:=kx u d;replace r:=kb r d;replace q:=kb q d;replace w:=kb w d;replace x:=kb x d;have M:=x.out.cell;have K:=r.out.cell;clear d))
  have bm:=kG g
  go_upto_region 9 with fail
  go_upto_region 10 with(first|(refine ce rfl 109 _ rfl _ rfl _ (dh r) ?_)|(refine wpList_store_row rfl 109 _ _ rfl _ _ rfl rfl _ _ (aq _ _ _) Qb rfl (fN _) ?_))
  generalize F:World.setRow (World.alloc I _) _ _=W3;obtain⟨ah,a3,A,R⟩:=qJ F (aq I _ _);have a5:a.heap.size+1+1<I.heap.size:=w.out.lt;replace r:=A _ _ _ Qa (kb r (aa I _));replace q:=A _ _ _ Qa (kb q (aa I _));replace w:=A _ _ _ Qa (kb w (aa I _));replace x:=A _ _ _ (by have:=x.out.lt;omega) (kb x (aa I _));replace u:=R _ (kx u (aa I _)) Qa;clear F A R K M;have M:=x.out.cell;have K:=r.out.cell;have fr:=r.out.frozen
  go_upto_region 12 with fail
  generalize F:World.setCell W3 _ _=W4;obtain⟨a2,av,A,R⟩:=t6 F;replace r:=av _ _ r;replace q:=A _ _ _ Qa q;replace w:=A _ _ _ Qa w;replace x:=A _ _ _ Qa x;replace ah:=A _ _ _ Qa ah;replace u:=R _ u Qa;rw[nq]at r;clear F A av R K M fr;have M:=x.out.cell;have K:=r.out.cell;have fr:=r.out.frozen;have aY:=ah.out.cell;have aW:=js ⟨g.r,g.pc+4⟩ o ha;have bl:=js g z aT;simp only at aW
 all_goals
  have a6:a.heap.size+1+1<W4.heap.size:=w.out.lt
 focus (go_upto_region 26 with fail;refine cu (UB (a.heap.size+1) (a.heap.size+1+1)) (UB.refl _ _) (UB.trans _ _) 6 1 [] [1,2,3,4,5] mixed Qb Qb Qb Qf trivial ?_)
 rotate_left
 focus (go_upto_region 28 with fail;refine cu (UB (a.heap.size+1) (a.heap.size+1+1)) (UB.refl _ _) (UB.trans _ _) 7 1 [] [1,2,3,4,5,6] mixed Qb Qb Qb Qf trivial ?_)
 rotate_left;all_goals
  clear M K fr aY;refine sx ?_ (λZ ac=> ?_) ?_;rotate_left;(focus rw[nI 109 (.tmp 3) rfl a.heap.size rfl _ (dh (IL r (Mv.un ac.1) Qa))]);simp only[bA,bx,bw,br,bo];repeat (refine sx ?_ (λZ ac=> ?_) ?_;rotate_left;(focus have K:=(IL r (Mv.un ac.1) Qa).out.cell;clear ac;go_simp<;>with_reducible rfl);simp only[bA,bx,bw,br,bo])
  intro ai V aQ;clear aQ;simp only[ae,aw];obtain⟨aZ,ad,ak⟩:=V.2.1 _ _ (lV q.out);obtain⟨aX,aE,sz⟩:=V.2.2 _ _ (lV w.out);have aA:=G (show au a ai from((cQ u.out).trans (Mv.un V.1)).ext λj bh e=>by omega);have aG:=V;clear V;refine aO Qf Qe (λaH J=> ?_);refine wp_store_row 109 _ _ rfl _ _ rfl rfl _ _ ad Qb (by rw[ak];rfl) (fN _) ?_;have af:=UB.row aG (.inl rfl) Qa (G ad) (show aZ.size=(Rg.cs ⟨g.r,g.pc+4⟩).size by rw[ak];rfl);refine J _ _ af ?_;clear J;refine aO Qf Qe (λaH J=> ?_);go_simp;refine J _ _ af ?_;clear J;obtain⟨aL,_,ap,an⟩:=qJ (w:=ai) (g:=a.heap.size+1) (c1:=(Rg.cs ⟨g.r,g.pc+4⟩)) rfl (G ad);have ag:=ap _ _ _ (show a.heap.size+1+1≠a.heap.size+1 by omega) (G aE);have aV:=an _ aA Qa;clear ap an aA ad aE aG;generalize World.setRow ai _ _=aj at*;refine aO Qf Qe (λaH J=> ?_);refine wp_store_row 181 _ _ rfl _ _ rfl rfl _ _ ag.out Qb (by rw[sz]) Ql ?_;have aF:=UB.row af (.inr rfl) Qa ag (show aX.size=(#[.int .i64 0, .int .i64 0, .int .i64 0, .int .i64 0, .int .i64 0, .int .i64 0, .int .i64 0]:Array Value).size by rw[sz]);refine J _ _ aF ?_;clear J;obtain⟨aJ,_,ao,am⟩:=qJ (w:=aj) (g:=a.heap.size+1+1) (c1:= #[.int .i64 0, .int .i64 0, .int .i64 0, .int .i64 0, .int .i64 0, .int .i64 0, .int .i64 0]) rfl ag;have aK:=ao _ _ _ (show a.heap.size+1≠a.heap.size+1+1 by omega) aL;have aU:=am _ aV Qa;clear ao am af aF;generalize World.setRow aj _ _=a1 at*;refine cL ?_;go_wp2_with fail;have aR:=dh aK;have aN:=jP aJ;refine bodyPost_ret (v:= .tuple #[.agg (Rg.mk g.r (g.pc+4)).cs, .int .i64 _, .agg #[.int .i64 0, .int .i64 0, .int .i64 0, .int .i64 0, .int .i64 0, .int .i64 0, .int .i64 0]]) ?_ rfl ⟨rfl,aU.out⟩;simp[results,results92,asAddr,aR,aN]<;>(simp[IntKind.wrap,IntKind.signed,IntKind.bits];omega)
end Go.Proofs.YtoedmpgicdekmaaGreatDoor
