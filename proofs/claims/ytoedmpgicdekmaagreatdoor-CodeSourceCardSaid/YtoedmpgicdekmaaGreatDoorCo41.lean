/- Parts of the proof. -/
import Derived.Deep.MidRow
import Derived.Test.YtoedmpgicdekmaaGreatDoorCo40
set_option maxRecDepth 100000
set_option maxHeartbeats 8000000
set_option linter.all false
namespace Go.Proofs.YtoedmpgicdekmaaGreatDoor
open Value renaming int->Za,slice->Zb,agg->Zd,tuple->Zg
open IntKind(i64)
open Go.Proofs.Tryz
section
open Go.RowKit
def Rg.rs (g:Rg):Array Value:= #[Za .i32 (g.r 0),Za .i32 (g.r 1),Za .i32 (g.r 2),Za .i32 (g.r 3),Za .i32 (g.r 4),Za .i32 (g.r 5),Za .i32 (g.r 6),Za .i32 (g.r 7),Za .i32 (g.r 8),Za .i32 (g.r 9),Za .i32 (g.r 10),Za .i32 (g.r 11),Za .i32 (g.r 12),Za .i32 (g.r 13),Za .i32 (g.r 14),Za .i32 (g.r 15)]
theorem EB {a:World} {g:Rg} {b:Nat} (h:Hid (aO a b 109 g.cs)):(loadVar 107 ⟨b,0,none⟩).run prog a=.ok (Zd g.rs) a:=
 run_loadVar_mid a b 0 107 g.rs.toList _ (λj v d=>by
  rw[aE,h.out.cell,<-d];have o:j<16:=(List.getElem?_eq_some_iff.1 d).1
  iterate 16 (rcases j with _|j;exact rfl)
  omega) underlying107 rfl Qb
theorem Gs (g:Rg):g.rs.all (·.oneCell')=true:=by simp[Rg.rs,Value.oneCell']
theorem Ie (g:Rg):g.rs[1]? =some (Za .i32 (g.r 1))/\g.rs[2]? =some (Za .i32 (g.r 2))/\g.rs[3]? =some (Za .i32 (g.r 3))/\g.rs[4]? =some (Za .i32 (g.r 4))/\g.rs[5]? =some (Za .i32 (g.r 5))/\g.rs[6]? =some (Za .i32 (g.r 6)):=⟨rfl,rfl,rfl,rfl,rfl,rfl⟩
theorem EO (g:Rg) (b aj c:Nat) (b0 b1 b2 b3:UInt8) (F A:Nat) (R z:Int) (ld:Int) (a:World) (aI:FT a) (aJ:wa a b aj b0 b1 b2 b3) (aG:4<=c) (aF:c<=maxLen) (aE:fW b0 b1 b2 b3=some ⟨22,F,A,R,z⟩)
  (ha:F<16) (a1:A<16) (a4: ∀i,-2147483648<=g.r i/\g.r i<=2147483647) (aX:0<=g.pc/\g.pc<=1000000) (aC: -2147483648<=g.r A/\g.r A<=2147483647) (ax: -200<=R/\R<=300) (aV: -32768<=z/\z<=32767):
  Calls prog 92 #[Zd g.cs,Zb (some ⟨b,aj,none⟩) 4 c,Za i64 ld] a λe w'=>e=.returned (Zg #[Zd (Rg.cs ⟨g.r,g.pc+4⟩),Za i64 0,Zd #[Za i64 1,Za i64 (g.r 1),Za i64 (g.r 2),Za i64 (g.r 3),Za i64 (g.r 4),Za i64 (g.r 5),Za i64 (g.r 6)]])/\au a w':=by
 have aR:=G (λW (aK:au a W)=>show Calls prog 86 #[Zb (some ⟨b,aj,none⟩) 4 c] W λe w'=>e=.returned (Zg #[Zd #[Za i64 (22:Nat),Za i64 F,Za i64 A,Za i64 R,Za i64 z],Za i64 0])/\au W w' from by
  have:=fy b aj c b0 b1 b2 b3 W (aI.ext aK) (aJ.ext aK) aG aF;rw[aE]at this
  exact this)
 have ag:=G (λW=>show Calls prog 145 #[Zd g.cs,Zd #[Za i64 (22:Nat),Za i64 F,Za i64 A,Za i64 R,Za i64 z]] W λe w'=>e=.returned (Zg #[Za i64 (bT g ⟨22,F,A,R,z⟩).1,Za i64 (bT g ⟨22,F,A,R,z⟩).2])/\au W w' from
  ij g ⟨22,F,A,R,z⟩ W (by simpa using aC) Qi ax)
 obtain⟨bq,bp⟩:=aX;obtain⟨bl,bk⟩:=aV;have bm:IntKind.i64.wrap (g.pc+4)=g.pc+4:=Qc
 have bn:IntKind.i64.wrap (4*z)=4*z:=Qc
 have bo:IntKind.i64.wrap (g.pc+4+4*z)=g.pc+4+4*z:=Qc
 clear aI aJ aE aG aF aC ax;unfold bT at ag;simp only[bY]at ag;have bu:(F:Int)<16:=J
 have bt:(A:Int)<16:=J
 simp at ag;go_enter func92,ntmps92
 go_upto_region 1 with fail
 generalize y:World.alloc (World.alloc (World.alloc a _) _) _=W0;obtain⟨w,r,q,o,s⟩:=F8 y;replace w:=G w;clear y
 go_upto_region 2 with(go_at_call 86;refine(aR.out _ w.out).mono ?_;rintro e ai ⟨rfl,d⟩;have bi:a.heap.size+1+1<ai.heap.size:=(by have:=s.out;have:=dr d;omega);clear aR;replace w:=kx w d;replace r:=kb r d;replace q:=kb q d;replace o:=kb o d)
 generalize y:World.alloc ai _=W1;obtain⟨d,x,be⟩:=lC y;replace w:=kx w d;replace r:=kb r d;replace q:=kb q d;replace o:=kb o d;clear y d;have H:=x.out.cell;have ad:=r.out.cell
 go_upto_region 5 with(first|(refine ci rfl 109 _ rfl _ rfl _ (dm r) ?_)|(go_at_call 145;refine(ag.out _).mono ?_;rintro e V ⟨rfl,d⟩;clear ag H ad;replace w:=kx w d;replace r:=kb r d;replace q:=kb q d;replace o:=kb o d;replace x:=kb x d;have H:=x.out.cell;have ad:=r.out.cell;clear d))
 have a6:=kX g
 go_upto_region 9 with fail
 go_upto_region 10 with(first|(refine ci rfl 109 _ rfl _ rfl _ (dm r) ?_)|(refine wpList_store_row rfl 109 _ _ rfl _ _ rfl rfl _ _ (aq _ _ _) Qb rfl (f8 _) ?_))
 generalize y:World.setRow (World.alloc V _) _ _=W3;obtain⟨ah,bd,u,X⟩:=ro y (aq V _ _);have bh:a.heap.size+1+1<V.heap.size:=o.out.lt;replace r:=u _ _ _ J (kb r (aa V _));replace q:=u _ _ _ J (kb q (aa V _));replace o:=u _ _ _ J (kb o (aa V _));replace x:=u _ _ _ (by have:=x.out.lt;omega) (kb x (aa V _));replace w:=X _ (kx w (aa V _)) J;clear y u X ad H;have H:=x.out.cell;have ad:=r.out.cell;have fr:=r.out.frozen
 go_upto_region 12 with fail
 generalize y:World.setCell W3 _ _=W4;obtain⟨bc,aD,u,X⟩:=uC y;replace r:=aD _ _ r;replace q:=u _ _ _ J q;replace o:=u _ _ _ J o;replace x:=u _ _ _ J x;replace ah:=u _ _ _ J ah;replace w:=X _ w J;rw[oa]at r;clear y u aD X ad H fr;have H:=x.out.cell;have ad:=r.out.cell;have fr:=r.out.frozen;have a8:=ah.out.cell;have aL:=jL ⟨g.r,g.pc+4⟩ F ha;have a5:=jL g A a1;simp only at aL;have aM:=kX ⟨g.r,g.pc+4⟩;simp only at aM
 go_upto_region 41 with(first|(refine ci rfl 107 _ rfl _ rfl _ (EB r) ?_)|(refine wpList_store_row rfl 107 _ _ rfl _ _ rfl rfl _ _ (aq _ _ _) Qb rfl (Gs _) ?_))
 generalize y:World.setRow (World.alloc W4 _) _ _=W5;have bg:a.heap.size+1+1<W4.heap.size:=o.out.lt;obtain⟨ap,bb,u,X⟩:=ro y (aq W4 _ _);replace r:=u _ _ _ J (kb r (aa W4 _));replace q:=u _ _ _ J (kb q (aa W4 _));replace o:=u _ _ _ J (kb o (aa W4 _));replace w:=X _ (kx w (aa W4 _)) J;clear y u X H ad fr a8 x ah aL a5 a6 aM;obtain⟨bH,bG,bF,bz,bx,bw⟩:=Ie ⟨g.r,g.pc+4⟩;have bj: ∀i,IntKind.i64.wrap (g.r i)=g.r i:=λi=>by have:=a4 i;simp[IntKind.wrap,IntKind.signed,IntKind.bits];omega
 have bf:a.heap.size+1+1<W5.heap.size:=o.out.lt;refine cC (UB (a.heap.size+1) (a.heap.size+1+1)) (UB.refl _ _) (UB.trans _ _) 21 1 [] [1,2,3,4,5,6,7,8,9,10,11,12,13,14,15,16,17,18,19,20] mixed Qb Qb Qb Qf trivial ?_;refine sx ?_ (λai Z=> ?_) ?_;rotate_left;(focus rw[oE 109 (.tmp 3) rfl a.heap.size rfl _ (dm (IZ r (Mv.un Z.1) J))]);simp only[bE,bD,bC,bB,bA];repeat (refine sx ?_ (λai Z=> ?_) ?_;rotate_left;(focus have bv:=(IZ ap (Mv.un Z.1) J).out.cell;clear Z;go_simp<;>with_reducible rfl);simp only[bE,bD,bC,bB,bA])
 intro ao af aY;clear aY;simp only[ae,aw];obtain⟨a9,al,av⟩:=af.2.1 _ _ (mq q.out);obtain⟨a7,aO,sz⟩:=af.2.2 _ _ (mq o.out);have aH:=G (show au a ao from((cT w.out).trans (Mv.un af.1)).ext λj br e=>by omega);have aQ:=af;clear af ap r;refine aN Qf Qe (λK I=> ?_);refine wp_store_row 109 _ _ rfl _ _ rfl rfl _ _ al Qb (by rw[av];rfl) (f8 _) ?_;have am:=UB.row aQ (.inl rfl) J (G al) (show a9.size=(Rg.cs ⟨g.r,g.pc+4⟩).size by rw[av];rfl);refine I _ _ am ?_;clear I;refine aN Qf Qe (λK I=> ?_);go_simp;refine I _ _ am ?_;clear I;obtain⟨aU,_,aB,az⟩:=ro (w:=ao) (g:=a.heap.size+1) (c1:=(Rg.cs ⟨g.r,g.pc+4⟩)) rfl (G al);have an:=aB _ _ _ (show a.heap.size+1+1≠a.heap.size+1 by omega) (G aO);have a3:=az _ aH J;clear aB az aH al aO aQ;generalize World.setRow ao _ _=ar at*;refine aN Qf Qe (λK I=> ?_);refine wp_store_row 181 _ _ rfl _ _ rfl rfl _ _ an.out Qb (by rw[sz];rfl) Qk ?_;have aP:=UB.row am (.inr rfl) J an (show a7.size=(#[Za i64 1,Za i64 (g.r 1),Za i64 (g.r 2),Za i64 (g.r 3),Za i64 (g.r 4),Za i64 (g.r 5),Za i64 (g.r 6)]:Array Value).size by rw[sz];rfl);refine I _ _ aP ?_;clear I;obtain⟨aS,_,aA,ay⟩:=ro (w:=ar) (g:=a.heap.size+1+1) (c1:= #[Za i64 1,Za i64 (g.r 1),Za i64 (g.r 2),Za i64 (g.r 3),Za i64 (g.r 4),Za i64 (g.r 5),Za i64 (g.r 6)]) rfl an;have aT:=aA _ _ _ (show a.heap.size+1≠a.heap.size+1+1 by omega) aU;have a2:=ay _ a3 J;clear aA ay am aP;generalize World.setRow ar _ _=ba at*;refine cQ ?_;go_wp2_with fail;have aZ:=dm aT;have aW:=j' aS;refine bodyPost_ret (v:=Zg #[Zd (Rg.mk g.r (g.pc+4)).cs,Za i64 0,Zd #[Za i64 1,Za i64 (g.r 1),Za i64 (g.r 2),Za i64 (g.r 3),Za i64 (g.r 4),Za i64 (g.r 5),Za i64 (g.r 6)]]) ?_ rfl ⟨rfl,a2.out⟩;simp[results,results92,asAddr,aZ,aW]
structure xN where
 kind:Int
 num:Int
 a0:Int
 a1:Int
 a2:Int
 addr:Int
 len:Int
def xN.val (t:xN):Value:=Zd #[Za i64 t.kind,Za i64 t.num,Za i64 t.a0,Za i64 t.a1,Za i64 t.a2,Za i64 t.addr,Za i64 t.len]
def AF:xN:=⟨0,0,0,0,0,0,0⟩
def Gh (n:Int):xN:=⟨2,n,0,0,0,0,0⟩
def po (g:Rg) (ld:Int):Option dq->Rg×Int×xN
 |none=>(g,0,Gh 1)
 |some x=>
  if 0<(bT g x).2/\(bT g x).1.tmod (bT g x).2≠0 then(g,0,Gh 3)
  else if(x.op=7\/x.op=8)/\g.r x.c.toNat=0 then(g,0,Gh 2)
  else if x.op=1\/x.op=2\/x.op=3\/x.op=14\/x.op=16 then(Rg.upd ⟨g.r,g.pc+4⟩ x.a.toNat (IS g x.op x.a.toNat x.b.toNat x.c x.v ld),0,AF)
  else if x.op=15 then(⟨g.r,g.pc+4⟩,g.r x.a.toNat,AF)
  else if x.op=17 then(⟨g.r,g.pc+4⟩,g.r x.a.toNat%256,AF)
  else if x.op=18\/x.op=19\/x.op=20\/x.op=21 then(Io g x.a.toNat x.v x.op,0,AF)
  else if x.op=22 then(⟨g.r,g.pc+4⟩,0,⟨1,g.r 1,g.r 2,g.r 3,g.r 4,g.r 5,g.r 6⟩)
  else(Rg.upd ⟨g.r,g.pc+4⟩ x.a.toNat (mi x.op (g.r x.b.toNat) (g.r x.c.toNat)),0,AF)
def xM (g:Rg):Option dq->Option (Int×Int×Bool)
 |none=>none
 |some x=>if(bT g x).2=0\/(bT g x).1.tmod (bT g x).2≠0 then none else some ((bT g x).1,(bT g x).2,decide (x.op=15\/x.op=17))
abbrev lO:=Nat->UInt8
def gU (sz:Nat) (a:Int):Nat->Bool
 |0=>true
 |k+1=>gU sz a k&&(decide (0<=a)&&(decide (a+k<4096)&&(decide (a+k<sz)||decide (3072<=a+k))))
def Az (M:lO) (a:Nat):Int:=wm ((M a).toNat+256*(M (a+1)).toNat+65536*(M (a+2)).toNat+16777216*(M (a+3)).toNat)
def lH (M:lO) (a:Nat) (l:List UInt8):lO:=λi=>if a<=i/\i<a+l.length then l.getD (i-a) 0 else M i
def yA (n:Int):UInt8:=UInt8.ofNat (n%256).toNat
def lR (n:Int):List UInt8:=[yA n,yA (n/256),yA (n/65536),yA (n/16777216)]
def tX (M:lO) (a n:Nat):List UInt8:=(List.range n).map λi=>M (a+i)
structure Ru where
 m:lO
 g:Rg
 used:Nat
def Ru.fails (s:Ru):Oc:=⟨2,0,0,0,0,[],s.used⟩
def ti (n:Int):Bool:=n==2||(n==7||(n==10||(n==13||(n==14||n==15))))
def Rg.reply (g:Rg) (v:Int):Rg:=⟨λj=>if j=1 then wm v else g.r j,g.pc⟩
def u_ (t:xN):Int:=if t.num=9 then t.a1 else if t.num=15 then t.a0 else 0
def FF (sz:Nat) (R:Rs) (t:xN) (s:Ru):Except Oc Ru:=
 if t.num<0\/20<=t.num then .error s.fails
 else if ti t.num=true/\(t.len<0\/128<t.len\/gU sz t.addr t.len.toNat=false)then .error s.fails
 else match R[s.used]? with
  |none=> .error ⟨1,t.num,t.a0,t.a1,t.a2,if ti t.num=true then tX s.m t.addr.toNat t.len.toNat else[],s.used⟩
  |some r=>
   let bk:=r.2.take (u_ t).toNat
   if gU sz t.addr bk.length=false then .error ⟨2,0,0,0,0,[],s.used+1⟩
   else .ok ⟨lH s.m t.addr.toNat bk,s.g.reply r.1,s.used+1⟩
def sr (s:Ru):Option dq:=fW (s.m s.g.pc.toNat) (s.m (s.g.pc.toNat+1)) (s.m (s.g.pc.toNat+2)) (s.m (s.g.pc.toNat+3))
def Cs (sz:Nat) (R:Rs) (s:Ru) (x:Rg×Int×xN) (M:lO):Except Oc Ru:=
 if x.2.2.kind=2 then .error s.fails else if x.2.2.kind=1 then FF sz R x.2.2 ⟨M,x.1,s.used⟩else .ok ⟨M,x.1,s.used⟩
def qu (sz:Nat) (R:Rs) (s:Ru):Except Oc Ru:=
 if s.g.pc.tmod 4≠0\/gU sz s.g.pc 4=false then .error s.fails
 else match xM s.g (sr s)with
  |none=>Cs sz R s (po s.g 0 (sr s)) s.m
  |some (a,n,wr)=>
   if gU sz a n.toNat=false then .error s.fails
   else
    let x:=po s.g (if n=4 then Az s.m a.toNat else(s.m a.toNat).toNat) (sr s)
    Cs sz R s x (if wr=true then lH s.m a.toNat ((lR x.2.1).take n.toNat)else s.m)
def uu (sz:Nat) (R:Rs):Nat->Ru->Oc
 |0,s=>⟨3,0,0,0,0,[],s.used⟩
 |n+1,s=>match qu sz R s with
  | .error o=>o
  | .ok s'=>uu sz R n s'
def B7 (code data:List UInt8) (at_:Nat):lO:=λi=>if i<code.length then code.getD i 0 else if at_<=i/\i<at_+data.length then data.getD (i-at_) 0 else 0
def ul (entry:Int):Rg:=⟨λj=>if j=15 then 4096 else 0,entry⟩
def oR (g:Rg):Prop:= ∀i,-2147483648<=g.r i/\g.r i<=2147483647
theorem qd {n:Int} {d:Bool} (a:jM n d=true):0<=n/\n<16:=by
 unfold jM at a;simp at a;omega
structure IK (x:dq):Prop where
 op1:1<=x.op
 op2:x.op<=22
 a:0<=x.a/\x.a<16
 b:0<=x.b/\x.b<16
 c: -128<=x.c/\x.c<=127
 v: -32768<=x.v/\x.v<=32767
 r:4<=x.op->x.op<=13->0<=x.c/\x.c<16/\x.v=0
theorem EA {x:dq} (h:ft x=true):IK x:=by
 unfold ft at h;simp only[am,decide_eq_true_eq]at h;obtain⟨⟨G,F⟩,⟨⟨A,z⟩,a⟩,d⟩:=h;have u: -32768<=x.v/\x.v<=32767:=by unfold Hh at d;simp at d;omega
 refine⟨G,F,qd A,qd z,?_,u,λy w=> ?_⟩
 ·unfold Hl at a;split at a
  ·simp at a;omega
  ·have:=qd a;omega
 ·have o:(jh x.op).2.2.2.2.2=false/\(jh x.op).2.2.2.2.1=false:=by
   obtain⟨k,R,b,c,v⟩:=x;simp only at y w⊢;rcases(show k=4\/k=5\/k=6\/k=7\/k=8\/k=9\/k=10\/k=11\/k=12\/k=13 by omega)with rfl|rfl|rfl|rfl|rfl|rfl|rfl|rfl|rfl|rfl<;>exact⟨rfl,rfl⟩
  unfold Hl at a;unfold Hh at d;rw[o.1]at a;rw[o.2]at d;have:=qd (by simpa using a);simp at d;exact⟨this.1,this.2,d⟩
theorem qZ {b0 b1 b2 b3:UInt8} {x:dq} (a:fW b0 b1 b2 b3=some x):IK x:=by
 unfold fW at a;split at a
 ·rename_i d;injection a with a;subst a;exact EA d.2.2
 ·cases a
theorem Co (g:Rg) (b d c:Nat) (b0 b1 b2 b3:UInt8) (ld:Int) (a:World) (F:FT a) (h:wa a b d b0 b1 b2 b3) (A:4<=c) (z:c<=maxLen) (af:oR g) (X:0<=g.pc/\g.pc<=1000000):
  Calls prog 92 #[Zd g.cs,Zb (some ⟨b,d,none⟩) 4 c,Za i64 ld] a λe w'=>e=.returned (Zg #[Zd (po g ld (fW b0 b1 b2 b3)).1.cs,Za i64 (po g ld (fW b0 b1 b2 b3)).2.1,(po g ld (fW b0 b1 b2 b3)).2.2.val])/\au a w':=by
 cases hd:fW b0 b1 b2 b3 with
 |none=>exact EP g b d c b0 b1 b2 b3 ld a F h A z hd
 |some x=>
  have aa:=qZ hd;have R:=af x.b.toNat;unfold po;simp only;by_cases h1:0<(bT g x).2/\(bT g x).1.tmod (bT g x).2≠0
  ·rw[if_pos h1];have al:(bT g x).2=1\/(bT g x).2=4:=by
    have y:=h1.1;unfold bT at y⊢;split
    ·exact .inr rfl
    ·rename_i ae;rw[if_neg ae]at y;split
     ·exact .inl rfl
     ·rename_i h;rw[if_neg h]at y;simp at y
   have am: -5000000000<=(bT g x).1/\(bT g x).1<=5000000000:=by
    have:=aa.c;unfold bT;split<;>(try split)<;>simp only<;>omega
   exact EQ g b d c b0 b1 b2 b3 x _ _ ld a F h A z hd aa.b.2 aa.b.1 R (by have:=aa.c;omega) rfl al am h1.2
  rw[if_neg h1];obtain⟨k,ap,ao,o,I⟩:=x;have av:=G aa;obtain⟨ax,aw,⟨a0,ay⟩,⟨Z,aq⟩,ar,ad,ai⟩:=aa;simp only at*;obtain⟨w,rfl⟩:=a_ a0;obtain⟨u,rfl⟩:=a_ Z;simp only[bY]at*;have ha:w<16:=J
  have V:u<16:=J
  have H: -200<=o/\o<=300:=J
  by_cases y:(k=7\/k=8)/\g.r o.toNat=0
  ·rw[if_pos y];obtain⟨ah,aj,rfl⟩:=ai J J;obtain⟨ag,rfl⟩:=a_ ah;exact ES g b d c b0 b1 b2 b3 k w u ag ld a F h A z hd y.1 ha V J R (by simpa using y.2)
  rw[if_neg y];by_cases ae:k=1\/k=2\/k=3\/k=14\/k=16
  ·rw[if_pos ae];refine EM g b d c b0 b1 b2 b3 k w u o I ld a F h A z hd ae ha V X R H ad λe=> ?_;subst e;by_cases h5:(g.r u+o).tmod 4=0
   ·exact h5
   ·exact absurd ⟨by simp[bT],by simpa[bT]using h5⟩ h1
  rw[if_neg ae];by_cases h4':k=15
  ·subst h4';rw[if_pos rfl]
   have:=ym g b d c b0 b1 b2 b3 15 w u o I ld a F h A z hd (.inl rfl) ha V X R H ad (λ_=>by
    by_cases h5:(g.r u+o).tmod 4=0
    ·exact h5
    ·exact absurd ⟨by simp[bT],by simpa[bT]using h5⟩ h1) (af w)
   rwa [if_pos rfl]at this
  rw[if_neg h4'];by_cases h5:k=17
  ·subst h5;rw[if_pos rfl];have:=ym g b d c b0 b1 b2 b3 17 w u o I ld a F h A z hd (.inr rfl) ha V X R H ad (λe=>by cases e) (af w);rwa [if_neg Qd]at this
  rw[if_neg h5];by_cases h6:k=18\/k=19\/k=20\/k=21
  ·rw[if_pos h6];exact ER g b d c b0 b1 b2 b3 k w u o I ld a F h A z hd h6 ha V X R H ad
  rw[if_neg h6];by_cases h7:k=22
  ·subst h7;rw[if_pos rfl];exact EO g b d c b0 b1 b2 b3 w u o I ld a F h A z hd ha V af X R H ad
  rw[if_neg h7];obtain⟨ah,aj,rfl⟩:=ai J J;obtain⟨ag,rfl⟩:=a_ ah;exact ET g b d c b0 b1 b2 b3 k w u ag ld a F h A z hd J ha V J X R λe an=>y ⟨e,by simpa using an⟩
theorem ic (n:Int): -2147483648<=wrap32 n/\wrap32 n<=2147483647:=by
 unfold wrap32;omega
theorem tP (n:Int): -2147483648<=IntKind.i32.wrap n/\IntKind.i32.wrap n<=2147483647:=by
 simp[IntKind.wrap,IntKind.signed,IntKind.bits];omega
theorem Aj {k:Nat} {b c:Int} (u: -2147483648<=b/\b<=2147483647) (o: -2147483648<=c/\c<=2147483647): -2147483648<=mi k b c/\mi k b c<=2147483647:=by
 unfold mi;split
 ·exact ic _
 ·exact ic _
 ·exact ic _
 ·exact ic _
 ·have h:=Int.natAbs_tmod b c;have w:(b.tmod c).natAbs<=b.natAbs:=by rw[h];exact Nat.mod_le _ _
  rcases Int.le_total 0 b with d|d
  ·have:=Int.tmod_nonneg c d;omega
  ·have:=Int.tmod_nonneg c (a:= -b) J;rw[Int.neg_tmod]at this;omega
 ·exact tP _
 ·exact tP _
 ·exact tP _
 ·split<;>omega
 ·split<;>omega
theorem oR.upd {g:Rg} (d:oR g) (i:Nat) (p v:Int) (a: -2147483648<=v/\v<=2147483647):oR (Rg.upd ⟨g.r,p⟩ i v):=λj=>by
 unfold Rg.upd;simp only;split
 ·exact a
 ·exact d j
theorem Cr {g:Rg} {b0 b1 b2 b3:UInt8} {ld:Int} (a:oR g) (o:0<=g.pc/\g.pc<=1000000):oR (po g ld (fW b0 b1 b2 b3)).1/\ -2147483648<=(po g ld (fW b0 b1 b2 b3)).2.1/\(po g ld (fW b0 b1 b2 b3)).2.1<=2147483647:=by
 cases hd:fW b0 b1 b2 b3 with
 |none=>exact⟨a,by simp[po],by simp[po]⟩
 |some x=>
  have d:=qZ hd;have h:=d.v;unfold po;simp only;split
  ·exact⟨a,by simp⟩
  split
  ·exact⟨a,by simp⟩
  split
  ·rename_i u;refine⟨a.upd _ _ _ ?_,by simp⟩;unfold IS;split
   ·omega
   split
   ·exact ic _
   split
   ·exact ic _
   split
   ·exact ic _
   ·omega
  split
  ·exact⟨a,a _⟩
  split
  ·refine⟨a,?_⟩;simp only;omega
  split
  ·refine⟨?_,by simp⟩;unfold Io;split
   ·exact a
   ·exact a
   ·exact a.upd _ _ _ J
   ·exact a
  split
  ·exact⟨a,by simp⟩
  ·exact⟨a.upd _ _ _ (Aj (a _) (a _)),by simp⟩
theorem nY {t:TypeId} {g:Nat}: ∀(u:List Value) (a:Nat) (d:World) (o:List Value),aO d g t o.toArray->a+u.length<=o.length->
  aO (d.setCells g a u) g t (splice o a u).toArray/\Mv (· =g) d (d.setCells g a u)/\(d.setCells g a u).heap.size=d.heap.size
 | [],a,d,o,h,hl=>by
  refine⟨?_,gG _ _,rfl⟩;simpa[splice,World.setCells]using h
 |v::r,a,d,o,h,hl=>by
  have G:aO (d.setCell ⟨g,a,none⟩ v) g t (o.set a v).toArray:=by
   have:=h.set a v;simpa using this
  obtain⟨F,A,z⟩:=nY r (a+1) (d.setCell ⟨g,a,none⟩ v) (o.set a v) G (by simp at hl⊢;omega);rw[World.setCells];have w:Mv (λx=>x=g) d (d.setCell ⟨g,a,none⟩ v):=Mv.set (S:=λx=>x=g) (gG _ _) (p:=⟨g,a,none⟩) (λ_=>rfl) v;refine⟨?_,w.trans A,by rw[z];simp[World.setCell]⟩;have e:splice (o.set a v) (a+1) r=splice o a (v::r):=by
   simp at hl;apply ge;intro i;have w:min (a+1) o.length=a+1:=J
   have y:min a o.length=a:=J
   simp only[splice,gt,bG,ch,h_,List.length_set,ag,List.getElem?_set,List.getElem?_cons,w,y];repeat' split
   all_goals first|(exfalso;omega)|rfl|(congr 1;omega)
  rw[<-e];exact F
def lK (M:lO):List Value:=(List.range 4096).map λi=>rz (M i)
theorem cA (M:lO):(lK M).length=4096:=by simp[lK]
theorem mD (M:lO) (i:Nat) (a:i<4096):(lK M)[i]? =some (rz (M i)):=by
 unfold lK;rw[dC,List.getElem?_range a];rfl
theorem B9 (M:lO) (T:List Value) (a:Nat) (l:List UInt8) (h:a+l.length<=4096):splice (lK M++T) a (iM l)=lK (lH M a l)++T:=by
 apply ge;intro i;have d:=jT l;rw[splice,gt,bG,H,cA,ch];rw[show min a (4096+T.length)=a by omega];rcases fg i a with hi|hi
 ·rw[if_pos hi,if_pos hi,br (by rw[cA];omega),br (by rw[cA];omega),mD _ _ J,mD _ _ J];unfold lH;rw[if_neg J]
 rw[if_neg J,gt,d];by_cases h2:i-a<l.length
 ·rw[if_pos h2,br (by rw[cA];omega),mD _ _ J];unfold lH;rw[if_pos J];unfold iM;rw[dC,aH h2,bN,aH h2];rfl
 ·rw[if_neg h2,h_,show a+l.length+(i-a-l.length)=i by omega];by_cases h3:i<4096
  ·rw[br (by rw[cA];omega),br (by rw[cA];omega),mD _ _ h3,mD _ _ h3];unfold lH;rw[if_neg J]
  ·rw[bH (by rw[cA];omega),bH (by rw[cA];omega),cA,cA]
def oZ (sz:Int) (g:Rg) (rv:Value) (ol:List Value):List Value:=Za i64 sz::(g.cs.toList++(rv::ol))
theorem DQ (M:lO) (Y:List Value) (j:Nat):(lK M++Y)[4096+j]? =Y[j]? :=by rw[bH (by rw[cA];exact Nat.le_add_right _ _),cA,Nat.add_sub_cancel_left]
def RB (w:World) (b:Nat) (M:lO) (sz:Int) (g:Rg) (rv:Value) (ol:List Value):Prop:=aO w b 113 (lK M++oZ sz g rv ol).toArray
section
variable {w w':World} {b:Nat} {M:lO} {sz:Int} {g:Rg} {rv:Value} {ol:List Value}
theorem RB.ext (d:RB w b M sz g rv ol) (a:au w w'):RB w' b M sz g rv ol:=aO.ext d a
theorem RB.mem (a:RB w b M sz g rv ol) (i:Nat) (hi:i<4096):w.cell? ⟨b,i,none⟩=some (Za .u8 ((M i).toNat:Int)):=by
 rw[aO.cell a,eT,br (by rw[cA];omega),mD _ _ hi];rfl
theorem RB.tail (a:RB w b M sz g rv ol) (j:Nat):w.cell? ⟨b,4096+j,none⟩=(oZ sz g rv ol)[j]? :=by
 rw[aO.cell a,eT,DQ]
theorem tj (sz:Int) (g:Rg) (rv:Value) (ol:List Value):(oZ sz g rv ol)[0]? =some (Za i64 sz)/\(oZ sz g rv ol)[17]? =some (Za i64 g.pc)/\(oZ sz g rv ol)[18]? =some rv/\ ∀j,(oZ sz g rv ol)[19+j]? =ol[j]? :=
 ⟨rfl,rfl,rfl,λj=>by
  have:oZ sz g rv ol=(Za i64 sz::g.cs.toList++[rv])++ol:=by simp[oZ]
  rw[this,bH (by simp[Rg.cs])]
  congr 1
  simp[Rg.cs]⟩
theorem RB.tl (a:RB w b M sz g rv ol) (n j:Nat) (e:n=4096+j):w.cell? ⟨b,n,none⟩=(oZ sz g rv ol)[j]? :=by subst e;exact a.tail j
theorem RB.size (a:RB w b M sz g rv ol):w.cell? ⟨b,4096,none⟩=some (Za i64 sz):=(a.tl _ 0 Qd).trans (tj sz g rv ol).1
theorem RB.pc (a:RB w b M sz g rv ol):w.cell? ⟨b,4113,none⟩=some (Za i64 g.pc):=(a.tl _ 17 Qd).trans (tj sz g rv ol).2.1
theorem RB.res (a:RB w b M sz g rv ol):w.cell? ⟨b,4114,none⟩=some rv:=(a.tl _ 18 Qd).trans (tj sz g rv ol).2.2.1
theorem RB.out (d:RB w b M sz g rv ol) (j:Nat):w.cell? ⟨b,4115+j,none⟩=ol[j]? :=(d.tl _ (19+j) J).trans ((tj sz g rv ol).2.2.2 j)
theorem RB.frz (a:RB w b M sz g rv ol) (i:Nat):w.frozen? ⟨b,i,none⟩=false:=aO.frozen a i
theorem RB.at4 (a:RB w b M sz g rv ol) (i:Nat) (hi:i+3<4096):wa w b i (M i) (M (i+1)) (M (i+2)) (M (i+3)):=
 ⟨ry a,a.mem _ J,a.mem _ J,a.mem _ J,a.mem _ J⟩
theorem RB.regs (h:RB w b M sz g rv ol):w.rangeAt b 4097 g.cs.toList:=λj v a=>by
 have d:j<17:=(List.getElem?_eq_some_iff.1 a).1;rw[show 4097+j=4096+(j+1) by omega,h.tail,oZ,dh,br (by simpa[Rg.cs]using d)];exact a
theorem RB.there (d:RB w b M sz g rv ol) (h:ol.length=7) (a n:Nat) (o:a+n<=4122):w.there b a n:=λj u=>by
 refine⟨?_,d.frz _⟩;rw[aO.cell d,eT,aH (by simp[cA,oZ,Rg.cs,h];omega)];rfl
theorem RB.put (d:RB w b M sz g rv ol) (a:Nat) (l:List UInt8) (ha:a+l.length<=4096):w'.heap[b]? =some (.cells (splice (lK M++oZ sz g rv ol) a (iM l)).toArray 113 (0,0))->RB w' b (lH M a l) sz g rv ol:=λe=>by
 rw[B9 _ _ _ _ ha]at e;exact e
theorem wL {h:Type} (a B C d:List h) (n:Nat) (o:n=a.length) (u:d.length=B.length):splice (a++(B++C)) n d=a++(d++C):=by
 subst o;unfold splice;rw[List.take_left,u,<-aL a B C,show a.length+B.length=(a++B).length by simp,List.drop_left]
theorem RB.setRegs (u:RB w b M sz g rv ol) (a:Rg):RB (w.setCells b 4097 a.cs.toList) b M sz a rv ol/\Mv (· =b) w (w.setCells b 4097 a.cs.toList)/\(w.setCells b 4097 a.cs.toList).heap.size=w.heap.size:=by
 obtain⟨d,o,h⟩:=nY (t:=113) a.cs.toList 4097 w _ u (by simp[cA,oZ,Rg.cs];omega);refine⟨?_,o,h⟩;have e:splice (lK M++oZ sz g rv ol) 4097 a.cs.toList=lK M++oZ sz a rv ol:=by
  have:=wL (lK M++[Za i64 sz]) g.cs.toList (rv::ol) a.cs.toList 4097 (by simp[cA]) (by simp[Rg.cs]);simpa[oZ]using this
 rw[e]at d;exact d
theorem RB.setTail (a:RB w b M sz g rv ol) (j:Nat) (v:Value):aO (w.setCell ⟨b,4096+j,none⟩ v) b 113 (lK M++(oZ sz g rv ol).set j v).toArray:=by
 have:=aO.set a (4096+j) v;rw[a8,lD _ _ (by rw[cA];omega),cA,show 4096+j-4096=j by omega]at this;exact this
theorem RB.setOut (a:RB w b M sz g rv ol) (j:Nat) (v:Value):RB (w.setCell ⟨b,4115+j,none⟩ v) b M sz g rv (ol.set j v):=by
 have:=a.setTail (19+j) v;rw[show 4096+(19+j)=4115+j by omega]at this;have e:(oZ sz g rv ol).set (19+j) v=oZ sz g rv (ol.set j v):=by
  unfold oZ;rw[show 19+j=(18+j)+1 by omega,b_,lD _ _ (by simp[Rg.cs];omega),show 18+j-g.cs.toList.length=j+1 by simp[Rg.cs];omega,b_]
 rw[e]at this;exact this
end
end
end Go.Proofs.YtoedmpgicdekmaaGreatDoor
