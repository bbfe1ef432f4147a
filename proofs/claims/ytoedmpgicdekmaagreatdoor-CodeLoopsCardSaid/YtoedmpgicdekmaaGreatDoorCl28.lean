/- Parts of the proof. -/
import Derived.Deep.MidRow
import Derived.Test.YtoedmpgicdekmaaGreatDoorCl26
import Derived.Test.YtoedmpgicdekmaaGreatDoorCl27
import Derived.Test.YtoedmpgicdekmaaGreatDoorCl00
import Derived.Test.YtoedmpgicdekmaaGreatDoorCl15
import Derived.Laws.CopyOwn
set_option maxRecDepth 100000
set_option maxHeartbeats 8000000
set_option linter.unusedVariables false
set_option linter.unusedSimpArgs false
set_option linter.unusedSectionVars false
namespace Go.Proofs.YtoedmpgicdekmaaGreatDoor
open Go.Proofs.Tryz
section
open Go.RowKit
def Rg.rs (g:Rg):Array Value:= #[.int .i32 (g.r 0), .int .i32 (g.r 1), .int .i32 (g.r 2), .int .i32 (g.r 3), .int .i32 (g.r 4), .int .i32 (g.r 5), .int .i32 (g.r 6), .int .i32 (g.r 7), .int .i32 (g.r 8), .int .i32 (g.r 9), .int .i32 (g.r 10), .int .i32 (g.r 11), .int .i32 (g.r 12), .int .i32 (g.r 13), .int .i32 (g.r 14), .int .i32 (g.r 15)]
theorem DJ {w:World} {g:Rg} {b:Nat} (d:Hid (aM w b 109 g.cs)):(loadVar 107 ⟨b,0,none⟩).run prog w= .ok (.agg g.rs) w:=
 run_loadVar_mid w b 0 107 g.rs.toList _ (λj v a=>by
  rw[aE,d.out.cell,<-a];have h:j<16:=(List.getElem?_eq_some_iff.1 a).1
  iterate 16 (rcases j with _|j;exact rfl)
  omega) underlying107 rfl Qb
theorem FI (g:Rg):g.rs.all (·.oneCell')=true:=by simp[Rg.rs,Value.oneCell']
theorem Hu (g:Rg):g.rs[1]? =some (.int .i32 (g.r 1))/\g.rs[2]? =some (.int .i32 (g.r 2))/\g.rs[3]? =some (.int .i32 (g.r 3))/\g.rs[4]? =some (.int .i32 (g.r 4))/\g.rs[5]? =some (.int .i32 (g.r 5))/\g.rs[6]? =some (.int .i32 (g.r 6)):=⟨rfl,rfl,rfl,rfl,rfl,rfl⟩
theorem DS (g:Rg) (b ad c:Nat) (b0 b1 b2 b3:UInt8) (F A:Nat) (H z:Int) (ld:Int) (w:World) (aD:FT w) (aE:vu w b ad b0 b1 b2 b3) (aB:4<=c) (aA:c<=maxLen) (az:fH b0 b1 b2 b3=some ⟨22,F,A,H,z⟩)
  (ha:F<16) (aW:A<16) (aZ: ∀i,-2147483648<=g.r i/\g.r i<=2147483647) (aT:0<=g.pc/\g.pc<=1000000) (ax: -2147483648<=g.r A/\g.r A<=2147483647) (an: -200<=H/\H<=300) (aR: -32768<=z/\z<=32767):
  Calls prog 92 #[.agg g.cs, .slice (some ⟨b,ad,none⟩) 4 c, .int .i64 ld] w λe w'=>e= .returned (.tuple #[.agg (Rg.cs ⟨g.r,g.pc+4⟩), .int .i64 0, .agg #[.int .i64 1, .int .i64 (g.r 1), .int .i64 (g.r 2), .int .i64 (g.r 3), .int .i64 (g.r 4), .int .i64 (g.r 5), .int .i64 (g.r 6)]])/\au w w':=by
 have aM:=G (λW (aF:au w W)=>show Calls prog 86 #[.slice (some ⟨b,ad,none⟩) 4 c] W λe w'=>e= .returned (.tuple #[.agg #[.int .i64 (22:Nat), .int .i64 F, .int .i64 A, .int .i64 H, .int .i64 z], .int .i64 0])/\au W w' from by
  have:=fe b ad c b0 b1 b2 b3 W (aD.ext aF) (aE.ext aF) aB aA;rw[az]at this
  exact this)
 have Z:=G (λW=>show Calls prog 145 #[.agg g.cs, .agg #[.int .i64 (22:Nat), .int .i64 F, .int .i64 A, .int .i64 H, .int .i64 z]] W λe w'=>e= .returned (.tuple #[.int .i64 (bR g ⟨22,F,A,H,z⟩).1, .int .i64 (bR g ⟨22,F,A,H,z⟩).2])/\au W w' from
  gP g ⟨22,F,A,H,z⟩ W (by simpa using ax) Qi an)
 obtain⟨bm,bl⟩:=aT;obtain⟨bh,bg⟩:=aR;have bi:IntKind.i64.wrap (g.pc+4)=g.pc+4:=Qc
 have bj:IntKind.i64.wrap (4*z)=4*z:=Qc
 have bk:IntKind.i64.wrap (g.pc+4+4*z)=g.pc+4+4*z:=Qc
 clear aD aE az aB aA ax an;unfold bR at Z;simp only[bW]at Z;have bq:(F:Int)<16:=Qa
 have bp:(A:Int)<16:=Qa
 simp at Z;go_enter func92,ntmps92
 go_upto_region 1 with fail
 generalize y:World.alloc (World.alloc (World.alloc w _) _) _=W0;obtain⟨u,r,q,d,s⟩:=Fq y;replace u:=G u;clear y
 go_upto_region 2 with(go_at_call 86;refine(aM.out _ u.out).mono ?_;rintro e ac ⟨rfl,a⟩;have be:w.heap.size+1+1<ac.heap.size:=(by have:=s.out;have:=dm a;omega);clear aM;replace u:=kx u a;replace r:=kb r a;replace q:=kb q a;replace d:=kb d a)
 generalize y:World.alloc ac _=W1;obtain⟨a,x,ba⟩:=kZ y;replace u:=kx u a;replace r:=kb r a;replace q:=kb q a;replace d:=kb d a;clear y a;have R:=x.out.cell;have V:=r.out.cell
 go_upto_region 5 with(first|(refine ce rfl 109 _ rfl _ rfl _ (dh r) ?_)|(go_at_call 145;refine(Z.out _).mono ?_;rintro e I ⟨rfl,a⟩;clear Z R V;replace u:=kx u a;replace r:=kb r a;replace q:=kb q a;replace d:=kb d a;replace x:=kb x a;have R:=x.out.cell;have V:=r.out.cell;clear a))
 have a2:=kG g
 go_upto_region 9 with fail
 go_upto_region 10 with(first|(refine ce rfl 109 _ rfl _ rfl _ (dh r) ?_)|(refine wpList_store_row rfl 109 _ _ rfl _ _ rfl rfl _ _ (aq _ _ _) Qb rfl (fN _) ?_))
 generalize y:World.setRow (World.alloc I _) _ _=W3;obtain⟨ab,a9,o,J⟩:=qJ y (aq I _ _);have bd:w.heap.size+1+1<I.heap.size:=d.out.lt;replace r:=o _ _ _ Qa (kb r (aa I _));replace q:=o _ _ _ Qa (kb q (aa I _));replace d:=o _ _ _ Qa (kb d (aa I _));replace x:=o _ _ _ (by have:=x.out.lt;omega) (kb x (aa I _));replace u:=J _ (kx u (aa I _)) Qa;clear y o J V R;have R:=x.out.cell;have V:=r.out.cell;have fr:=r.out.frozen
 go_upto_region 12 with fail
 generalize y:World.setCell W3 _ _=W4;obtain⟨a8,ay,o,J⟩:=t6 y;replace r:=ay _ _ r;replace q:=o _ _ _ Qa q;replace d:=o _ _ _ Qa d;replace x:=o _ _ _ Qa x;replace ab:=o _ _ _ Qa ab;replace u:=J _ u Qa;rw[nq]at r;clear y o ay J V R fr;have R:=x.out.cell;have V:=r.out.cell;have fr:=r.out.frozen;have a4:=ab.out.cell;have aG:=js ⟨g.r,g.pc+4⟩ F ha;have a1:=js g A aW;simp only at aG;have aH:=kG ⟨g.r,g.pc+4⟩;simp only at aH
 go_upto_region 41 with(first|(refine ce rfl 107 _ rfl _ rfl _ (DJ r) ?_)|(refine wpList_store_row rfl 107 _ _ rfl _ _ rfl rfl _ _ (aq _ _ _) Qb rfl (FI _) ?_))
 generalize y:World.setRow (World.alloc W4 _) _ _=W5;have bc:w.heap.size+1+1<W4.heap.size:=d.out.lt;obtain⟨ak,a7,o,J⟩:=qJ y (aq W4 _ _);replace r:=o _ _ _ Qa (kb r (aa W4 _));replace q:=o _ _ _ Qa (kb q (aa W4 _));replace d:=o _ _ _ Qa (kb d (aa W4 _));replace u:=J _ (kx u (aa W4 _)) Qa;clear y o J R V fr a4 x ab aG a1 a2 aH;obtain⟨bD,bC,bB,bz,bv,bu⟩:=Hu ⟨g.r,g.pc+4⟩;have bf: ∀i,IntKind.i64.wrap (g.r i)=g.r i:=λi=>by have:=aZ i;simp[IntKind.wrap,IntKind.signed,IntKind.bits];omega
 have bb:w.heap.size+1+1<W5.heap.size:=d.out.lt;refine cu (UB (w.heap.size+1) (w.heap.size+1+1)) (UB.refl _ _) (UB.trans _ _) 21 1 [] [1,2,3,4,5,6,7,8,9,10,11,12,13,14,15,16,17,18,19,20] mixed Qb Qb Qb Qf trivial ?_;refine sx ?_ (λac af=> ?_) ?_;rotate_left;(focus rw[nI 109 (.tmp 3) rfl w.heap.size rfl _ (dh (IL r (Mv.un af.1) Qa))]);simp only[bA,bx,bw,br,bo];repeat (refine sx ?_ (λac af=> ?_) ?_;rotate_left;(focus have bt:=(IL ak (Mv.un af.1) Qa).out.cell;clear af;go_simp<;>with_reducible rfl);simp only[bA,bx,bw,br,bo])
 intro aj X aU;clear aU;simp only[ae,aw];obtain⟨a5,ag,am⟩:=X.2.1 _ _ (lV q.out);obtain⟨a3,aI,sz⟩:=X.2.2 _ _ (lV d.out);have aC:=G (show au w aj from((cQ u.out).trans (Mv.un X.1)).ext λj bn e=>by omega);have aK:=X;clear X ak r;refine aO Qf Qe (λaL K=> ?_);refine wp_store_row 109 _ _ rfl _ _ rfl rfl _ _ ag Qb (by rw[am];rfl) (fN _) ?_;have ah:=UB.row aK (.inl rfl) Qa (G ag) (show a5.size=(Rg.cs ⟨g.r,g.pc+4⟩).size by rw[am];rfl);refine K _ _ ah ?_;clear K;refine aO Qf Qe (λaL K=> ?_);go_simp;refine K _ _ ah ?_;clear K;obtain⟨aQ,_,av,ap⟩:=qJ (w:=aj) (g:=w.heap.size+1) (c1:=(Rg.cs ⟨g.r,g.pc+4⟩)) rfl (G ag);have ai:=av _ _ _ (show w.heap.size+1+1≠w.heap.size+1 by omega) (G aI);have aY:=ap _ aC Qa;clear av ap aC ag aI aK;generalize World.setRow aj _ _=al at*;refine aO Qf Qe (λaL K=> ?_);refine wp_store_row 181 _ _ rfl _ _ rfl rfl _ _ ai.out Qb (by rw[sz];rfl) Ql ?_;have aJ:=UB.row ah (.inr rfl) Qa ai (show a3.size=(#[.int .i64 1, .int .i64 (g.r 1), .int .i64 (g.r 2), .int .i64 (g.r 3), .int .i64 (g.r 4), .int .i64 (g.r 5), .int .i64 (g.r 6)]:Array Value).size by rw[sz];rfl);refine K _ _ aJ ?_;clear K;obtain⟨aN,_,ar,ao⟩:=qJ (w:=al) (g:=w.heap.size+1+1) (c1:= #[.int .i64 1, .int .i64 (g.r 1), .int .i64 (g.r 2), .int .i64 (g.r 3), .int .i64 (g.r 4), .int .i64 (g.r 5), .int .i64 (g.r 6)]) rfl ai;have aP:=ar _ _ _ (show w.heap.size+1≠w.heap.size+1+1 by omega) aQ;have aX:=ao _ aY Qa;clear ar ao ah aJ;generalize World.setRow al _ _=a6 at*;refine cL ?_;go_wp2_with fail;have aV:=dh aP;have aS:=jP aN;refine bodyPost_ret (v:= .tuple #[.agg (Rg.mk g.r (g.pc+4)).cs, .int .i64 0, .agg #[.int .i64 1, .int .i64 (g.r 1), .int .i64 (g.r 2), .int .i64 (g.r 3), .int .i64 (g.r 4), .int .i64 (g.r 5), .int .i64 (g.r 6)]]) ?_ rfl ⟨rfl,aX.out⟩;simp[results,results92,asAddr,aV,aS]
structure wW where
 kind:Int
 num:Int
 a0:Int
 a1:Int
 a2:Int
 addr:Int
 len:Int
def wW.val (t:wW):Value:= .agg #[.int .i64 t.kind, .int .i64 t.num, .int .i64 t.a0, .int .i64 t.a1, .int .i64 t.a2, .int .i64 t.addr, .int .i64 t.len]
def zQ:wW:=⟨0,0,0,0,0,0,0⟩
def Fy (n:Int):wW:=⟨2,n,0,0,0,0,0⟩
def oG (g:Rg) (ld:Int):Option dl->Rg×Int×wW
 |none=>(g,0,Fy 1)
 |some x=>
  if 0<(bR g x).2/\(bR g x).1.tmod (bR g x).2≠0 then(g,0,Fy 3)
  else if(x.op=7\/x.op=8)/\g.r x.c.toNat=0 then(g,0,Fy 2)
  else if x.op=1\/x.op=2\/x.op=3\/x.op=14\/x.op=16 then(Rg.upd ⟨g.r,g.pc+4⟩ x.a.toNat (IF g x.op x.a.toNat x.b.toNat x.c x.v ld),0,zQ)
  else if x.op=15 then(⟨g.r,g.pc+4⟩,g.r x.a.toNat,zQ)
  else if x.op=17 then(⟨g.r,g.pc+4⟩,g.r x.a.toNat%256,zQ)
  else if x.op=18\/x.op=19\/x.op=20\/x.op=21 then(H_ g x.a.toNat x.v x.op,0,zQ)
  else if x.op=22 then(⟨g.r,g.pc+4⟩,0,⟨1,g.r 1,g.r 2,g.r 3,g.r 4,g.r 5,g.r 6⟩)
  else(Rg.upd ⟨g.r,g.pc+4⟩ x.a.toNat (lS x.op (g.r x.b.toNat) (g.r x.c.toNat)),0,zQ)
def wV (g:Rg):Option dl->Option (Int×Int×Bool)
 |none=>none
 |some x=>if(bR g x).2=0\/(bR g x).1.tmod (bR g x).2≠0 then none else some ((bR g x).1,(bR g x).2,decide (x.op=15\/x.op=17))
abbrev lq:=Nat->UInt8
def gC (sz:Nat) (a:Int):Nat->Bool
 |0=>true
 |k+1=>gC sz a k&&(decide (0<=a)&&(decide (a+k<4096)&&(decide (a+k<sz)||decide (3072<=a+k))))
def zL (M:lq) (a:Nat):Int:=vE ((M a).toNat+256*(M (a+1)).toNat+65536*(M (a+2)).toNat+16777216*(M (a+3)).toNat)
def lf (M:lq) (a:Nat) (l:List UInt8):lq:=λi=>if a<=i/\i<a+l.length then l.getD (i-a) 0 else M i
def xO (n:Int):UInt8:=UInt8.ofNat (n%256).toNat
def lx (n:Int):List UInt8:=[xO n,xO (n/256),xO (n/65536),xO (n/16777216)]
def th (M:lq) (a n:Nat):List UInt8:=(List.range n).map λi=>M (a+i)
structure Ru where
 m:lq
 g:Rg
 used:Nat
def Ru.fails (s:Ru):Oc:=⟨2,0,0,0,0,[],s.used⟩
def sD (n:Int):Bool:=n==2||(n==7||(n==10||(n==13||(n==14||n==15))))
def Rg.reply (g:Rg) (v:Int):Rg:=⟨λj=>if j=1 then vE v else g.r j,g.pc⟩
def ux (t:wW):Int:=if t.num=9 then t.a1 else if t.num=15 then t.a0 else 0
def E8 (sz:Nat) (R:Rs) (t:wW) (s:Ru):Except Oc Ru:=
 if t.num<0\/20<=t.num then .error s.fails
 else if sD t.num=true/\(t.len<0\/128<t.len\/gC sz t.addr t.len.toNat=false)then .error s.fails
 else match R[s.used]? with
  |none=> .error ⟨1,t.num,t.a0,t.a1,t.a2,if sD t.num=true then th s.m t.addr.toNat t.len.toNat else[],s.used⟩
  |some r=>
   let bk:=r.2.take (ux t).toNat
   if gC sz t.addr bk.length=false then .error ⟨2,0,0,0,0,[],s.used+1⟩
   else .ok ⟨lf s.m t.addr.toNat bk,s.g.reply r.1,s.used+1⟩
def rP (s:Ru):Option dl:=fH (s.m s.g.pc.toNat) (s.m (s.g.pc.toNat+1)) (s.m (s.g.pc.toNat+2)) (s.m (s.g.pc.toNat+3))
def BD (sz:Nat) (R:Rs) (s:Ru) (x:Rg×Int×wW) (M:lq):Except Oc Ru:=
 if x.2.2.kind=2 then .error s.fails else if x.2.2.kind=1 then E8 sz R x.2.2 ⟨M,x.1,s.used⟩else .ok ⟨M,x.1,s.used⟩
def p4 (sz:Nat) (R:Rs) (s:Ru):Except Oc Ru:=
 if s.g.pc.tmod 4≠0\/gC sz s.g.pc 4=false then .error s.fails
 else match wV s.g (rP s)with
  |none=>BD sz R s (oG s.g 0 (rP s)) s.m
  |some (a,n,wr)=>
   if gC sz a n.toNat=false then .error s.fails
   else
    let x:=oG s.g (if n=4 then zL s.m a.toNat else(s.m a.toNat).toNat) (rP s)
    BD sz R s x (if wr=true then lf s.m a.toNat ((lx x.2.1).take n.toNat)else s.m)
def tS (sz:Nat) (R:Rs):Nat->Ru->Oc
 |0,s=>⟨3,0,0,0,0,[],s.used⟩
 |n+1,s=>match p4 sz R s with
  | .error o=>o
  | .ok s'=>tS sz R n s'
def Bf (code data:List UInt8) (at_:Nat):lq:=λi=>if i<code.length then code.getD i 0 else if at_<=i/\i<at_+data.length then data.getD (i-at_) 0 else 0
def tI (entry:Int):Rg:=⟨λj=>if j=15 then 4096 else 0,entry⟩
def nY (g:Rg):Prop:= ∀i,-2147483648<=g.r i/\g.r i<=2147483647
theorem pL {n:Int} {d:Bool} (a:jt n d=true):0<=n/\n<16:=by
 unfold jt at a;simp at a;omega
structure Ix (x:dl):Prop where
 op1:1<=x.op
 op2:x.op<=22
 a:0<=x.a/\x.a<16
 b:0<=x.b/\x.b<16
 c: -128<=x.c/\x.c<=127
 v: -32768<=x.v/\x.v<=32767
 r:4<=x.op->x.op<=13->0<=x.c/\x.c<16/\x.v=0
theorem DH {x:dl} (h:eZ x=true):Ix x:=by
 unfold eZ at h;simp only[an,decide_eq_true_eq]at h;obtain⟨⟨H,G⟩,⟨⟨F,A⟩,a⟩,d⟩:=h;have u: -32768<=x.v/\x.v<=32767:=by unfold G4 at d;simp at d;omega
 refine⟨H,G,pL F,pL A,?_,u,λz y=> ?_⟩
 ·unfold G_ at a;split at a
  ·simp at a;omega
  ·have:=pL a;omega
 ·have o:(iO x.op).2.2.2.2.2=false/\(iO x.op).2.2.2.2.1=false:=by
   obtain⟨k,I,b,c,v⟩:=x;simp only at z y⊢;rcases(show k=4\/k=5\/k=6\/k=7\/k=8\/k=9\/k=10\/k=11\/k=12\/k=13 by omega)with rfl|rfl|rfl|rfl|rfl|rfl|rfl|rfl|rfl|rfl<;>exact⟨rfl,rfl⟩
  unfold G_ at a;unfold G4 at d;rw[o.1]at a;rw[o.2]at d;have:=pL (by simpa using a);simp at d;exact⟨this.1,this.2,d⟩
theorem qy {b0 b1 b2 b3:UInt8} {x:dl} (a:fH b0 b1 b2 b3=some x):Ix x:=by
 unfold fH at a;split at a
 ·rename_i d;injection a with a;subst a;exact DH d.2.2
 ·cases a
theorem Bz (g:Rg) (b a c:Nat) (b0 b1 b2 b3:UInt8) (ld:Int) (w:World) (F:FT w) (d:vu w b a b0 b1 b2 b3) (A:4<=c) (z:c<=maxLen) (aa:nY g) (J:0<=g.pc/\g.pc<=1000000):
  Calls prog 92 #[.agg g.cs, .slice (some ⟨b,a,none⟩) 4 c, .int .i64 ld] w λe w'=>e= .returned (.tuple #[.agg (oG g ld (fH b0 b1 b2 b3)).1.cs, .int .i64 (oG g ld (fH b0 b1 b2 b3)).2.1,(oG g ld (fH b0 b1 b2 b3)).2.2.val])/\au w w':=by
 cases hd:fH b0 b1 b2 b3 with
 |none=>exact DT g b a c b0 b1 b2 b3 ld w F d A z hd
 |some x=>
  have K:=qy hd;have H:=aa x.b.toNat;unfold oG;simp only;by_cases h1:0<(bR g x).2/\(bR g x).1.tmod (bR g x).2≠0
  ·rw[if_pos h1];have ag:(bR g x).2=1\/(bR g x).2=4:=by
    have y:=h1.1;unfold bR at y⊢;split
    ·exact .inr rfl
    ·rename_i Z;rw[if_neg Z]at y;split
     ·exact .inl rfl
     ·rename_i d;rw[if_neg d]at y;simp at y
   have ah: -5000000000<=(bR g x).1/\(bR g x).1<=5000000000:=by
    have:=K.c;unfold bR;split<;>(try split)<;>simp only<;>omega
   exact DU g b a c b0 b1 b2 b3 x _ _ ld w F d A z hd K.b.2 K.b.1 H (by have:=K.c;omega) rfl ag ah h1.2
  rw[if_neg h1];obtain⟨k,ak,aj,h,R⟩:=x;have an:=G K;obtain⟨ap,ao,⟨a0,aq⟩,⟨af,al⟩,am,X,ad⟩:=K;simp only at*;obtain⟨u,rfl⟩:=aW a0;obtain⟨o,rfl⟩:=aW af;simp only[bW]at*;have ha:u<16:=Qa
  have I:o<16:=Qa
  have V: -200<=h/\h<=300:=Qa
  by_cases y:(k=7\/k=8)/\g.r h.toNat=0
  ·rw[if_pos y];obtain⟨ac,ae,rfl⟩:=ad Qa Qa;obtain⟨ab,rfl⟩:=aW ac;exact DW g b a c b0 b1 b2 b3 k u o ab ld w F d A z hd y.1 ha I Qa H (by simpa using y.2)
  rw[if_neg y];by_cases Z:k=1\/k=2\/k=3\/k=14\/k=16
  ·rw[if_pos Z];refine DR g b a c b0 b1 b2 b3 k u o h R ld w F d A z hd Z ha I J H V X λe=> ?_;subst e;by_cases h5:(g.r o+h).tmod 4=0
   ·exact h5
   ·exact absurd ⟨by simp[bR],by simpa[bR]using h5⟩ h1
  rw[if_neg Z];by_cases h4':k=15
  ·subst h4';rw[if_pos rfl]
   have:=xC g b a c b0 b1 b2 b3 15 u o h R ld w F d A z hd (.inl rfl) ha I J H V X (λ_=>by
    by_cases h5:(g.r o+h).tmod 4=0
    ·exact h5
    ·exact absurd ⟨by simp[bR],by simpa[bR]using h5⟩ h1) (aa u)
   rwa [if_pos rfl]at this
  rw[if_neg h4'];by_cases h5:k=17
  ·subst h5;rw[if_pos rfl];have:=xC g b a c b0 b1 b2 b3 17 u o h R ld w F d A z hd (.inr rfl) ha I J H V X (λe=>by cases e) (aa u);rwa [if_neg Qd]at this
  rw[if_neg h5];by_cases h6:k=18\/k=19\/k=20\/k=21
  ·rw[if_pos h6];exact DV g b a c b0 b1 b2 b3 k u o h R ld w F d A z hd h6 ha I J H V X
  rw[if_neg h6];by_cases h7:k=22
  ·subst h7;rw[if_pos rfl];exact DS g b a c b0 b1 b2 b3 u o h R ld w F d A z hd ha I aa J H V X
  rw[if_neg h7];obtain⟨ac,ae,rfl⟩:=ad Qa Qa;obtain⟨ab,rfl⟩:=aW ac;exact DX g b a c b0 b1 b2 b3 k u o ab ld w F d A z hd Qa ha I Qa J H λe ai=>y ⟨e,by simpa using ai⟩
theorem gK (n:Int): -2147483648<=wrap32 n/\wrap32 n<=2147483647:=by
 unfold wrap32;omega
theorem sW (n:Int): -2147483648<=IntKind.i32.wrap n/\IntKind.i32.wrap n<=2147483647:=by
 simp[IntKind.wrap,IntKind.signed,IntKind.bits];omega
theorem zv {k:Nat} {b c:Int} (u: -2147483648<=b/\b<=2147483647) (o: -2147483648<=c/\c<=2147483647): -2147483648<=lS k b c/\lS k b c<=2147483647:=by
 unfold lS;split
 ·exact gK _
 ·exact gK _
 ·exact gK _
 ·exact gK _
 ·have h:=Int.natAbs_tmod b c;have y:(b.tmod c).natAbs<=b.natAbs:=by rw[h];exact Nat.mod_le _ _
  rcases Int.le_total 0 b with d|d
  ·have:=Int.tmod_nonneg c d;omega
  ·have:=Int.tmod_nonneg c (a:= -b) Qa;rw[Int.neg_tmod]at this;omega
 ·exact sW _
 ·exact sW _
 ·exact sW _
 ·split<;>omega
 ·split<;>omega
theorem nY.upd {g:Rg} (d:nY g) (i:Nat) (p v:Int) (a: -2147483648<=v/\v<=2147483647):nY (Rg.upd ⟨g.r,p⟩ i v):=λj=>by
 unfold Rg.upd;simp only;split
 ·exact a
 ·exact d j
theorem BC {g:Rg} {b0 b1 b2 b3:UInt8} {ld:Int} (a:nY g) (o:0<=g.pc/\g.pc<=1000000):nY (oG g ld (fH b0 b1 b2 b3)).1/\ -2147483648<=(oG g ld (fH b0 b1 b2 b3)).2.1/\(oG g ld (fH b0 b1 b2 b3)).2.1<=2147483647:=by
 cases hd:fH b0 b1 b2 b3 with
 |none=>exact⟨a,by simp[oG],by simp[oG]⟩
 |some x=>
  have d:=qy hd;have h:=d.v;unfold oG;simp only;split
  ·exact⟨a,by simp⟩
  split
  ·exact⟨a,by simp⟩
  split
  ·rename_i u;refine⟨a.upd _ _ _ ?_,by simp⟩;unfold IF;split
   ·omega
   split
   ·exact gK _
   split
   ·exact gK _
   split
   ·exact gK _
   ·omega
  split
  ·exact⟨a,a _⟩
  split
  ·refine⟨a,?_⟩;simp only;omega
  split
  ·refine⟨?_,by simp⟩;unfold H_;split
   ·exact a
   ·exact a
   ·exact a.upd _ _ _ Qa
   ·exact a
  split
  ·exact⟨a,by simp⟩
  ·exact⟨a.upd _ _ _ (zv (a _) (a _)),by simp⟩
theorem nh {t:TypeId} {g:Nat}: ∀(o:List Value) (a:Nat) (w:World) (d:List Value),aM w g t d.toArray->a+o.length<=d.length->
  aM (w.setCells g a o) g t (splice d a o).toArray/\Mv (· =g) w (w.setCells g a o)/\(w.setCells g a o).heap.size=w.heap.size
 | [],a,w,d,h,hl=>by
  refine⟨?_,gn _ _,rfl⟩;simpa[splice,World.setCells]using h
 |v::r,a,w,d,h,hl=>by
  have G:aM (w.setCell ⟨g,a,none⟩ v) g t (d.set a v).toArray:=by
   have:=h.set a v;simpa using this
  obtain⟨F,A,z⟩:=nh r (a+1) (w.setCell ⟨g,a,none⟩ v) (d.set a v) G (by simp at hl⊢;omega);rw[World.setCells];have u:Mv (λx=>x=g) w (w.setCell ⟨g,a,none⟩ v):=Mv.set (S:=λx=>x=g) (gn _ _) (p:=⟨g,a,none⟩) (λ_=>rfl) v;refine⟨?_,u.trans A,by rw[z];simp[World.setCell]⟩;have e:splice (d.set a v) (a+1) r=splice d a (v::r):=by
   simp at hl;apply fR;intro i;have u:min (a+1) d.length=a+1:=Qa
   have y:min a d.length=a:=Qa
   simp only[splice,fW,bC,b_,gI,List.length_set,ag,List.getElem?_set,List.getElem?_cons,u,y];repeat' split
   all_goals first|(exfalso;omega)|rfl|(congr 1;omega)
  rw[<-e];exact F
def lk (M:lq):List Value:=(List.range 4096).map λi=>qQ (M i)
theorem cj (M:lq):(lk M).length=4096:=by simp[lk]
theorem l9 (M:lq) (i:Nat) (a:i<4096):(lk M)[i]? =some (qQ (M i)):=by
 unfold lk;rw[dw,List.getElem?_range a];rfl
theorem Bg (M:lq) (T:List Value) (a:Nat) (l:List UInt8) (o:a+l.length<=4096):splice (lk M++T) a (im l)=lk (lf M a l)++T:=by
 apply fR;intro i;have h:=jA l;rw[splice,fW,bC,ac,cj,b_];rw[show min a (4096+T.length)=a by omega];rcases eS i a with d|d
 ·rw[if_pos d,if_pos d,be (by rw[cj];omega),be (by rw[cj];omega),l9 _ _ Qa,l9 _ _ Qa];unfold lf;rw[if_neg Qa]
 rw[if_neg Qa,fW,h];by_cases h2:i-a<l.length
 ·rw[if_pos h2,be (by rw[cj];omega),l9 _ _ Qa];unfold lf;rw[if_pos Qa];unfold im;rw[dw,aI h2,bP,aI h2];rfl
 ·rw[if_neg h2,gI,show a+l.length+(i-a-l.length)=i by omega];by_cases h3:i<4096
  ·rw[be (by rw[cj];omega),be (by rw[cj];omega),l9 _ _ h3,l9 _ _ h3];unfold lf;rw[if_neg Qa]
  ·rw[bD (by rw[cj];omega),bD (by rw[cj];omega),cj,cj]
def oh (sz:Int) (g:Rg) (rv:Value) (ol:List Value):List Value:= .int .i64 sz::(g.cs.toList++(rv::ol))
theorem C5 (M:lq) (Y:List Value) (j:Nat):(lk M++Y)[4096+j]? =Y[j]? :=by rw[bD (by rw[cj];exact Nat.le_add_right _ _),cj,Nat.add_sub_cancel_left]
def RB (w:World) (b:Nat) (M:lq) (sz:Int) (g:Rg) (rv:Value) (ol:List Value):Prop:=aM w b 113 (lk M++oh sz g rv ol).toArray
section
variable {w w':World} {b:Nat} {M:lq} {sz:Int} {g:Rg} {rv:Value} {ol:List Value}
theorem RB.ext (d:RB w b M sz g rv ol) (a:au w w'):RB w' b M sz g rv ol:=aM.ext d a
theorem RB.mem (d:RB w b M sz g rv ol) (i:Nat) (a:i<4096):w.cell? ⟨b,i,none⟩=some (.int .u8 ((M i).toNat:Int)):=by
 rw[aM.cell d,eL,be (by rw[cj];omega),l9 _ _ a];rfl
theorem RB.tail (a:RB w b M sz g rv ol) (j:Nat):w.cell? ⟨b,4096+j,none⟩=(oh sz g rv ol)[j]? :=by
 rw[aM.cell a,eL,C5]
theorem sE (sz:Int) (g:Rg) (rv:Value) (ol:List Value):(oh sz g rv ol)[0]? =some (.int .i64 sz)/\(oh sz g rv ol)[17]? =some (.int .i64 g.pc)/\(oh sz g rv ol)[18]? =some rv/\ ∀j,(oh sz g rv ol)[19+j]? =ol[j]? :=
 ⟨rfl,rfl,rfl,λj=>by
  have:oh sz g rv ol=(.int .i64 sz::g.cs.toList++[rv])++ol:=by simp[oh]
  rw[this,bD (by simp[Rg.cs])]
  congr 1
  simp[Rg.cs]⟩
theorem RB.tl (a:RB w b M sz g rv ol) (n j:Nat) (e:n=4096+j):w.cell? ⟨b,n,none⟩=(oh sz g rv ol)[j]? :=by subst e;exact a.tail j
theorem RB.size (a:RB w b M sz g rv ol):w.cell? ⟨b,4096,none⟩=some (.int .i64 sz):=(a.tl _ 0 Qd).trans (sE sz g rv ol).1
theorem RB.pc (a:RB w b M sz g rv ol):w.cell? ⟨b,4113,none⟩=some (.int .i64 g.pc):=(a.tl _ 17 Qd).trans (sE sz g rv ol).2.1
theorem RB.res (a:RB w b M sz g rv ol):w.cell? ⟨b,4114,none⟩=some rv:=(a.tl _ 18 Qd).trans (sE sz g rv ol).2.2.1
theorem RB.out (d:RB w b M sz g rv ol) (j:Nat):w.cell? ⟨b,4115+j,none⟩=ol[j]? :=(d.tl _ (19+j) Qa).trans ((sE sz g rv ol).2.2.2 j)
theorem RB.frz (a:RB w b M sz g rv ol) (i:Nat):w.frozen? ⟨b,i,none⟩=false:=aM.frozen a i
theorem RB.at4 (a:RB w b M sz g rv ol) (i:Nat) (d:i+3<4096):vu w b i (M i) (M (i+1)) (M (i+2)) (M (i+3)):=
 ⟨qP a,a.mem _ Qa,a.mem _ Qa,a.mem _ Qa,a.mem _ Qa⟩
theorem RB.regs (h:RB w b M sz g rv ol):w.rangeAt b 4097 g.cs.toList:=λj v a=>by
 have d:j<17:=(List.getElem?_eq_some_iff.1 a).1;rw[show 4097+j=4096+(j+1) by omega,h.tail,oh,dg,be (by simpa[Rg.cs]using d)];exact a
theorem RB.there (d:RB w b M sz g rv ol) (h:ol.length=7) (a n:Nat) (o:a+n<=4122):w.there b a n:=λj u=>by
 refine⟨?_,d.frz _⟩;rw[aM.cell d,eL,aI (by simp[cj,oh,Rg.cs,h];omega)];rfl
theorem RB.put (d:RB w b M sz g rv ol) (a:Nat) (l:List UInt8) (ha:a+l.length<=4096):w'.heap[b]? =some (.cells (splice (lk M++oh sz g rv ol) a (im l)).toArray 113 (0,0))->RB w' b (lf M a l) sz g rv ol:=λe=>by
 rw[Bg _ _ _ _ ha]at e;exact e
theorem vS {h:Type} (a B C d:List h) (n:Nat) (o:n=a.length) (u:d.length=B.length):splice (a++(B++C)) n d=a++(d++C):=by
 subst o;unfold splice;rw[List.take_left,u,<-aL a B C,show a.length+B.length=(a++B).length by simp,List.drop_left]
theorem RB.setRegs (u:RB w b M sz g rv ol) (a:Rg):RB (w.setCells b 4097 a.cs.toList) b M sz a rv ol/\Mv (· =b) w (w.setCells b 4097 a.cs.toList)/\(w.setCells b 4097 a.cs.toList).heap.size=w.heap.size:=by
 obtain⟨d,o,h⟩:=nh (t:=113) a.cs.toList 4097 w _ u (by simp[cj,oh,Rg.cs];omega);refine⟨?_,o,h⟩;have e:splice (lk M++oh sz g rv ol) 4097 a.cs.toList=lk M++oh sz a rv ol:=by
  have:=vS (lk M++[.int .i64 sz]) g.cs.toList (rv::ol) a.cs.toList 4097 (by simp[cj]) (by simp[Rg.cs]);simpa[oh]using this
 rw[e]at d;exact d
theorem RB.setTail (a:RB w b M sz g rv ol) (j:Nat) (v:Value):aM (w.setCell ⟨b,4096+j,none⟩ v) b 113 (lk M++(oh sz g rv ol).set j v).toArray:=by
 have:=aM.set a (4096+j) v;rw[a8,k9 _ _ (by rw[cj];omega),cj,show 4096+j-4096=j by omega]at this;exact this
theorem RB.setOut (a:RB w b M sz g rv ol) (j:Nat) (v:Value):RB (w.setCell ⟨b,4115+j,none⟩ v) b M sz g rv (ol.set j v):=by
 have:=a.setTail (19+j) v;rw[show 4096+(19+j)=4115+j by omega]at this;have e:(oh sz g rv ol).set (19+j) v=oh sz g rv (ol.set j v):=by
  unfold oh;rw[show 19+j=(18+j)+1 by omega,b6,k9 _ _ (by simp[Rg.cs];omega),show 18+j-g.cs.toList.length=j+1 by simp[Rg.cs];omega,b6]
 rw[e]at this;exact this
end
end
end Go.Proofs.YtoedmpgicdekmaaGreatDoor
