/-
  Parts of the proof: CpK CtP CpL CrA.
-/
import Derived.Deep.MidRow
import Derived.Test.YtoedmpgicdekmaaGreatDoorCq27
import Derived.Test.YtoedmpgicdekmaaGreatDoorCq25
import Derived.Test.YtoedmpgicdekmaaGreatDoorCq00
import Derived.Test.YtoedmpgicdekmaaGreatDoorCq14
import Derived.Laws.CopyOwn
set_option maxRecDepth 100000
set_option maxHeartbeats 8000000
set_option linter.unusedVariables false
set_option linter.unusedSimpArgs false
set_option linter.unusedSectionVars false
namespace Go.Proofs.YtoedmpgicdekmaaGreatDoor
open Go.Proofs.Tryz
section
open Go.RowKit
def Rg.rs (g:Rg):Array Value:= #[.int .i32 (g.r 0), .int .i32 (g.r 1), .int .i32 (g.r 2), .int .i32 (g.r 3), .int .i32 (g.r 4), .int .i32 (g.r 5), .int .i32 (g.r 6), .int .i32 (g.r 7), .int .i32 (g.r 8), .int .i32 (g.r 9), .int .i32 (g.r 10), .int .i32 (g.r 11), .int .i32 (g.r 12), .int .i32 (g.r 13), .int .i32 (g.r 14), .int .i32 (g.r 15)]
theorem BB {w:World} {g:Rg} {b:Nat} (h:Hid (aP w b 109 g.cs)):(loadVar 107 ⟨b,0,none⟩).run prog w= .ok (.agg g.rs) w:=
 run_loadVar_mid w b 0 107 g.rs.toList _ (fun j v hv=>by
  rw[be,h.out.cell,<-hv];have hj:j<16:=(List.getElem?_eq_some_iff.1 hv).1
  iterate 16 (rcases j with _|j;exact rfl)
  omega) underlying107 rfl (by kernel_rfl)
theorem Dh (g:Rg):g.rs.all (·.oneCell')=true:=by simp[Rg.rs,Value.oneCell']
theorem EE (g:Rg):g.rs[1]? =some (.int .i32 (g.r 1))/\g.rs[2]? =some (.int .i32 (g.r 2))/\g.rs[3]? =some (.int .i32 (g.r 3))/\g.rs[4]? =some (.int .i32 (g.r 4))/\g.rs[5]? =some (.int .i32 (g.r 5))/\g.rs[6]? =some (.int .i32 (g.r 6)):=⟨rfl,rfl,rfl,rfl,rfl,rfl⟩
theorem BJ (g:Rg) (b o c:Nat) (b0 b1 b2 b3:UInt8) (ra rb:Nat) (xc xv:Int) (ld:Int) (w:World) (hF:FT w) (h4:tn w b o b0 b1 b2 b3) (hc:4<=c) (hc2:c<=maxLen) (hd:eO b0 b1 b2 b3=some ⟨22,ra,rb,xc,xv⟩)
  (ha:ra<16) (hb:rb<16) (hR: ∀i,-2147483648<=g.r i/\g.r i<=2147483647) (hpc:0<=g.pc/\g.pc<=1000000) (hrb: -2147483648<=g.r rb/\g.r rb<=2147483647) (hxc: -200<=xc/\xc<=300) (hxv: -32768<=xv/\xv<=32767):
  Calls prog 92 #[.agg g.cs, .slice (some ⟨b,o,none⟩) 4 c, .int .i64 ld] w fun e w'=>e= .returned (.tuple #[.agg (Rg.cs ⟨g.r,g.pc+4⟩), .int .i64 0, .agg #[.int .i64 1, .int .i64 (g.r 1), .int .i64 (g.r 2), .int .i64 (g.r 3), .int .i64 (g.r 4), .int .i64 (g.r 5), .int .i64 (g.r 6)]])/\au w w':=by
 have HD:=G (fun W (h:au w W)=>show Calls prog 86 #[.slice (some ⟨b,o,none⟩) 4 c] W fun e w'=>e= .returned (.tuple #[.agg #[.int .i64 (22:Nat), .int .i64 ra, .int .i64 rb, .int .i64 xc, .int .i64 xv], .int .i64 0])/\au W w' from by
  have:=ep b o c b0 b1 b2 b3 W (hF.ext h) (h4.ext h) hc hc2;rw[hd]at this
  exact this)
 have HP:=G (fun W=>show Calls prog 145 #[.agg g.cs, .agg #[.int .i64 (22:Nat), .int .i64 ra, .int .i64 rb, .int .i64 xc, .int .i64 xv]] W fun e w'=>e= .returned (.tuple #[.int .i64 (bL g ⟨22,ra,rb,xc,xv⟩).1, .int .i64 (bL g ⟨22,ra,rb,xc,xv⟩).2])/\au W w' from
  fY g ⟨22,ra,rb,xc,xv⟩ W (by simpa using hrb) (by simp only;omega) hxc)
 obtain⟨hp0,hp1⟩:=hpc;obtain⟨hv0,hv1⟩:=hxv;have hpw:IntKind.i64.wrap (g.pc+4)=g.pc+4:=by simp[IntKind.wrap,IntKind.signed,IntKind.bits];omega
 have hpv:IntKind.i64.wrap (4*xv)=4*xv:=by simp[IntKind.wrap,IntKind.signed,IntKind.bits];omega
 have hpt:IntKind.i64.wrap (g.pc+4+4*xv)=g.pc+4+4*xv:=by simp[IntKind.wrap,IntKind.signed,IntKind.bits];omega
 clear hF h4 hd hc hc2 hrb hxc;unfold bL at HP;simp only[bP]at HP;have hai:(ra:Int)<16:=by omega
 have hbi:(rb:Int)<16:=by omega
 simp at HP;go_enter func92,ntmps92
 go_upto_region 1 with fail
 generalize hW:World.alloc (World.alloc (World.alloc w _) _) _=W0;obtain⟨hX,r,q,z,s⟩:=CU hW;replace hX:=G hX;clear hW
 go_upto_region 2 with(go_at_call 86;refine(HD.out _ hX.out).mono ?_;rintro e w1 ⟨rfl,hE⟩;have hz1:w.heap.size+1+1<w1.heap.size:=(by have:=s.out;have:=fL hE;omega);clear HD;replace hX:=kx hX hE;replace r:=kb r hE;replace q:=kb q hE;replace z:=kb z hE)
 generalize hW:World.alloc w1 _=W1;obtain⟨hE,x,s1⟩:=jm hW;replace hX:=kx hX hE;replace r:=kb r hE;replace q:=kb q hE;replace z:=kb z hE;clear hW hE;have cx:=x.out.cell;have cr:=r.out.cell
 go_upto_region 5 with(first|(refine bU rfl 109 _ rfl _ rfl _ (cP r) ?_)|(go_at_call 145;refine(HP.out _).mono ?_;rintro e w2 ⟨rfl,hE⟩;clear HP cx cr;replace hX:=kx hX hE;replace r:=kb r hE;replace q:=kb q hE;replace z:=kb z hE;replace x:=kb x hE;have cx:=x.out.cell;have cr:=r.out.cell;clear hE))
 have g16:=jv g
 go_upto_region 9 with fail
 go_upto_region 10 with(first|(refine bU rfl 109 _ rfl _ rfl _ (cP r) ?_)|(refine wpList_store_row rfl 109 _ _ rfl _ _ rfl rfl _ _ (aw _ _ _) (by kernel_rfl) rfl (eT _) ?_))
 generalize hW:World.setRow (World.alloc w2 _) _ _=W3;obtain⟨y,s3,hs,hx⟩:=oQ hW (aw w2 _ _);have hz2:w.heap.size+1+1<w2.heap.size:=z.out.lt;replace r:=hs _ _ _ (by omega) (kb r (aa w2 _));replace q:=hs _ _ _ (by omega) (kb q (aa w2 _));replace z:=hs _ _ _ (by omega) (kb z (aa w2 _));replace x:=hs _ _ _ (by have:=x.out.lt;omega) (kb x (aa w2 _));replace hX:=hx _ (kx hX (aa w2 _)) (by omega);clear hW hs hx cr cx;have cx:=x.out.cell;have cr:=r.out.cell;have fr:=r.out.frozen
 go_upto_region 12 with fail
 generalize hW:World.setCell W3 _ _=W4;obtain⟨s4,hg,hs,hx⟩:=rO hW;replace r:=hg _ _ r;replace q:=hs _ _ _ (by omega) q;replace z:=hs _ _ _ (by omega) z;replace x:=hs _ _ _ (by omega) x;replace y:=hs _ _ _ (by omega) y;replace hX:=hx _ hX (by omega);rw[lH]at r;clear hW hs hg hx cr cx fr;have cx:=x.out.cell;have cr:=r.out.cell;have fr:=r.out.frozen;have cy:=y.out.cell;have gr:=ii ⟨g.r,g.pc+4⟩ ra ha;have gb:=ii g rb hb;simp only at gr;have gp:=jv ⟨g.r,g.pc+4⟩;simp only at gp
 go_upto_region 41 with(first|(refine bU rfl 107 _ rfl _ rfl _ (BB r) ?_)|(refine wpList_store_row rfl 107 _ _ rfl _ _ rfl rfl _ _ (aw _ _ _) (by kernel_rfl) rfl (Dh _) ?_))
 generalize hW:World.setRow (World.alloc W4 _) _ _=W5;have hz4:w.heap.size+1+1<W4.heap.size:=z.out.lt;obtain⟨y5,s5,hs,hx⟩:=oQ hW (aw W4 _ _);replace r:=hs _ _ _ (by omega) (kb r (aa W4 _));replace q:=hs _ _ _ (by omega) (kb q (aa W4 _));replace z:=hs _ _ _ (by omega) (kb z (aa W4 _));replace hX:=hx _ (kx hX (aa W4 _)) (by omega);clear hW hs hx cx cr fr cy x y gr gb g16 gp;obtain⟨a1,a2,a3,a4,a5,a6⟩:=EE ⟨g.r,g.pc+4⟩;have hwi: ∀i,IntKind.i64.wrap (g.r i)=g.r i:=fun i=>by have:=hR i;simp[IntKind.wrap,IntKind.signed,IntKind.bits];omega
 have hz5:w.heap.size+1+1<W5.heap.size:=z.out.lt;refine bY (UB (w.heap.size+1) (w.heap.size+1+1)) (UB.refl _ _) (UB.trans _ _) 21 1 [] [1,2,3,4,5,6,7,8,9,10,11,12,13,14,15,16,17,18,19,20] mixed (by kernel_rfl) (by kernel_rfl) (by kernel_rfl) (by rfl) trivial ?_;refine sx ?_ (fun w1 hU=> ?_) ?_;rotate_left;(focus rw[lS 109 (.tmp 3) rfl w.heap.size rfl _ (cP (Fu r (Mv.un hU.1) (by omega)))]);simp only[bH,bG,bF,bE,bD];repeat (refine sx ?_ (fun w1 hU=> ?_) ?_;rotate_left;(focus have c5:=(Fu y5 (Mv.un hU.1) (by omega)).out.cell;clear hU;go_simp<;>with_reducible rfl);simp only[bH,bG,bF,bE,bD])
 intro w5 hw5 hp;clear hp;simp only[ac,aq];obtain⟨cq,bq,sq⟩:=hw5.2.1 _ _ (kt q.out);obtain⟨cz,bz,sz⟩:=hw5.2.2 _ _ (kt z.out);have hX5:=G (show au w w5 from((cE hX.out).trans (Mv.un hw5.1)).ext fun j hj e=>by omega);have U0:=hw5;clear hw5 y5 r;refine aH (by rfl) (by simp) (fun K hK=> ?_);refine wp_store_row 109 _ _ rfl _ _ rfl rfl _ _ bq (by kernel_rfl) (by rw[sq];rfl) (eT _) ?_;have U1:=UB.row U0 (.inl rfl) (by omega) (G bq) (show cq.size=(Rg.cs ⟨g.r,g.pc+4⟩).size by rw[sq];rfl);refine hK _ _ U1 ?_;clear hK;refine aH (by rfl) (by simp) (fun K hK=> ?_);go_simp;refine hK _ _ U1 ?_;clear hK;obtain⟨q6,_,hs6,hx6⟩:=oQ (w:=w5) (g:=w.heap.size+1) (c1:=(Rg.cs ⟨g.r,g.pc+4⟩)) rfl (G bq);have z6:=hs6 _ _ _ (show w.heap.size+1+1≠w.heap.size+1 by omega) (G bz);have hX6:=hx6 _ hX5 (by omega);clear hs6 hx6 hX5 bq bz U0;generalize World.setRow w5 _ _=w6 at*;refine aH (by rfl) (by simp) (fun K hK=> ?_);refine wp_store_row 181 _ _ rfl _ _ rfl rfl _ _ z6.out (by kernel_rfl) (by rw[sz];rfl) (by simp[Value.oneCell']) ?_;have U2:=UB.row U1 (.inr rfl) (by omega) z6 (show cz.size=(#[.int .i64 1, .int .i64 (g.r 1), .int .i64 (g.r 2), .int .i64 (g.r 3), .int .i64 (g.r 4), .int .i64 (g.r 5), .int .i64 (g.r 6)]:Array Value).size by rw[sz];rfl);refine hK _ _ U2 ?_;clear hK;obtain⟨z7,_,hs7,hx7⟩:=oQ (w:=w6) (g:=w.heap.size+1+1) (c1:= #[.int .i64 1, .int .i64 (g.r 1), .int .i64 (g.r 2), .int .i64 (g.r 3), .int .i64 (g.r 4), .int .i64 (g.r 5), .int .i64 (g.r 6)]) rfl z6;have q7:=hs7 _ _ _ (show w.heap.size+1≠w.heap.size+1+1 by omega) q6;have hX7:=hx7 _ hX6 (by omega);clear hs7 hx7 U1 U2;generalize World.setRow w6 _ _=w7 at*;refine b_ ?_;go_wp2_with fail;have hl:=cP q7;have ht:=iF z7;refine bodyPost_ret (v:= .tuple #[.agg (Rg.mk g.r (g.pc+4)).cs, .int .i64 0, .agg #[.int .i64 1, .int .i64 (g.r 1), .int .i64 (g.r 2), .int .i64 (g.r 3), .int .i64 (g.r 4), .int .i64 (g.r 5), .int .i64 (g.r 6)]]) ?_ rfl ⟨rfl,hX7.out⟩;simp[results,results92,asAddr,hl,ht]
end
section
open Go.RowKit
structure rp where
 kind:Int
 num:Int
 a0:Int
 a1:Int
 a2:Int
 addr:Int
 len:Int
def rp.val (t:rp):Value:= .agg #[.int .i64 t.kind, .int .i64 t.num, .int .i64 t.a0, .int .i64 t.a1, .int .i64 t.a2, .int .i64 t.addr, .int .i64 t.len]
def xL:rp:=⟨0,0,0,0,0,0,0⟩
def C9 (n:Int):rp:=⟨2,n,0,0,0,0,0⟩
def mC (g:Rg) (ld:Int):Option cQ->Rg×Int×rp
 |none=>(g,0,C9 1)
 |some x=>
  if 0<(bL g x).2/\(bL g x).1.tmod (bL g x).2≠0 then(g,0,C9 3)
  else if(x.op=7\/x.op=8)/\g.r x.c.toNat=0 then(g,0,C9 2)
  else if x.op=1\/x.op=2\/x.op=3\/x.op=14\/x.op=16 then(Rg.upd ⟨g.r,g.pc+4⟩ x.a.toNat (Fl g x.op x.a.toNat x.b.toNat x.c x.v ld),0,xL)
  else if x.op=15 then(⟨g.r,g.pc+4⟩,g.r x.a.toNat,xL)
  else if x.op=17 then(⟨g.r,g.pc+4⟩,g.r x.a.toNat%256,xL)
  else if x.op=18\/x.op=19\/x.op=20\/x.op=21 then(EP g x.a.toNat x.v x.op,0,xL)
  else if x.op=22 then(⟨g.r,g.pc+4⟩,0,⟨1,g.r 1,g.r 2,g.r 3,g.r 4,g.r 5,g.r 6⟩)
  else(Rg.upd ⟨g.r,g.pc+4⟩ x.a.toNat (kq x.op (g.r x.b.toNat) (g.r x.c.toNat)),0,xL)
def uD (g:Rg):Option cQ->Option (Int×Int×Bool)
 |none=>none
 |some x=>if(bL g x).2=0\/(bL g x).1.tmod (bL g x).2≠0 then none else some ((bL g x).1,(bL g x).2,decide (x.op=15\/x.op=17))
abbrev jN:=Nat->UInt8
def fK (sz:Nat) (a:Int):Nat->Bool
 |0=>true
 |k+1=>fK sz a k&&(decide (0<=a)&&(decide (a+k<4096)&&(decide (a+k<sz)||decide (3072<=a+k))))
def xG (M:jN) (a:Nat):Int:=tz ((M a).toNat+256*(M (a+1)).toNat+65536*(M (a+2)).toNat+16777216*(M (a+3)).toNat)
def jS (M:jN) (a:Nat) (l:List UInt8):jN:=fun i=>if a<=i/\i<a+l.length then l.getD (i-a) 0 else M i
def vA (n:Int):UInt8:=UInt8.ofNat (n%256).toNat
def j4 (n:Int):List UInt8:=[vA n,vA (n/256),vA (n/65536),vA (n/16777216)]
def qY (M:jN) (a n:Nat):List UInt8:=(List.range n).map fun i=>M (a+i)
structure Ru where
 m:jN
 g:Rg
 used:Nat
def Ru.fails (s:Ru):Oc:=⟨2,0,0,0,0,[],s.used⟩
def qw (n:Int):Bool:=n==2||(n==7||(n==10||(n==13||(n==14||n==15))))
def Rg.reply (g:Rg) (v:Int):Rg:=⟨fun j=>if j=1 then tz v else g.r j,g.pc⟩
def sj (t:rp):Int:=if t.num=9 then t.a1 else if t.num=15 then t.a0 else 0
def qo (sz:Nat) (R:Rs) (t:rp) (s:Ru):Except Oc Ru:=
 if t.num<0\/20<=t.num then .error s.fails
 else if qw t.num=true/\(t.len<0\/128<t.len\/fK sz t.addr t.len.toNat=false)then .error s.fails
 else match R[s.used]? with
  |none=> .error ⟨1,t.num,t.a0,t.a1,t.a2,if qw t.num=true then qY s.m t.addr.toNat t.len.toNat else[],s.used⟩
  |some r=>
   let bk:=r.2.take (sj t).toNat
   if fK sz t.addr bk.length=false then .error ⟨2,0,0,0,0,[],s.used+1⟩
   else .ok ⟨jS s.m t.addr.toNat bk,s.g.reply r.1,s.used+1⟩
def p5 (s:Ru):Option cQ:=eO (s.m s.g.pc.toNat) (s.m (s.g.pc.toNat+1)) (s.m (s.g.pc.toNat+2)) (s.m (s.g.pc.toNat+3))
def kP (sz:Nat) (R:Rs) (s:Ru) (x:Rg×Int×rp) (M:jN):Except Oc Ru:=
 if x.2.2.kind=2 then .error s.fails else if x.2.2.kind=1 then qo sz R x.2.2 ⟨M,x.1,s.used⟩else .ok ⟨M,x.1,s.used⟩
def ie (sz:Nat) (R:Rs) (s:Ru):Except Oc Ru:=
 if s.g.pc.tmod 4≠0\/fK sz s.g.pc 4=false then .error s.fails
 else match uD s.g (p5 s)with
  |none=>kP sz R s (mC s.g 0 (p5 s)) s.m
  |some (a,n,wr)=>
   if fK sz a n.toNat=false then .error s.fails
   else
    let x:=mC s.g (if n=4 then xG s.m a.toNat else(s.m a.toNat).toNat) (p5 s)
    kP sz R s x (if wr=true then jS s.m a.toNat ((j4 x.2.1).take n.toNat)else s.m)
def iy (sz:Nat) (R:Rs):Nat->Ru->Oc
 |0,s=>⟨3,0,0,0,0,[],s.used⟩
 |n+1,s=>match ie sz R s with
  | .error o=>o
  | .ok s'=>iy sz R n s'
theorem AL {sz:Nat} {R:Rs} {k:Nat} {t:rp} {s:Ru} (hk:k<=R.length) (hs:s.used<=k):
  (qo sz (R.take k) t s=qo sz R t s/\(∀s',qo sz R t s= .ok s'->s'.used<=k)/\ ∀o,qo sz R t s= .error o->o.kind≠1)\/
  ((∃o,qo sz (R.take k) t s= .error o/\o.kind=1/\o.used=k)/\(k=R.length\/(∃s',qo sz R t s= .ok s'/\k<s'.used)\/ ∃o,qo sz R t s= .error o/\k<o.used)):=by
 unfold qo;split
 ·exact .inl ⟨rfl,fun s' h=>(by cases h),fun o h=>by cases h;simp[Ru.fails]⟩
 split
 ·exact .inl ⟨rfl,fun s' h=>(by cases h),fun o h=>by cases h;simp[Ru.fails]⟩
 rcases eg s.used k with h|h
 ·rw[List.getElem?_take_of_lt h];rw[aD (by omega)];simp only;left;refine⟨trivial,fun s' e=> ?_,fun o e=> ?_⟩
  ·split at e
   ·cases e
   ·cases e;simp only;omega
  ·split at e
   ·cases e;simp
   ·cases e
 ·have:s.used=k:=by omega
  subst this;right;refine⟨⟨_,by rw[gv (by simp;omega)],rfl,rfl⟩,?_⟩;rcases eg s.used R.length with h2|h2
  ·right;rw[aD h2];simp only;split
   ·exact .inr ⟨_,rfl,by simp⟩
   ·exact .inl ⟨_,rfl,by simp⟩
  ·exact .inl (by omega)
theorem sH {sz:Nat} {R:Rs} {k:Nat} {s:Ru} {x:Rg×Int×rp} {M:jN} (hk:k<=R.length) (hs:s.used<=k):
  (kP sz (R.take k) s x M=kP sz R s x M/\(∀s',kP sz R s x M= .ok s'->s'.used<=k)/\ ∀o,kP sz R s x M= .error o->o.kind≠1)\/
  ((∃o,kP sz (R.take k) s x M= .error o/\o.kind=1/\o.used=k)/\(k=R.length\/(∃s',kP sz R s x M= .ok s'/\k<s'.used)\/ ∃o,kP sz R s x M= .error o/\k<o.used)):=by
 unfold kP;split
 ·exact .inl ⟨rfl,fun s' h=>(by cases h),fun o h=>by cases h;simp[Ru.fails]⟩
 split
 ·exact AL hk hs
 ·exact .inl ⟨rfl,fun s' h=>(by cases h;exact hs),fun o h=>by cases h⟩
theorem yg {sz:Nat} {R:Rs} {k:Nat} {s:Ru} (hk:k<=R.length) (hs:s.used<=k):
  (ie sz (R.take k) s=ie sz R s/\(∀s',ie sz R s= .ok s'->s'.used<=k)/\ ∀o,ie sz R s= .error o->o.kind≠1)\/
  ((∃o,ie sz (R.take k) s= .error o/\o.kind=1/\o.used=k)/\(k=R.length\/(∃s',ie sz R s= .ok s'/\k<s'.used)\/ ∃o,ie sz R s= .error o/\k<o.used)):=by
 unfold ie;split
 ·exact .inl ⟨rfl,fun s' h=>(by cases h),fun o h=>by cases h;simp[Ru.fails]⟩
 split
 ·exact sH hk hs
 ·split
  ·exact .inl ⟨rfl,fun s' h=>(by cases h),fun o h=>by cases h;simp[Ru.fails]⟩
  ·exact sH hk hs
theorem x' {sz:Nat} {R:Rs} {t:rp} {s:Ru}:(∀s',qo sz R t s= .ok s'->s.used<=s'.used)/\ ∀o,qo sz R t s= .error o->s.used<=o.used:=by
 unfold qo;split
 ·exact⟨fun s' h=>(by cases h),fun o h=>by cases h;simp[Ru.fails]⟩
 split
 ·exact⟨fun s' h=>(by cases h),fun o h=>by cases h;simp[Ru.fails]⟩
 split
 ·exact⟨fun s' h=>(by cases h),fun o h=>by cases h;simp⟩
 ·simp only;split
  ·exact⟨fun s' h=>(by cases h),fun o h=>by cases h;simp⟩
  ·exact⟨fun s' h=>(by cases h;simp),fun o h=>by cases h⟩
theorem p4 {sz:Nat} {R:Rs} {s:Ru} {x:Rg×Int×rp} {M:jN}:(∀s',kP sz R s x M= .ok s'->s.used<=s'.used)/\ ∀o,kP sz R s x M= .error o->s.used<=o.used:=by
 unfold kP;split
 ·exact⟨fun s' h=>(by cases h),fun o h=>by cases h;simp[Ru.fails]⟩
 split
 ·exact x' (s:=⟨M,x.1,s.used⟩)
 ·exact⟨fun s' h=>(by cases h;simp),fun o h=>by cases h⟩
theorem pL {sz:Nat} {R:Rs} {s:Ru}:(∀s',ie sz R s= .ok s'->s.used<=s'.used)/\ ∀o,ie sz R s= .error o->s.used<=o.used:=by
 unfold ie;split
 ·exact⟨fun s' h=>(by cases h),fun o h=>by cases h;simp[Ru.fails]⟩
 split
 ·exact p4
 ·split
  ·exact⟨fun s' h=>(by cases h),fun o h=>by cases h;simp[Ru.fails]⟩
  ·exact p4
theorem pF {sz:Nat} {R:Rs}: ∀(n:Nat) (s:Ru),s.used<=(iy sz R n s).used
 |0,s=>ah _
 |n+1,s=>by
  rw[iy];split
  ·rename_i o h;exact pL.2 o h
  ·rename_i s' h;exact ax (pL.1 s' h) (pF n s')
theorem uM {sz:Nat} {R:Rs} {k:Nat} (hk:k<=R.length): ∀(n:Nat) (s:Ru),s.used<=k->
  ((iy sz (R.take k) n s).kind≠1->iy sz (R.take k) n s=iy sz R n s)/\((iy sz (R.take k) n s).kind=1->(iy sz (R.take k) n s).used=k/\(k=R.length\/k<(iy sz R n s).used))
 |0,s,hs=>⟨fun _=>rfl,fun h=>by simp[iy]at h⟩
 |n+1,s,hs=>by
  rcases yg (sz:=sz) hk hs with⟨h1,h2,h3⟩|⟨⟨o,h1,h2,h3⟩,h4⟩
  ·rw[iy,iy,h1]
   cases h:ie sz R s with
   |error o=>exact⟨fun _=>rfl,fun e=>absurd e (h3 o h)⟩
   |ok s'=>exact uM hk n s' (h2 s' h)
  ·rw[iy,h1];refine⟨fun h=>absurd h2 h,fun _=>⟨h3,?_⟩⟩;rcases h4 with h4|⟨s',h4,h5⟩|⟨o',h4,h5⟩
   ·exact .inl h4
   ·right;rw[iy,h4];exact aA h5 (pF n s')
   ·right;rw[iy,h4];exact h5
def wF (code data:List UInt8) (at_:Nat):jN:=fun i=>if i<code.length then code.getD i 0 else if at_<=i/\i<at_+data.length then data.getD (i-at_) 0 else 0
def qu (entry:Int):Rg:=⟨fun j=>if j=15 then 4096 else 0,entry⟩
end
section
open Go.RowKit
def md (g:Rg):Prop:= ∀i,-2147483648<=g.r i/\g.r i<=2147483647
theorem nA {n:Int} {u:Bool} (h:ij n u=true):0<=n/\n<16:=by
 unfold ij at h;simp at h;omega
structure Fd (x:cQ):Prop where
 op1:1<=x.op
 op2:x.op<=22
 a:0<=x.a/\x.a<16
 b:0<=x.b/\x.b<16
 c: -128<=x.c/\x.c<=127
 v: -32768<=x.v/\x.v<=32767
 r:4<=x.op->x.op<=13->0<=x.c/\x.c<16/\x.v=0
theorem BA {x:cQ} (h:em x=true):Fd x:=by
 unfold em at h;simp only[ak,decide_eq_true_eq]at h;obtain⟨⟨h1,h2⟩,⟨⟨h3,h4⟩,h5⟩,h6⟩:=h;have hv: -32768<=x.v/\x.v<=32767:=by unfold D8 at h6;simp at h6;omega
 refine⟨h1,h2,nA h3,nA h4,?_,hv,fun h7 h8=> ?_⟩
 ·unfold Ed at h5;split at h5
  ·simp at h5;omega
  ·have:=nA h5;omega
 ·have hf:(gL x.op).2.2.2.2.2=false/\(gL x.op).2.2.2.2.1=false:=by
   obtain⟨k,a,b,c,v⟩:=x;simp only at h7 h8⊢;rcases(show k=4\/k=5\/k=6\/k=7\/k=8\/k=9\/k=10\/k=11\/k=12\/k=13 by omega)with rfl|rfl|rfl|rfl|rfl|rfl|rfl|rfl|rfl|rfl<;>exact⟨rfl,rfl⟩
  unfold Ed at h5;unfold D8 at h6;rw[hf.1]at h5;rw[hf.2]at h6;have:=nA (by simpa using h5);simp at h6;exact⟨this.1,this.2,h6⟩
theorem oF {b0 b1 b2 b3:UInt8} {x:cQ} (h:eO b0 b1 b2 b3=some x):Fd x:=by
 unfold eO at h;split at h
 ·rename_i hl;injection h with h;subst h;exact BA hl.2.2
 ·cases h
theorem zv (g:Rg) (b o c:Nat) (b0 b1 b2 b3:UInt8) (ld:Int) (w:World) (hF:FT w) (h4:tn w b o b0 b1 b2 b3) (hc:4<=c) (hc2:c<=maxLen) (hR:md g) (hpc:0<=g.pc/\g.pc<=1000000):
  Calls prog 92 #[.agg g.cs, .slice (some ⟨b,o,none⟩) 4 c, .int .i64 ld] w fun e w'=>e= .returned (.tuple #[.agg (mC g ld (eO b0 b1 b2 b3)).1.cs, .int .i64 (mC g ld (eO b0 b1 b2 b3)).2.1,(mC g ld (eO b0 b1 b2 b3)).2.2.val])/\au w w':=by
 cases hd:eO b0 b1 b2 b3 with
 |none=>exact BK g b o c b0 b1 b2 b3 ld w hF h4 hc hc2 hd
 |some x=>
  have hB:=oF hd;have hb:=hR x.b.toNat;unfold mC;simp only;by_cases h1:0<(bL g x).2/\(bL g x).1.tmod (bL g x).2≠0
  ·rw[if_pos h1];have hS:(bL g x).2=1\/(bL g x).2=4:=by
    have h2:=h1.1;unfold bL at h2⊢;split
    ·exact .inr rfl
    ·rename_i h3;rw[if_neg h3]at h2;split
     ·exact .inl rfl
     ·rename_i h4;rw[if_neg h4]at h2;simp at h2
   have hA: -5000000000<=(bL g x).1/\(bL g x).1<=5000000000:=by
    have:=hB.c;unfold bL;split<;>(try split)<;>simp only<;>omega
   exact BL g b o c b0 b1 b2 b3 x _ _ ld w hF h4 hc hc2 hd hB.b.2 hB.b.1 hb (by have:=hB.c;omega) rfl hS hA h1.2
  rw[if_neg h1];obtain⟨k,xa,xb,xc,xv⟩:=x;have hBB:=G hB;obtain⟨b1',b2',⟨a0,a1⟩,⟨q0,q1⟩,hcc,hv,hr⟩:=hB;simp only at*;obtain⟨ra,rfl⟩:=aR a0;obtain⟨rb,rfl⟩:=aR q0;simp only[bP]at*;have ha:ra<16:=by omega
  have hb':rb<16:=by omega
  have hxc: -200<=xc/\xc<=300:=by omega
  by_cases h2:(k=7\/k=8)/\g.r xc.toNat=0
  ·rw[if_pos h2];obtain⟨r0,r1,rfl⟩:=hr (by omega) (by omega);obtain⟨rc,rfl⟩:=aR r0;exact BN g b o c b0 b1 b2 b3 k ra rb rc ld w hF h4 hc hc2 hd h2.1 ha hb' (by omega) hb (by simpa using h2.2)
  rw[if_neg h2];by_cases h3:k=1\/k=2\/k=3\/k=14\/k=16
  ·rw[if_pos h3];refine BI g b o c b0 b1 b2 b3 k ra rb xc xv ld w hF h4 hc hc2 hd h3 ha hb' hpc hb hxc hv fun e=> ?_;subst e;by_cases h5:(g.r rb+xc).tmod 4=0
   ·exact h5
   ·exact absurd ⟨by simp[bL],by simpa[bL]using h5⟩ h1
  rw[if_neg h3];by_cases h4':k=15
  ·subst h4';rw[if_pos rfl]
   have:=u_ g b o c b0 b1 b2 b3 15 ra rb xc xv ld w hF h4 hc hc2 hd (.inl rfl) ha hb' hpc hb hxc hv (fun _=>by
    by_cases h5:(g.r rb+xc).tmod 4=0
    ·exact h5
    ·exact absurd ⟨by simp[bL],by simpa[bL]using h5⟩ h1) (hR ra)
   rwa [if_pos rfl]at this
  rw[if_neg h4'];by_cases h5:k=17
  ·subst h5;rw[if_pos rfl];have:=u_ g b o c b0 b1 b2 b3 17 ra rb xc xv ld w hF h4 hc hc2 hd (.inr rfl) ha hb' hpc hb hxc hv (fun e=>by cases e) (hR ra);rwa [if_neg (by decide)]at this
  rw[if_neg h5];by_cases h6:k=18\/k=19\/k=20\/k=21
  ·rw[if_pos h6];exact BM g b o c b0 b1 b2 b3 k ra rb xc xv ld w hF h4 hc hc2 hd h6 ha hb' hpc hb hxc hv
  rw[if_neg h6];by_cases h7:k=22
  ·subst h7;rw[if_pos rfl];exact BJ g b o c b0 b1 b2 b3 ra rb xc xv ld w hF h4 hc hc2 hd ha hb' hR hpc hb hxc hv
  rw[if_neg h7];obtain⟨r0,r1,rfl⟩:=hr (by omega) (by omega);obtain⟨rc,rfl⟩:=aR r0;exact BO g b o c b0 b1 b2 b3 k ra rb rc ld w hF h4 hc hc2 hd (by omega) ha hb' (by omega) hpc hb fun e h=>h2 ⟨e,by simpa using h⟩
theorem fT (n:Int): -2147483648<=wrap32 n/\wrap32 n<=2147483647:=by
 unfold wrap32;omega
theorem qR (n:Int): -2147483648<=IntKind.i32.wrap n/\IntKind.i32.wrap n<=2147483647:=by
 simp[IntKind.wrap,IntKind.signed,IntKind.bits];omega
theorem xn {k:Nat} {b c:Int} (hb: -2147483648<=b/\b<=2147483647) (hc: -2147483648<=c/\c<=2147483647): -2147483648<=kq k b c/\kq k b c<=2147483647:=by
 unfold kq;split
 ·exact fT _
 ·exact fT _
 ·exact fT _
 ·exact fT _
 ·have h1:=Int.natAbs_tmod b c;have h2:(b.tmod c).natAbs<=b.natAbs:=by rw[h1];exact Nat.mod_le _ _
  rcases Int.le_total 0 b with h|h
  ·have:=Int.tmod_nonneg c h;omega
  ·have:=Int.tmod_nonneg c (a:= -b) (by omega);rw[Int.neg_tmod]at this;omega
 ·exact qR _
 ·exact qR _
 ·exact qR _
 ·split<;>omega
 ·split<;>omega
theorem md.upd {g:Rg} (h:md g) (i:Nat) (p v:Int) (hv: -2147483648<=v/\v<=2147483647):md (Rg.upd ⟨g.r,p⟩ i v):=fun j=>by
 unfold Rg.upd;simp only;split
 ·exact hv
 ·exact h j
theorem zy {g:Rg} {b0 b1 b2 b3:UInt8} {ld:Int} (h:md g) (hpc:0<=g.pc/\g.pc<=1000000):md (mC g ld (eO b0 b1 b2 b3)).1/\ -2147483648<=(mC g ld (eO b0 b1 b2 b3)).2.1/\(mC g ld (eO b0 b1 b2 b3)).2.1<=2147483647:=by
 cases hd:eO b0 b1 b2 b3 with
 |none=>exact⟨h,by simp[mC],by simp[mC]⟩
 |some x=>
  have hB:=oF hd;have hv:=hB.v;unfold mC;simp only;split
  ·exact⟨h,by simp⟩
  split
  ·exact⟨h,by simp⟩
  split
  ·rename_i hk;refine⟨h.upd _ _ _ ?_,by simp⟩;unfold Fl;split
   ·omega
   split
   ·exact fT _
   split
   ·exact fT _
   split
   ·exact fT _
   ·omega
  split
  ·exact⟨h,h _⟩
  split
  ·refine⟨h,?_⟩;simp only;omega
  split
  ·refine⟨?_,by simp⟩;unfold EP;split
   ·exact h
   ·exact h
   ·exact h.upd _ _ _ (by omega)
   ·exact h
  split
  ·exact⟨h,by simp⟩
  ·exact⟨h.upd _ _ _ (xn (h _) (h _)),by simp⟩
end
section
open Go.RowKit
theorem lF {t:TypeId} {g:Nat}: ∀(vs:List Value) (o:Nat) (w:World) (cur:List Value),aP w g t cur.toArray->o+vs.length<=cur.length->
  aP (w.setCells g o vs) g t (splice cur o vs).toArray/\Mv (· =g) w (w.setCells g o vs)/\(w.setCells g o vs).heap.size=w.heap.size
 | [],o,w,cur,h,hl=>by
  refine⟨?_,fA _ _,rfl⟩;simpa[splice,World.setCells]using h
 |v::r,o,w,cur,h,hl=>by
  have h1:aP (w.setCell ⟨g,o,none⟩ v) g t (cur.set o v).toArray:=by
   have:=h.set o v;simpa using this
  obtain⟨h2,h3,h4⟩:=lF r (o+1) (w.setCell ⟨g,o,none⟩ v) (cur.set o v) h1 (by simp at hl⊢;omega);rw[World.setCells];have hm:Mv (fun x=>x=g) w (w.setCell ⟨g,o,none⟩ v):=Mv.set (S:=fun x=>x=g) (fA _ _) (p:=⟨g,o,none⟩) (fun _=>rfl) v;refine⟨?_,hm.trans h3,by rw[h4];simp[World.setCell]⟩;have e:splice (cur.set o v) (o+1) r=splice cur o (v::r):=by
   simp at hl;apply eY;intro i;have hm:min (o+1) cur.length=o+1:=by omega
   have hm2:min o cur.length=o:=by omega
   simp only[splice,e_,aW,bZ,fR,List.length_set,ae,List.getElem?_set,List.getElem?_cons,hm,hm2];repeat' split
   all_goals first|(exfalso;omega)|rfl|(congr 1;omega)
  rw[<-e];exact h2
def jU (M:jN):List Value:=(List.range 4096).map fun i=>oY (M i)
theorem bX (M:jN):(jU M).length=4096:=by simp[jU]
theorem kD (M:jN) (i:Nat) (h:i<4096):(jU M)[i]? =some (oY (M i)):=by
 unfold jU;rw[cV,List.getElem?_range h];rfl
theorem za (M:jN) (T:List Value) (a:Nat) (l:List UInt8) (h:a+l.length<=4096):splice (jU M++T) a (gn l)=jU (jS M a l)++T:=by
 apply eY;intro i;have hb:=ip l;rw[splice,e_,aW,ab,bX,bZ];rw[show min a (4096+T.length)=a by omega];rcases eg i a with hi|hi
 ·rw[if_pos hi,if_pos hi,aX (by rw[bX];omega),aX (by rw[bX];omega),kD _ _ (by omega),kD _ _ (by omega)];unfold jS;rw[if_neg (by omega)]
 rw[if_neg (by omega),e_,hb];by_cases h2:i-a<l.length
 ·rw[if_pos h2,aX (by rw[bX];omega),kD _ _ (by omega)];unfold jS;rw[if_pos (by omega)];unfold gn;rw[cV,aD h2,bI,aD h2];rfl
 ·rw[if_neg h2,fR,show a+l.length+(i-a-l.length)=i by omega];by_cases h3:i<4096
  ·rw[aX (by rw[bX];omega),aX (by rw[bX];omega),kD _ _ h3,kD _ _ h3];unfold jS;rw[if_neg (by omega)]
  ·rw[bx (by rw[bX];omega),bx (by rw[bX];omega),bX,bX]
def mn (sz:Int) (g:Rg) (rv:Value) (ol:List Value):List Value:= .int .i64 sz::(g.cs.toList++(rv::ol))
theorem AK (M:jN) (Y:List Value) (j:Nat):(jU M++Y)[4096+j]? =Y[j]? :=by rw[bx (by rw[bX];exact Nat.le_add_right _ _),bX,Nat.add_sub_cancel_left]
def RB (w:World) (b:Nat) (M:jN) (sz:Int) (g:Rg) (rv:Value) (ol:List Value):Prop:=aP w b 113 (jU M++mn sz g rv ol).toArray
section
variable {w w':World} {b:Nat} {M:jN} {sz:Int} {g:Rg} {rv:Value} {ol:List Value}
theorem RB.ext (h:RB w b M sz g rv ol) (he:au w w'):RB w' b M sz g rv ol:=aP.ext h he
theorem RB.mem (h:RB w b M sz g rv ol) (i:Nat) (hi:i<4096):w.cell? ⟨b,i,none⟩=some (.int .u8 ((M i).toNat:Int)):=by
 rw[aP.cell h,d_,aX (by rw[bX];omega),kD _ _ hi];rfl
theorem RB.tail (h:RB w b M sz g rv ol) (j:Nat):w.cell? ⟨b,4096+j,none⟩=(mn sz g rv ol)[j]? :=by
 rw[aP.cell h,d_,AK]
theorem qx (sz:Int) (g:Rg) (rv:Value) (ol:List Value):(mn sz g rv ol)[0]? =some (.int .i64 sz)/\(mn sz g rv ol)[17]? =some (.int .i64 g.pc)/\(mn sz g rv ol)[18]? =some rv/\ ∀j,(mn sz g rv ol)[19+j]? =ol[j]? :=
 ⟨rfl,rfl,rfl,fun j=>by
  have:mn sz g rv ol=(.int .i64 sz::g.cs.toList++[rv])++ol:=by simp[mn]
  rw[this,bx (by simp[Rg.cs])]
  congr 1
  simp[Rg.cs]⟩
theorem RB.tl (h:RB w b M sz g rv ol) (n j:Nat) (e:n=4096+j):w.cell? ⟨b,n,none⟩=(mn sz g rv ol)[j]? :=by subst e;exact h.tail j
theorem RB.size (h:RB w b M sz g rv ol):w.cell? ⟨b,4096,none⟩=some (.int .i64 sz):=(h.tl _ 0 (by decide)).trans (qx sz g rv ol).1
theorem RB.pc (h:RB w b M sz g rv ol):w.cell? ⟨b,4113,none⟩=some (.int .i64 g.pc):=(h.tl _ 17 (by decide)).trans (qx sz g rv ol).2.1
theorem RB.res (h:RB w b M sz g rv ol):w.cell? ⟨b,4114,none⟩=some rv:=(h.tl _ 18 (by decide)).trans (qx sz g rv ol).2.2.1
theorem RB.out (h:RB w b M sz g rv ol) (j:Nat):w.cell? ⟨b,4115+j,none⟩=ol[j]? :=(h.tl _ (19+j) (by omega)).trans ((qx sz g rv ol).2.2.2 j)
theorem RB.frz (h:RB w b M sz g rv ol) (i:Nat):w.frozen? ⟨b,i,none⟩=false:=aP.frozen h i
theorem RB.at4 (h:RB w b M sz g rv ol) (i:Nat) (hi:i+3<4096):tn w b i (M i) (M (i+1)) (M (i+2)) (M (i+3)):=
 ⟨oX h,h.mem _ (by omega),h.mem _ (by omega),h.mem _ (by omega),h.mem _ (by omega)⟩
theorem RB.regs (h:RB w b M sz g rv ol):w.rangeAt b 4097 g.cs.toList:=fun j v hv=>by
 have hj:j<17:=(List.getElem?_eq_some_iff.1 hv).1;rw[show 4097+j=4096+(j+1) by omega,h.tail,mn,cO,aX (by simpa[Rg.cs]using hj)];exact hv
theorem RB.there (h:RB w b M sz g rv ol) (hl:ol.length=7) (o n:Nat) (ho:o+n<=4122):w.there b o n:=fun j hj=>by
 refine⟨?_,h.frz _⟩;rw[aP.cell h,d_,aD (by simp[bX,mn,Rg.cs,hl];omega)];rfl
theorem RB.put (h:RB w b M sz g rv ol) (a:Nat) (l:List UInt8) (ha:a+l.length<=4096):w'.heap[b]? =some (.cells (splice (jU M++mn sz g rv ol) a (gn l)).toArray 113 (0,0))->RB w' b (jS M a l) sz g rv ol:=fun e=>by
 rw[za _ _ _ _ ha]at e;exact e
theorem tN {α:Type} (A B C B':List α) (n:Nat) (hn:n=A.length) (hB:B'.length=B.length):splice (A++(B++C)) n B'=A++(B'++C):=by
 subst hn;unfold splice;rw[List.take_left,hB,<-aJ A B C,show A.length+B.length=(A++B).length by simp,List.drop_left]
theorem RB.setRegs (h:RB w b M sz g rv ol) (g':Rg):RB (w.setCells b 4097 g'.cs.toList) b M sz g' rv ol/\Mv (· =b) w (w.setCells b 4097 g'.cs.toList)/\(w.setCells b 4097 g'.cs.toList).heap.size=w.heap.size:=by
 obtain⟨h1,h2,h3⟩:=lF (t:=113) g'.cs.toList 4097 w _ h (by simp[bX,mn,Rg.cs];omega);refine⟨?_,h2,h3⟩;have e:splice (jU M++mn sz g rv ol) 4097 g'.cs.toList=jU M++mn sz g' rv ol:=by
  have:=tN (jU M++[.int .i64 sz]) g.cs.toList (rv::ol) g'.cs.toList 4097 (by simp[bX]) (by simp[Rg.cs]);simpa[mn]using this
 rw[e]at h1;exact h1
theorem RB.setTail (h:RB w b M sz g rv ol) (j:Nat) (v:Value):aP (w.setCell ⟨b,4096+j,none⟩ v) b 113 (jU M++(mn sz g rv ol).set j v).toArray:=by
 have:=aP.set h (4096+j) v;rw[cv,jO _ _ (by rw[bX];omega),bX,show 4096+j-4096=j by omega]at this;exact this
theorem RB.setOut (h:RB w b M sz g rv ol) (j:Nat) (v:Value):RB (w.setCell ⟨b,4115+j,none⟩ v) b M sz g rv (ol.set j v):=by
 have:=h.setTail (19+j) v;rw[show 4096+(19+j)=4115+j by omega]at this;have e:(mn sz g rv ol).set (19+j) v=mn sz g rv (ol.set j v):=by
  unfold mn;rw[show 19+j=(18+j)+1 by omega,dv,jO _ _ (by simp[Rg.cs];omega),show 18+j-g.cs.toList.length=j+1 by simp[Rg.cs];omega,dv]
 rw[e]at this;exact this
end
end
end Go.Proofs.YtoedmpgicdekmaaGreatDoor
