/- Parts of the proof. -/
import Derived.Test.YtoedmpgicdekmaaGreatDoorCo41
set_option maxRecDepth 100000
set_option maxHeartbeats 8000000
set_option linter.all false
namespace Go.Proofs.YtoedmpgicdekmaaGreatDoor
open Value renaming int->Za,slice->Zb,agg->Zd,bool->Ze,pointer->Zf,tuple->Zg
open IntKind(i64)
open Go.Proofs.Tryz
section
open Go.RowKit
theorem Ea (n:Int) (a:World):Calls prog 93 #[Za i64 n] a λe w'=>e=.returned (Zb (some ⟨a.heap.size,0,none⟩) 4 4)/\au a w'/\Sl w' (some ⟨a.heap.size,0,none⟩) 4 (lR n):=by
 have d:=G (show lR n=[b8 n,b8 (n/256),b8 (n/65536),b8 (n/16777216)]from rfl);have w0:=iZ n;have w:=iZ (n/256);have u:=iZ (n/65536);have o:=iZ (n/16777216);generalize lR n=Q at*;generalize b8 n=F at*;generalize b8 (n/256)=A at*;generalize b8 (n/65536)=z at*;generalize b8 (n/16777216)=y at*;go_enter func93,ntmps93;go_wp2_with fail;go_ret;exact⟨rfl,aa a _,by rw[d.out];exact sY (aq a _ _)⟩
theorem zS (b z c:Nat) (b0 b1 b2 b3:UInt8) (w:World) (H:wa w b z b0 b1 b2 b3) (aj:4<=c) (ai:c<=maxLen):
  Calls prog 91 #[Zb (some ⟨b,z,none⟩) 4 c] w λe w'=>e=.returned (Zg #[Za i64 (wm (b0.toNat+256*b1.toNat+65536*b2.toNat+16777216*b3.toNat)),Za i64 0])/\au w w':=by
 obtain⟨Z,aa,X,V,R⟩:=H;unfold rz at aa X V R;have ao:=b0.toNat_lt;have an:=b1.toNat_lt;have am:=b2.toNat_lt;have al:=b3.toNat_lt;have F:=G (show ∀a,a=(b0.toNat+256*b1.toNat+65536*b2.toNat+16777216*b3.toNat:Int)->wm (b0.toNat+256*b1.toNat+65536*b2.toNat+16777216*b3.toNat)=wm a from λa ad=>by rw[ad]);generalize wm (b0.toNat+256*b1.toNat+65536*b2.toNat+16777216*b3.toNat)=ay at*;generalize b0.toNat=u at*;generalize b1.toNat=d at*;generalize b2.toNat=o at*;generalize b3.toNat=y at*;have aw:=u32_or8 (u:Int) (d*256) J J J J J;have av:=u32_or16 (u+d*256:Int) (o*65536) J J J J J;have ae:=u32_or24 (u+d*256+o*65536:Int) (y*16777216) J J J J J;have ar:=u32_wrap_id (d*256) J J;have aq:=u32_wrap_id (o*65536) J J;have ap:=u32_wrap_id (y*16777216) J J;have A:=G (F.out (u+d*256+o*65536+y*16777216) J);clear F;obtain⟨a,I⟩: ∃a:Int,(u+d*256+o*65536+y*16777216:Int)=a:=⟨_,rfl⟩
 have r:=xW a;have af:=G (show IntKind.i32.wrap a=wm a from rfl);have ah:IntKind.i64.wrap (wm a)=wm a:=by unfold IL at r;simp[IntKind.wrap,IntKind.signed,IntKind.bits];omega
 rw[I]at ae A;have ag:=af.out;generalize wm a=ax at*;go_enter func91,ntmps91;go_wp2_with fail
 go_quiet (fail)
 go_wp2_with fail;go_ret2;exact⟨by rw[A.out];rfl,(aI w).drewN _⟩
theorem zj (g:Rg) (v:Int):g.reply v=g.upd 1 (wm v):=rfl
theorem zk (g:Rg) (v:Int) (w:World):Calls prog 148 #[Zd g.cs,Za i64 v] w λe w'=>e=.returned (Zd (g.reply v).cs)/\au w w':=by
 rw[zj];have I:=jL g 1 Qd;have A:=G (show IntKind.i32.wrap v=wm v from rfl);have aa:=A.out;generalize wm v=V at*;go_enter func148,ntmps148
 go_upto_region 1 with fail
 generalize a:World.alloc (World.alloc w _) _=W0;obtain⟨d,r,q,s⟩:=IF a;replace d:=G d;clear a;have R:=r.out.cell;have fr:=r.out.frozen
 go_upto_region 2 with fail
 generalize a:World.setCell W0 _ _=W1;obtain⟨X,y,u,o⟩:=uC a;replace r:=y _ _ r;replace q:=u _ _ _ J q;replace d:=o _ d J;rw[qB _ _ 1 Qd]at r;clear a u y o R fr;go_wp2_with (first|(refine ci rfl 109 _ rfl _ rfl _ (dm r) ?_)|(refine wpList_store_row rfl 109 _ _ rfl _ _ rfl rfl _ _ q.out Qb rfl (f8 _) ?_;generalize a:World.setRow W1 _ _=W7;obtain⟨z,_,u,o⟩:=ro a q;replace d:=o _ d J;clear a u o q r));have F:=dm z;refine bodyPost_ret (v:=Zd (g.upd 1 V).cs) ?_ rfl ⟨rfl,d.out⟩;simp[results,results148,asAddr,F,Act.put]
theorem y' (n:Int) (o:World):Calls prog 43 #[Za i64 n] o λe w'=>e=.returned (Zd (ul n).cs)/\au o w':=by
 go_enter func43,ntmps43
 go_upto_region 1 with fail
 generalize a:World.alloc o _=W0;obtain⟨d,q,s⟩:=lC a;replace d:=G d;clear a
 go_upto_region 3 with fail
 generalize a:World.alloc W0 _=W1;obtain⟨u,r,F⟩:=lC a;replace d:=kx d u;replace q:=kb q u;replace r:=show Hid (aO W1 W0.heap.size 109 (ul n).cs)from r;clear a u;go_wp2_with (first|(refine ci rfl 109 _ rfl _ rfl _ (dm r) ?_)|(refine wpList_store_row rfl 109 _ _ rfl _ _ rfl rfl _ _ q.out Qb rfl (f8 _) ?_;generalize a:World.setRow W1 _ _=W7;obtain⟨y,_,z,w⟩:=ro a q;replace d:=w _ d J;clear a z w q r));have A:=dm y;refine bodyPost_ret (v:=Zd (ul n).cs) ?_ rfl ⟨rfl,d.out⟩;simp[results,results43,asAddr,A,Act.put]
def DD:Option (Int×Int×Bool)->Value
 |none=> Zg #[Za i64 0,Za i64 0,Ze false,Ze false]
 |some (a,n,wr)=> Zg #[Za i64 a,Za i64 n,Ze wr,Ze true]
theorem xL (g:Rg) (b ae c:Nat) (b0 b1 b2 b3:UInt8) (R:World) (al:FT R) (an:wa R b ae b0 b1 b2 b3) (ai:4<=c) (ah:c<=maxLen) (Z:oR g):
  Calls prog 90 #[Zd g.cs,Zb (some ⟨b,ae,none⟩) 4 c] R λe w'=>e=.returned (DD (xM g (fW b0 b1 b2 b3)))/\au R w':=by
 have u:=G (λW (aa:au R W)=>fy b ae c b0 b1 b2 b3 W (al.ext aa) (an.ext aa) ai ah);have ao:=G (λx (aa:fW b0 b1 b2 b3=some x)=>qZ aa);clear al an ai ah;generalize fW b0 b1 b2 b3=D at*
 cases D with
 |none=>
  unfold Cv at u;go_enter func90,ntmps90
  go_upto_region 1 with fail
  generalize o:World.alloc R _=W0;obtain⟨a,r,s⟩:=lC o;replace a:=G a;clear o
  go_upto_region 2 with(go_at_call 86;refine(u.out _ a.out).mono ?_;rintro e I ⟨rfl,d⟩;clear u;replace a:=kx a d)
  generalize o:World.alloc I _=W1;obtain⟨d,x,ag⟩:=lC o;replace a:=kx a d;clear o d;go_wp2_with fail;exact bodyPost_ret (v:=DD none) (by simp[results,results90,go_sem,DD]) rfl ⟨rfl,a.out⟩
 |some x=>
  have H:=ao.out x rfl;have X:=G (λW=>ij g x W (Z _) (by have:=H.b;omega) (by have:=H.c;omega));have ar: -5000000000<=(bT g x).1/\(bT g x).1<=5000000000:=by
   have:=H.c;have:=Z x.b.toNat;unfold bT;split<;>(try split)<;>simp only<;>omega
  unfold Cv at u;simp only at u;obtain⟨k,A,z,y,w⟩:=x;have af:=G (show xM g (some ⟨k,A,z,y,w⟩)=if(bT g ⟨k,A,z,y,w⟩).2=0\/(bT g ⟨k,A,z,y,w⟩).1.tmod (bT g ⟨k,A,z,y,w⟩).2≠0 then none else some ((bT g ⟨k,A,z,y,w⟩).1,(bT g ⟨k,A,z,y,w⟩).2,decide (k=15\/k=17))from rfl);have aj:(bT g ⟨k,A,z,y,w⟩).2=if k=14\/k=15 then 4 else if k=16\/k=17 then 1 else 0:=by unfold bT;simp only;split;rfl;split<;>rfl
  generalize xM g (some ⟨k,A,z,y,w⟩)=F at*;generalize bT g ⟨k,A,z,y,w⟩=p at*;obtain⟨PA,PS⟩:=p;simp only at*;obtain⟨T,aw⟩: ∃T,PA.tmod 4=T:=⟨_,rfl⟩
  have t1:=Int.tmod_one PA;unfold dq.val at u X;simp only at u X;clear H ao;have aq:(PS=0/\Hid (F=none))\/(PS=4/\T≠0/\Hid (F=none))\/(PS=4/\T=0/\k=14/\Hid (F=some (PA,4,false)))\/(PS=4/\T=0/\k=15/\Hid (F=some (PA,4,true)))\/(PS=1/\k=16/\Hid (F=some (PA,1,false)))\/(PS=1/\k=17/\Hid (F=some (PA,1,true))):=by
   unfold Hid;have am:=af.out;rw[aj]at am⊢;clear u X af;rcases(show k=14\/k=15\/k=16\/k=17\/(¬(k=14\/k=15)/\ ¬(k=16\/k=17)) by omega)with rfl|rfl|rfl|rfl|⟨h1,h2⟩
   ·by_cases aa:T=0<;>simp_all
   ·by_cases aa:T=0<;>simp_all
   ·simp_all
   ·simp_all
   ·rw[if_neg h1,if_neg h2]at am⊢;simp_all
  clear aj af;rcases aq with⟨rfl,V⟩|⟨rfl,h5,V⟩|⟨rfl,rfl,rfl,V⟩|⟨rfl,rfl,rfl,V⟩|⟨rfl,rfl,V⟩|⟨rfl,rfl,V⟩
  rotate_left 1
  ·have av:(T==0)=false:=Qn.2 h5;clear h5;go_enter func90,ntmps90
   go_upto_region 1 with fail
   generalize o:World.alloc R _=W0;obtain⟨a,r,s⟩:=lC o;replace a:=G a;clear o
   go_upto_region 2 with(go_at_call 86;refine(u.out _ a.out).mono ?_;rintro e I ⟨rfl,d⟩;clear u;replace a:=kx a d;replace r:=kb r d)
   generalize o:World.alloc I _=W1;obtain⟨d,x,ag⟩:=lC o;replace a:=kx a d;replace r:=kb r d;clear o d;have ad:=x.out.cell;go_wp2_with (first|(refine ci rfl 109 _ rfl _ rfl _ (dm r) ?_)|(go_at_call 145;refine(X.out _).mono ?_;rintro e ap ⟨rfl,d⟩;clear X ad;replace a:=kx a d));exact bodyPost_ret (v:=DD F) (by rw[V.out];simp[results,results90,go_sem,DD]) rfl ⟨rfl,a.out⟩
  all_goals
   go_enter func90,ntmps90
   go_upto_region 1 with fail
   generalize o:World.alloc R _=W0;obtain⟨a,r,s⟩:=lC o;replace a:=G a;clear o
   go_upto_region 2 with(go_at_call 86;refine(u.out _ a.out).mono ?_;rintro e I ⟨rfl,d⟩;clear u;replace a:=kx a d;replace r:=kb r d)
   generalize o:World.alloc I _=W1;obtain⟨d,x,ag⟩:=lC o;replace a:=kx a d;replace r:=kb r d;clear o d;have ad:=x.out.cell
   go_upto_region 5 with(first|(refine ci rfl 109 _ rfl _ rfl _ (dm r) ?_)|(go_at_call 145;refine(X.out _).mono ?_;rintro e ap ⟨rfl,d⟩;clear X ad;replace a:=kx a d;replace x:=kb x d;have ad:=x.out.cell))
  rotate_left 4
  ·go_wp2_with fail;exact bodyPost_ret (v:=DD F) (by rw[V.out];simp[results,results90,go_sem,DD]) rfl ⟨rfl,a.out⟩
  all_goals
   go_wp2_with fail
   go_quiet (fail)
   go_wp2_with fail;exact bodyPost_ret (v:=DD F) (by rw[V.out];simp[results,results90,go_sem,DD]) rfl ⟨rfl,a.out.drewN _⟩
theorem Es (a:World) (g i:Nat) (v:Value):Mv (λx=>x=g) a (a.setCell ⟨g,i,none⟩ v):=Mv.set (S:=λx=>x=g) (gG _ _) (p:=⟨g,i,none⟩) (λ_=>rfl) v
def ve (sz:Nat) (a:Int) (k:Nat):Bool:=decide (0<=a)&&(decide (a+k<4096)&&(decide (a+k<sz)||decide (3072<=a+k)))
theorem kG (sz:Nat) (a:Int) (k:Nat):gU sz a (k+1)=(gU sz a k&&ve sz a k):=rfl
theorem zA {sz:Nat} {d:Int} {j n:Nat} (a:gU sz d n=true) (o:j<=n):gU sz d j=true:=by
 induction n with
 |zero=>
  obtain rfl:j=0:=J
  exact a
 |succ n ih=>
  rw[kG,am]at a;rcases fg j (n+1)with h|h
  ·exact ih a.1 J
  ·obtain rfl:j=n+1:=J
   rw[kG,a.1,a.2];rfl
theorem Ev {sz:Nat} {a:Int} {j n:Nat} (h:j<n) (d:ve sz a j=false):gU sz a n=false:=by
 cases e:gU sz a n with
 |false=>rfl
 |true=>
  have:=zA e (show j+1<=n by omega);rw[kG,d,lQ]at this;exact this.symm
theorem j9 {sz:Nat} {a:Int} {n:Nat} (h:gU sz a n=true) (o:0<n):0<=a/\a+n<=4096:=by
 obtain⟨k,rfl⟩: ∃k,n=k+1:=⟨n-1,by omega⟩
 rw[kG,am]at h;have d:=h.2;unfold ve at d;simp only[am,decide_eq_true_eq]at d;omega
theorem yj (b:Nat) (M:lO) (sz:Nat) (g:Rg) (A:Value) (F:List Value) (a:Int) (n:Nat) (ha: -10000000000<=a/\a<=10000000000) (ad:n<=9223372036854775807) (H:sz<=4096) (d:World) (o:RB d b M sz g A F):
  Calls prog 88 #[Zf (some ⟨b,0,none⟩),Za i64 a,Za i64 n] d λe w'=>e=.returned (Ze (gU sz a n))/\d=w':=by
 have ah:=o.size;have w:=G (λj=> @Ev sz a j n);have z:=G (kG sz a);have V:=G (show gU sz a 0=true from rfl)
 have X:=G (λj (o:gU sz a j=true)=>show j<=4096 by
  rcases j with _|j
  ·omega
  ·have:=j9 o J;omega)
 generalize gU sz a=L at*;obtain⟨a0,ai⟩:=ha;clear o;go_enter func88,ntmps88
 go_upto_region 2 with fail
 go_loopw [11] (λv wr=> ∃j:Nat,v=Za i64 (j:Int)/\j<=n/\d=wr/\Hid (L j=true)) (λv _=>n-(intOf v).toNat)
 case atStart=>exact⟨0,rfl,aD _,rfl,V⟩
 case round=>
  obtain⟨j,rfl,af,rfl,u⟩:=hrel;have ae:=X.out j u.out;by_cases hlt:j<n
  ·have R:(j:Int)<n:=J
   have I:IntKind.i64.wrap (a+j)=a+j:=Qc
   have aa:IntKind.i64.wrap (4096-(j:Int))=4096-j:=Qc
   by_cases h1:a<0
   ·go_wp2_with fail;go_ret;exact⟨by rw[w.out j hlt (by simp[ve];omega)];rfl,rfl⟩
   have ag: ¬a<0:=h1;by_cases h2:4096-(j:Int)<=a
   ·go_wp2_with fail;go_ret;exact⟨by rw[w.out j hlt (by simp[ve];omega)];rfl,rfl⟩
   by_cases h3:(sz:Int)<=a+j
   ·by_cases h4:a+(j:Int)<3072
    ·go_wp2_with fail;go_ret;exact⟨by rw[w.out j hlt (by simp[ve];omega)];rfl,rfl⟩
    ·have y:=G (show L (j+1)=true by rw[z.out,u.out];simp[ve];omega);go_wp2_with fail;go_roundw
     case rel=>exact⟨j+1,by go_num,by omega,by trivial,y⟩
     case measure=>simp[intOf];omega
   ·have y:=G (show L (j+1)=true by rw[z.out,u.out];simp[ve];omega);go_wp2_with fail;go_roundw
    case rel=>exact⟨j+1,by go_num,by omega,by trivial,y⟩
    case measure=>simp[intOf];omega
  ·obtain rfl:j=n:=J
   have R: ¬(j:Int)<j:=J
   go_wp2_with fail;go_ret;exact⟨by rw[u.out];rfl,rfl⟩
theorem yo (b:Nat) (M:lO) (sz:Int) (g:Rg) (o:Value) (V F A z y w u:Value) (k:Int) (d:World) (a:RB d b M sz g o [V,F,A,z,y,w,u]):
  Calls prog 89 #[Zf (some ⟨b,0,none⟩),Za i64 k] d λe w'=>e=.returned (Ze false)/\RB w' b M sz g o [Za i64 k,F,A,z,y,w,u]/\Mv (· =b) d w':=by
 have X:=a.out 0;have aa:=a.frz 4115;have R:=G (a.setOut 0 (Za i64 k));simp only[bx,cP,b7]at X R;clear a;go_enter func89,ntmps89;go_wp2_with fail;go_ret;exact⟨rfl,R.out,Es _ _ _ _⟩
theorem H_ (g q k:Nat) (u:q<4096) (w:q+k<=4096) (a:World):(Instr.sliceAt 111 (Zf (some ⟨g,0,none⟩)) (some (Za i64 (q:Int))) (some (Za i64 ((q:Int)+k))) none).run prog a=.ok (Zb (some ⟨g,q,none⟩) k (4096-q)) a:=by
 have h:prog.underlying 111=some (.array (prog.arrayLen 111) (prog.elem 111)):=Qb
 have d:prog.arrayLen 111=4096:=Qb
 have o:(sizeOf (prog.elem 111)).run prog a=.ok 1 a:=Qb
 rw[run_sliceAt_array_lh a 111 ⟨g,0,none⟩ h i64 i64 (q:Int) ((q:Int)+k) J J (by rw[d];omega),o,d];simp only[Result.andThen_ok,slicedAt,bY];rw[if_neg J,Addr.add_lit,show((q:Int)+k).toNat=q+k by omega];simp
theorem H9 (g q:Nat) (u:q<4096) (a:World):(Instr.sliceAt 111 (Zf (some ⟨g,0,none⟩)) (some (Za i64 (q:Int))) none none).run prog a=.ok (Zb (some ⟨g,q,none⟩) (4096-q) (4096-q)) a:=by
 have h:prog.underlying 111=some (.array (prog.arrayLen 111) (prog.elem 111)):=Qb
 have d:prog.arrayLen 111=4096:=Qb
 have o:(sizeOf (prog.elem 111)).run prog a=.ok 1 a:=Qb
 rw[run_sliceAt_array_l a 111 ⟨g,0,none⟩ h i64 (q:Int) J (by rw[d];omega),o,d];simp only[Result.andThen_ok,slicedAt,bY];rw[if_neg J,Addr.add_lit];simp
theorem Gu {d:World} {P:Nat->Prop} {w:Option Addr} {n c:Nat} {a:Rs} (o:wk d P (Zb w n c) a) (i:Nat) (hi:i<a.length):
  ∃b h B u,w=some ⟨b,h,none⟩/\P b/\b<d.heap.size/\n<=c/\c<=maxLen/\d.cell? ⟨b,h+i*2,none⟩=some (Za i64 a[i].1)/\d.cell? ⟨b,h+i*2+1,none⟩=some (Zb B a[i].2.length u)/\Sl d B u a[i].2/\ ∀b2 G,B=some ⟨b2,G,none⟩->a[i].2≠ []->P b2:=by
 obtain⟨I,c',R,o⟩:=o;injection R with aa X V;subst aa X V;rcases o with o|⟨h1,h2,b,h,ha,hP,hb,da,dc,hc⟩
 ·rw[o]at hi;simp at hi
 ·obtain⟨F,A,z,y⟩:=hc i hi;exact⟨b,h,_,_,ha,hP,hb,h1,h2,F,A,z,y⟩
theorem wk.form {h:World} {P:Nat->Prop} {v:Value} {a:Rs} (o:wk h P v a): ∃d n c,v=Zb d n c/\a.length=n:=by
 obtain⟨d,c,rfl,_⟩:=o;exact⟨_,_,_,rfl,rfl⟩
def oz (u:Nat):List Value:=[Za i64 0,Za i64 0,Za i64 0,Za i64 0,Za i64 0,Zb none 0 0,Za i64 (u:Int)]
def JE (o:Oc) (A:Option Addr) (c:Nat):List Value:=[Za i64 o.kind,Za i64 o.call,Za i64 o.a0,Za i64 o.a1,Za i64 o.a2,Zb A o.data.length c,Za i64 (o.used:Int)]
def RO (w:World) (b:Nat) (sz:Nat) (rv:Value) (o:Oc):Prop:= ∃M g A c,RB w b M sz g rv (JE o A c)/\Sl w A c o.data
def Hd (b sz:Nat) (rv:Value):Except Oc Ru->Ending->World->Prop
 | .ok s,e,w=>e=.returned (Ze true)/\RB w b s.m sz s.g rv (oz s.used)
 | .error o,e,w=>e=.returned (Ze false)/\RO w b sz rv o
theorem iu {a:World} {b:Nat} {M:lO} {sz:Nat} {g:Rg} {h:Value} {d:Nat} {r:Except Oc Ru} (o:RB a b M sz g h [Za i64 2,Za i64 0,Za i64 0,Za i64 0,Za i64 0,Zb none 0 0,Za i64 (d:Int)]) (e:r=.error ⟨2,0,0,0,0,[],d⟩):Hd b sz h r (.returned (Ze false)) a:=by
 subst e;exact⟨rfl,M,g,none,0,o,ep a⟩
structure Hb (t:xN):Prop where
 n: -2147483648<=t.num/\t.num<=2147483647
 a0: -2147483648<=t.a0/\t.a0<=2147483647
 a1: -2147483648<=t.a1/\t.a1<=2147483647
 a2: -2147483648<=t.a2/\t.a2<=2147483647
 ad: -2147483648<=t.addr/\t.addr<=2147483647
 ln: -2147483648<=t.len/\t.len<=2147483647
theorem lb (M:lO) (a n:Nat):(tX M a n).length=n:=by simp[tX]
theorem RB.cut {d:World} {b:Nat} {M:lO} {sz:Int} {g:Rg} {o:Value} {u:List Value} (h:RB d b M sz g o u) (a n c:Nat) (ha:a+n<=4096) (y:n<=c) (w:c<=maxLen):Sl d (some ⟨b,a,none⟩) c (tX M a n):=
 ⟨by rw[lb];exact y,w,λe=>(by cases e),.inr ⟨b,a,rfl,ry h,λi hi=>by
  rw[lb]at hi;rw[h.mem _ J]
  simp[tX]⟩⟩
theorem yI {P:Program} {a:World} {d:Oper} {w:Act} {K:Act->World->Prop} {Q:Exit->Act->World->Prop} {t e:TypeId} (ad:mo P t e) (s x:Operand)
  (X:d.op=.call {callee:=.builtin .append,args:= #[s,x],argTypes:= #[t,t]}) (R:w.eval s=Zb none 0 0)
  (z:Option Addr) (y:Nat) (m:List UInt8) {n:Nat} (aa:m.length=n) (G:w.eval x=Zb z n y) (V:Sl a z y m) (H:n<=70368744177664)
  (ag: ∀u cap' w',Sl w' u cap' m->au a w'->(∀b d,u=some ⟨b,d,none⟩->a.heap.size<=b)->K (w.put d.dst (Zb u n cap')) w'):d.wp P w a K Q:=by
 subst aa;obtain⟨u,cap',w',A,F,o,h⟩:=pJ (P:=P) ad d.type a.heap.size (Zb none 0 0) [] (im.nil_ a _ e) z y m V (by simpa using H) (ah _);simp only[ai,aE,List.nil_append]at A F h;have ae:au a w':=⟨o.os,o.tape,o.output,o.size,λk I=>o.block k I (by simp[Value.ownBlock])⟩
 unfold Oper.wp execOp;simp only[X,resolve,invoke,builtin,Sem.run_bind,Sem.run_pure,Result.andThen_ok,dx,bL,dz,R,G,A];refine ag u cap' w' F.sl.2 ae λb d af=> ?_;subst af;rcases h with h|h
 ·simp[Value.ownBlock]at h
 ·simp only[Value.ownBlock]at h;have:b=a.heap.size:=by simpa using h
  omega
theorem Gp {d:World} {h:Option Addr} {c:Nat} {l:List UInt8} (a:Sl d h c l) (n:Nat):Sl d h c (l.take n):=by
 refine⟨by have:=a.le;simp;omega,a.max,a.nil,?_⟩;rcases a.rd with rfl|⟨b,o,ha,hb,hc⟩
 ·exact .inl Qe
 ·exact .inr ⟨b,o,ha,hb,λi hi=>by rw[bG]at hi;rw[hc i J,j5]⟩
theorem uP (M:lO) (a:Nat):lH M a []=M:=by
 funext i;unfold lH;rw[if_neg Qe]
theorem kR {d:World} {ops:Array Oper} {rest:List Oper} {u:Oper} {A:Act} {Q:Exit->Act->World->Prop} (X:u.guard=none) (z s:Operand)
  (R:u.op=.call {callee:=.builtin .copy,args:= #[z,s],argTypes:= #[36,36]}) {b:Nat} {M:lO} {sz:Int} {g:Rg} {h:Value} {o:List Value} (y:RB d b M sz g h o) (q a H:Nat) (aa:A.eval z=Zb (some ⟨b,q,none⟩) a H)
  (ad:Option Addr) (c n:Nat) (m:List UInt8) (af:m.length=n) (G:A.eval s=Zb ad n c) (aj:Sl d ad c m) (ae:q+(m.take a).length<=4096)
  (k: ∀w' v,RB w' b (lH M q (m.take a)) sz g h o->Mv (λk=>k=b) d w'->w'.heap.size=d.heap.size->wpList prog ops Q rest (A.put u.dst v) w'):wpList prog ops Q (u::rest) A d:=by
 have F:(prog.info? 5).map (·.size)=some 1:=Qb
 subst af;by_cases h0:m.take a=[]
 ·refine wpList_copy_nothing X z s _ _ R 5 underlying36 F _ _ _ _ _ _ aa G ?_ ?_
  ·have:=congrArg List.length h0;rw[bG]at this;simp only[ai]at this;show min m.length a=0;omega
  ·exact k d _ (by rw[h0,uP];exact y) (gG _ _) rfl
 ·rcases aj.rd with rfl|⟨b1,o1,rfl,_,hc⟩
  ·exact absurd Qe h0
  have I:=jT (m.take a);refine wpList_copy_own X z s _ _ R 5 underlying36 F b q a H ⟨b1,o1,none⟩ m.length c aa G _ _ y (iM (m.take a)) (by rw[I,bG];exact Nat.min_comm _ _) (λj v w=> ?_) (by rw[I];simp[cA,oZ]at ae⊢;omega) (λv w=> ?_) ?_
  ·have V:j<(m.take a).length:=by have:=(List.getElem?_eq_some_iff.1 w).1;simpa[iM]using this
   have ah:j<m.length:=by rw[bG]at V;omega
   rw[Addr.add_lit,hc j ah,<-w];simp only[iM,dC];rw[aH V];simp[j5,rz]
  ·obtain⟨x,_,rfl⟩:=List.mem_map.1 w;rfl
  ·refine k _ _ ?_ ?_ Qe
   ·have Z:=setRow_heap d b _ ((lK M++oZ sz g h o).toArray.toList.take q++(iM (m.take a)++(lK M++oZ sz g h o).toArray.toList.drop (q+(iM (m.take a)).length))).toArray _ _ y;refine RB.put y q (m.take a) J (Z.trans ?_);simp only[splice]
   ·exact⟨rfl,rfl,rfl,by simp,λk _ ag=>setRow_other d b k _ ag⟩
theorem nT {a:World} {ops:Array Oper} {rest:List Oper} {d:Oper} {o:Act} {Q:Exit->Act->World->Prop} (X:d.guard=none) (u s:Operand)
  (R:d.op=.call {callee:=.builtin .copy,args:= #[u,s],argTypes:= #[36,36]}) {b:Nat} {M:lO} {sz:Int} {g:Rg} {y:Value} {z:List Value} (H:RB a b M sz g y z) (q h F:Nat) (aa:o.eval u=Zb (some ⟨b,q,none⟩) h F)
  (w:Option Addr) (c n:Nat) (m:List UInt8) (V:m.length=n) (G:o.eval s=Zb w n c) (I:Sl a w c m) (ae:n<=h) (ad:q+n<=4096)
  (k: ∀w' v,RB w' b (lH M q m) sz g y z->Mv (λk=>k=b) a w'->w'.heap.size=a.heap.size->wpList prog ops Q rest (o.put d.dst v) w'):wpList prog ops Q (d::rest) o a:=by
 have A:m.take h=m:=bQ J;refine kR X u s R H q h F aa w c n m V G I (by rw[A];omega) ?_;rw[A];exact k
theorem GU (a:World) (n:Nat) (d:Obj) (k i:Nat) (h:k<a.heap.size):((a.drewN n).alloc d).cell? ⟨k,i,none⟩=a.cell? ⟨k,i,none⟩:=(((aI a).drewN n).alloc' d).cell k i h
theorem yp (a:World) (n:Nat):(a.drewN n).heap.size=a.heap.size:=rfl
theorem Cu (a:World) (n:Nat) (d:Array Value) (t:TypeId) (i:Nat):((a.drewN n).alloc (.cells d t)).cell? ⟨a.heap.size,i,none⟩=d[i]? /\((a.drewN n).alloc (.cells d t)).frozen? ⟨a.heap.size,i,none⟩=false:=by
 have h:=aq (a.drewN n) t d;rw[yp]at h;exact⟨h.cell i,h.frozen i⟩
theorem GT {a W:World} {n:Nat} {t:TypeId} {u o h d:Value} (e:(((a.drewN n).alloc (.cells #[u,o] t)).setCell ⟨a.heap.size,0,none⟩ h).setCell ⟨a.heap.size,1,none⟩ d=W):au a W/\Hid (aO W a.heap.size t #[h,d])/\Hid (W.heap.size=a.heap.size+1):=by
 subst e;have w:=aq (a.drewN n) t #[u,o];rw[yp]at w;refine⟨(((((aI a).drewN n).alloc' _).set (p:=⟨a.heap.size,0,none⟩) (ah _) h).set (p:=⟨a.heap.size,1,none⟩) (ah _) d),(w.set 0 h).set 1 d,?_⟩;simp[Hid,World.setCell]
theorem RB.used {d:World} {b:Nat} {M:lO} {sz:Int} {g:Rg} {h:Value} {a:Nat} (o:RB d b M sz g h (oz a)):RB (d.setCell ⟨b,4121,none⟩ (Za i64 ((a:Int)+1))) b M sz g h (oz (a+1)):=o.setOut 6 (Za i64 ((a:Int)+1))
theorem Cp {P:Program} {a:World} {d:Oper} {h:Operand->Value} (ty:TypeId) (x:Operand) (u:d.op=.load ty x) (g i:Nat) (o:h x=Zf (some ⟨g,i,none⟩)) (v:Value) (w:(loadVar ty ⟨g,i,none⟩).run P a=.ok v a):(execOp h d).run P a=.ok (.value v) a:=by
 simp[execOp,u,Instr.loadAt,Instr.sureAddr,o,w,Result.andThen]
theorem In {a:World} {b:Nat} {M:lO} {sz:Int} {g:Rg} {d:Value} {h:List Value} (o:RB a b M sz g d h):(loadVar 109 ⟨b,4097,none⟩).run prog a=.ok (Zd g.cs) a:=
 run_loadVar_mid a b 4097 109 g.cs.toList _ o.regs underlying109 rfl Qb
theorem D_ {a W:World} {b n:Nat} {M:lO} {sz:Int} {g:Rg} {y A X V R G F z w u o h d:Value} (I:RB a b M sz g y [A,X,V,R,G,F,z])
  (e:(((((a.drewN n).setCell ⟨b,4116,none⟩ w).setCell ⟨b,4117,none⟩ u).setCell ⟨b,4118,none⟩ o).setCell ⟨b,4119,none⟩ h).setCell ⟨b,4120,none⟩ d=W):Hid (RB W b M sz g y [A,w,u,o,h,d,z])/\Hid (Mv (λk=>k=b) a W):=by
 subst e;have aa:RB (a.drewN n) b M sz g y [A,X,V,R,G,F,z]:=I.ext ((aI a).drewN n);exact⟨((((aa.setOut 1 w).setOut 2 u).setOut 3 o).setOut 4 h).setOut 5 d,(cT ((aI a).drewN n)).trans ((((Es _ _ _ _).trans (Es _ _ _ _)).trans (Es _ _ _ _)).trans (Es _ _ _ _)|>.trans (Es _ _ _ _))⟩
theorem wI (b:Nat) (M:lO) (sz:Nat) (g:Rg) (aM:Value) (d:Nat) (H:Rs) (t:xN) (ag:World) (o:RB ag b M sz g aM (oz d)) (cn:wk ag (λk=>k≠b) aM H) (cd:d<=H.length) (ch:H.length<=1000000000) (bv:sz<=4096) (c4:Hb t):
  Calls prog 94 #[Zf (some ⟨b,0,none⟩),t.val] ag λe w'=>Mv (λk=>k=b) ag w'/\Hd b sz aM (FF sz H t ⟨M,g,d⟩) e w':=by
 obtain⟨aV,a,a0,ap,aG,z,u⟩:=t;obtain⟨⟨cZ,cY⟩,⟨cM,cL⟩,⟨cK,cJ⟩,⟨cQ,cO⟩,⟨de,dd⟩,⟨l0,c0⟩⟩:=c4;simp only at cZ cY cM cL cK cJ cQ cO de dd l0 c0
 have Z:=G (show FF sz H ⟨aV,a,a0,ap,aG,z,u⟩ ⟨M,g,d⟩=if a<0\/20<=a then .error ⟨2,0,0,0,0,[],d⟩
  else if ti a=true/\(u<0\/128<u\/gU sz z u.toNat=false)then .error ⟨2,0,0,0,0,[],d⟩
  else match H[d]? with
   |none=> .error ⟨1,a,a0,ap,aG,if ti a=true then tX M z.toNat u.toNat else[],d⟩
   |some r=>if gU sz z (r.2.take (u_ ⟨aV,a,a0,ap,aG,z,u⟩).toNat).length=false then .error ⟨2,0,0,0,0,[],d+1⟩
    else .ok ⟨lH M z.toNat (r.2.take (u_ ⟨aV,a,a0,ap,aG,z,u⟩).toNat),g.reply r.1,d+1⟩from rfl)
 have aL:=G (show u_ ⟨aV,a,a0,ap,aG,z,u⟩=if a=9 then ap else if a=15 then a0 else 0 from rfl);generalize FF sz H ⟨aV,a,a0,ap,aG,z,u⟩ ⟨M,g,d⟩=ar at*;generalize u_ ⟨aV,a,a0,ap,aG,z,u⟩=an at*;unfold xN.val;simp only;have V:=G (fun(W:World) (M:lO) (g:Rg) (cI:Int) o1 o2 o3 o4 o5 (d:Nat) (bI:RB W b M sz g aM [Za i64 0,o1,o2,o3,o4,o5,Za i64 (d:Int)])=>yo b M sz g aM _ _ _ _ _ _ _ cI W bI);have ax:=G (fun(W:World) (M:lO) (g:Rg) ol (n:Nat) (bz:n<=9223372036854775807) (bI:RB W b M sz g aM ol)=>yj b M sz g aM ol z n J bz bv W bI);have bQ:=G o;have cE:=G cn;have bR:=G cd;have bV:=G ch;have dJ:=G bv;clear o cn cd ch bv;go_enter func94,ntmps94
 go_upto_region 1 with fail
 generalize am:World.alloc ag _=W0;obtain⟨bf,bc,cU⟩:=lC am;replace bf:=G bf;have dE:b<ag.heap.size:=ry bQ.out;have aA:=G (bQ.out.ext bf.out);have aK:=G (show Mv (λk=>k=b) ag W0 from cT bf.out);have cD:=G (cE.out.keep (aK.out.keepP λk o _=>o));clear am bQ cE;have aj:=bc.out.cell;by_cases hbad:a<0\/20<=a
 ·have X:=G (show ar=.error ⟨2,0,0,0,0,[],d⟩ by rw[Z.out,if_pos hbad]);clear Z ax;rcases hbad with bz|bz
  ·go_wp2_with (go_at_call 89;refine(V.out _ _ _ 2 _ _ _ _ _ _ aA.out).mono ?_;rintro e F ⟨rfl,w,A⟩;have I:=G w;have af:=G A;clear V aj w A);go_ret;exact⟨aK.out.trans af.out,iu I.out X.out⟩
  ·have c7: ¬a<0:=J
   go_wp2_with (go_at_call 89;refine(V.out _ _ _ 2 _ _ _ _ _ _ aA.out).mono ?_;rintro e F ⟨rfl,w,A⟩;have I:=G w;have af:=G A;clear V aj w A);go_ret;exact⟨aK.out.trans af.out,iu I.out X.out⟩
 rw[if_neg hbad]at Z;have c7: ¬a<0:=J
 have dx: ¬20<=a:=J
 clear hbad;obtain⟨aS,bM⟩: ∃aS,(if ti a=true then tX M z.toNat u.toNat else[])=aS:=⟨_,rfl⟩
 have a8:=G bM;rw[bM]at Z;obtain⟨aR,bh⟩: ∃aR:Prop,(ti a=true/\(u<0\/128<u\/gU sz z u.toNat=false))=aR:=⟨_,rfl⟩
 have aX:=G bh;have bk:=G (show aR->ar=.error ⟨2,0,0,0,0,[],d⟩from λo=>by rw[Z.out,if_pos (by rw[bh];exact o)]);have bj:=G (fun(o: ¬aR)=>show ar=_ from by rw[Z.out,if_neg (by rw[bh];exact o)]);clear bM bh Z
 go_upto_block 0 with fail
 go_cut [5]from 19 to 62 (λcS bb=> ∃ba c br,cS=Zb ba br c/\Hid (Sl bb ba c aS)/\Hid (br=aS.length)/\Hid (au W0 bb)/\Hid (¬aR)/\Hid (∀b1 ao,ba=some ⟨b1,ao,none⟩->b1≠b))
 case first=>
  by_cases hr:ti a=true
  ·have av:=G (show aS=tX M z.toNat u.toNat from by rw[<-a8.out,if_pos hr]);have az:=G (show(u<0\/128<u\/gU sz z u.toNat=false)->ar=.error ⟨2,0,0,0,0,[],d⟩from λo=>bk.out (by rw[<-aX.out];exact⟨hr,o⟩));have aQ:=G (show ¬(u<0\/128<u\/gU sz z u.toNat=false)-> ¬aR from λo e=>by rw[<-aX.out]at e;exact o e.2);have R:a=2\/a=7\/a=10\/a=13\/a=14\/a=15:=by simpa[ti]using hr
   clear bk bj hr a8 aX;by_cases a6:u<0
   ·have X:=G (az.out (.inl a6));clear az aQ ax aL;rcases R with rfl|rfl|rfl|rfl|rfl|rfl;all_goals
     go_wp2_with (go_at_call 89;refine(V.out _ _ _ 2 _ _ _ _ _ _ aA.out).mono ?_;rintro e F ⟨rfl,w,A⟩;have I:=G w;have af:=G A;clear V aj w A);go_ret;exact⟨aK.out.trans af.out,iu I.out X.out⟩
   by_cases g2:128<u
   ·have X:=G (az.out (.inr (.inl g2)));clear az aQ ax aL;rcases R with rfl|rfl|rfl|rfl|rfl|rfl;all_goals
     go_wp2_with (go_at_call 89;refine(V.out _ _ _ 2 _ _ _ _ _ _ aA.out).mono ?_;rintro e F ⟨rfl,w,A⟩;have I:=G w;have af:=G A;clear V aj w A);go_ret;exact⟨aK.out.trans af.out,iu I.out X.out⟩
   obtain⟨k,rfl⟩:=a_ (show 0<=u by omega);have ad:=G (ax.out W0 M g _ k J aA.out);simp only[bY]at az aQ av;obtain⟨aq,aO⟩: ∃aq,gU sz z k=aq:=⟨_,rfl⟩
   have ay:=G (fun(o:aq=true) (R:0<k)=>j9 (aO.trans o) R);rw[aO]at az aQ ad;clear aO ax
   cases aq with
   |false=>
    have X:=G (az.out (.inr (.inr rfl)));clear az aQ aL ay;rcases R with rfl|rfl|rfl|rfl|rfl|rfl;all_goals
     go_wp2_with (first|(go_at_call 88;refine ad.out.mono ?_;rintro e F ⟨rfl,rfl⟩;clear ad)|(go_at_call 89;refine(V.out _ _ _ 2 _ _ _ _ _ _ aA.out).mono ?_;rintro e F ⟨rfl,w,A⟩;have I:=G w;have af:=G A;clear V aj w A));go_ret;exact⟨aK.out.trans af.out,iu I.out X.out⟩
   |true=>
    have aP:=G (aQ.out Qg);clear az aQ V;by_cases k0:k=0
    ·subst k0;clear ay;rcases R with rfl|rfl|rfl|rfl|rfl|rfl;all_goals
      go_wp2_with (go_at_call 88;refine ad.out.mono ?_;rintro e F ⟨rfl,rfl⟩;clear ad)
      go_meet
      exact⟨none,0,0,rfl,G (by rw[av.out];exact ep _),G (by rw[av.out];rfl),G (aI _),aP,G λ_ _ e=>(by cases e)⟩
    ·obtain⟨bu,ao⟩:=ay.out rfl J;obtain⟨q,rfl⟩:=a_ bu;have da:(0:Int)<k:=J
     have ds:IntKind.i64.wrap ((q:Int)+k)=q+k:=Qc
     simp only[bY]at av;clear ay;rcases R with rfl|rfl|rfl|rfl|rfl|rfl;all_goals
      go_upto_region 14 with(go_at_call 88;refine ad.out.mono ?_;rintro e F ⟨rfl,rfl⟩;clear ad)
      refine aB 12 1 [] mixed Qb trivial ?_;have ce:=λag=>H_ b q k J J ag;repeat (refine sx ?_ (λF aa=> ?_) ?_;rotate_left;(focus have aj:=(bc.out.ext aa.un).cell;clear aa;go_simp<;>with_reducible rfl);simp only[bE,bD,bC,bB,bA])
      intro bp aE aN;have ai:=G aE.un;clear aN aE;simp only[ae,aw];refine wpList_plain rfl λK bg=> ?_;refine yI bt _ _ rfl rfl _ _ (tX M q k) (n:=k) (lb _ _ _) rfl ((aA.out.ext ai.out).cut q k _ J J Qh) J λdm c' b5 a2 bL dc=>bg _ _ ?_;clear bg;go_wp2_with fail
      go_meet
      exact⟨dm,c',k,rfl,G (by rw[av.out];exact a2),G (by rw[av.out,lb]),G (ai.out.trans bL),aP,G λb1 ao e=>by have:=dc b1 ao e;have:=dr ai.out;have:=cU.out;omega⟩
  ·have av:=G (show aS=[]from by rw[<-a8.out,if_neg hr]);have aP:=G (show ¬aR from λo=>by rw[<-aX.out]at o;exact hr o.1);have R:a≠2/\a≠7/\a≠10/\a≠13/\a≠14/\a≠15:=by simpa[ti]using hr
   obtain⟨cc,cb,ca,b9,b8,b7⟩:=R;replace cc:(a==2)=false:=Qn.2 cc;replace cb:(a==7)=false:=Qn.2 cb;replace ca:(a==10)=false:=Qn.2 ca;replace b9:(a==13)=false:=Qn.2 b9;replace b8:(a==14)=false:=Qn.2 b8;replace b7:(a==15)=false:=Qn.2 b7;clear bk bj hr a8 aX V ax;go_wp2_with fail
   go_meet
   exact⟨none,0,0,rfl,G (by rw[av.out];exact ep _),G (by rw[av.out];rfl),G (aI _),aP,G λ_ _ e=>(by cases e)⟩
 case rest=>
  obtain⟨ba,c,br,rfl,cx,cw,a7,aP,b4⟩:=hcut;have Z:=G (bj.out aP.out);clear bk bj aP aX a8;have al:=G (aA.out.ext a7.out);have bT:=G (aK.out.trans (cT (S:=λk=>k=b) a7.out));have bm:=G (cD.out.keep ((cT (S:=λk=>k=b) a7.out).keepP λk o _=>o));have aY:=kb bc a7.out;clear aA aK cD a7 bc aj;obtain⟨dK,bd,dH,rfl,bx⟩:=bm.out.form;have bP:=G bx;rw[bx]at bV bR;have du:=bR.out;have aj:=aY.out.cell;have aW:=al.out.out 6;have cq:=al.out.res;have dw:b≠ag.heap.size:=J
  have c6:ag.heap.size≠b:=J
  have bi:=al.out.frz;simp only[Nat.reduceAdd,oz,dh,cP]at aW;clear bx;by_cases hun:d=bd
  ·have cm:H[d]? =none:=lE (by rw[bP.out,hun];exact ah _);have X:=G (show ar=.error ⟨1,a,a0,ap,aG,aS,d⟩ by rw[Z.out,cm]);have c3:((d:Int)==(bd:Int))=true:=by rw[hun];simp
   clear Z cm aL ax bm bV bR bP hun;go_wp2_with fail
   go_quiet (fail)
   go_upto_region 16 with fail
   have c1:=al.out.out 1;have c2:=al.out.out 2;have cu:=al.out.out 3;have ct:=al.out.out 4;have cr:=al.out.out 5;simp only[Nat.reduceAdd,oz,dh,cP]at c1 c2 cu ct cr;go_region
   go_upto_region 17 with fail
   generalize am:World.setCell _ _ _=W5;obtain⟨a9,bn⟩:=D_ al.out am;have bl:=G (cx.out.keepP (bn.out.keepP (P:=λk=>k≠b) λk o _=>o) λb1 ao e _=>b4.out b1 ao e);clear am c1 c2 cu ct cr aW cq aj bi aY;go_wp2_with (go_at_call 89;refine(V.out _ _ _ 1 _ _ _ _ _ _ a9.out).mono ?_;rintro e F ⟨rfl,w,A⟩;have I:=G w;have af:=G A;clear V w A);go_ret;refine⟨(bT.out.trans bn.out).trans af.out,?_⟩;rw[X.out];exact⟨rfl,_,_,ba,c,by have:=I.out;rw[cw.out]at this;exact this,bl.out.keepP (af.out.keepP (P:=λk=>k≠b) λk o _=>o) λb1 ao e _=>b4.out b1 ao e⟩
  ·have bF:d<H.length:=by rw[bP.out];omega
   obtain⟨b1,ao,B,cp,rfl,dG,w,dD,dC,e0,bN,bJ,bK⟩:=Gu bm.out d bF;have cl:H[d]? =some H[d]:=aH bF;have aJ:=G (show ar=if gU sz z (H[d].2.take an.toNat).length=false then .error ⟨2,0,0,0,0,[],d+1⟩else .ok ⟨lH M z.toNat (H[d].2.take an.toNat),g.reply H[d].1,d+1⟩ by rw[Z.out,cl]);generalize H[d]=r at*;obtain⟨aT,b6⟩:=r;simp only at e0 bN bJ bK aJ;obtain⟨aZ,bw⟩: ∃aZ,b6.length=aZ:=⟨_,rfl⟩
   have cv:=G bw;rw[bw]at bN;have cB:=G bJ;have cF:=G bK;have c3:((d:Int)==(bd:Int))=false:=Qn.2 J;have dt:(d:Int)<(bd:Int):=J
   have dF:b<wc.heap.size:=ry al.out;have dv:ag.heap.size<wc.heap.size:=aY.out.lt;clear Z bm cl bF bJ bK bw cx cw b4;go_wp2_with fail
   go_quiet (fail)
   go_upto_region 18 with fail
   have cX:=GU wc;have cW:=λn bO t i=>(Cu wc n bO t i).1;have cV:=λn bO t i=>(Cu wc n bO t i).2;go_region
   go_upto_region 19 with fail
   generalize am:World.setCell _ _ _=W1;obtain⟨a5,aD,dp⟩:=GT am;have I:=G (al.out.ext a5);have af:=G (bT.out.trans (cT (S:=λk=>k=b) a5));have aC:=kb aY a5;have cA:=G (cB.out.ext a5);clear am a5 al bT aY cB cX cW cV e0 bN aj aW cq bi w;have aW:=I.out.out 6;have bi:=I.out.frz 4121;have dq:IntKind.i64.wrap ((d:Int)+1)=d+1:=by have:=bV.out;simp[IntKind.wrap,IntKind.signed,IntKind.bits];omega
   simp only[Nat.reduceAdd,oz,dh,cP]at aW
   go_upto_region 20 with fail
   have bZ:=G (I.out.used);have cH:=G (af.out.trans (Es W1 b 4121 (Za i64 ((d:Int)+1))));have cz:=G (cA.out.keepP ((Es W1 b 4121 (Za i64 ((d:Int)+1))).keepP (P:=λk=>k≠b) λk o _=>o) cF.out);generalize am:World.setCell W1 _ _=dI at*;obtain⟨_,_,a2,_⟩:=uC am;replace aC:=a2 _ _ _ J aC;replace aD:=a2 _ _ _ J aD;clear am a2 aW bi I af cA;have cC:=G (λW=>zk g aT W);refine aB 10 7 [(7,λv=>v=Zd (g.reply aT).cs,λ_ _=>True)] mixed Qb ⟨λ_ _ _ _ _=>trivial,trivial⟩ ?_
   iterate 4 (refine sx ?_ (λF aa=> ?_) ?_;rotate_left;(focus (clear aa;go_simp<;>with_reducible rfl));simp only[bE,bD,bC,bB,bA])
   refine sx ?_ (λF aa=> ?_) ?_;rotate_left;(focus rw[Cp 109 _ rfl b 4097 rfl _ (In (bZ.out.ext aa.un))]);simp only[bE,bD,bC,bB,bA];repeat (refine sx ?_ (λF aa=> ?_) ?_;rotate_left;(focus have bq:=(aD.out.ext aa.un).cell;clear aa;go_simp<;>with_reducible rfl);simp only[bE,bD,bC,bB,bA])
   refine so (λb5 aa aN K bg=> ?_) ?_
   ·clear aN aa;go_simp;refine(cC.out b5).mono ?_;rintro e cN ⟨rfl,bL⟩;exact bg _ _ bL rfl trivial
   rintro _ rfl;simp only[bE,bD,bC,bB,bA];repeat (refine sx ?_ (λF aa=> ?_) ?_;rotate_left;(focus clear aa;go_simp<;>with_reducible rfl);simp only[bE,bD,bC,bB,bA])
   intro bp aE aN;have ai:=G aE.un;clear aN aE;simp only[ae,aw];have bX:=G (bZ.out.ext ai.out);have cG:=G (cH.out.trans (cT (S:=λk=>k=b) ai.out));have bl:=G (cz.out.ext ai.out);replace aC:=kb aC ai.out;replace aD:=kb aD ai.out;clear ai bZ cH cz cC;refine wpList_store_mid rfl 109 _ _ rfl b 4097 (g.reply aT).cs rfl rfl (bX.out.there rfl 4097 _ (show 4097+17<=4122 by decide)) Qb (f8 _) ?_;obtain⟨co,a4,_⟩:=bX.out.setRegs (g.reply aT);have bo:=G co;have bU:=G (cG.out.trans a4);have bS:=G (bl.out.keepP (a4.keepP (P:=λk=>k≠b) λk o _=>o) cF.out);replace aC:=G (pE a4 aC.out c6);replace aD:=G (pE a4 aD.out (show ¬wc.heap.size=b by omega));generalize World.setCells bp b 4097 (g.reply aT).cs.toList=df at*;generalize g.reply aT=a6 at*;clear co a4 bX cG bl;have aj:=aC.out.cell;have bq:=aD.out.cell
   go_upto_block 1 with fail
   go_cut [7]from 123 to 134 (λcR bb=>cR=Za i64 an/\bb=df)
   case first=>
    by_cases aU:a=9
    ·have a3:=G (show an=ap by rw[aL.out,if_pos aU]);subst aU;go_wp2_with fail
     go_meet
     exact⟨by rw[a3.out],rfl⟩
    ·by_cases a1:a=15
     ·have a3:=G (show an=a0 by rw[aL.out,if_neg aU,if_pos a1]);subst a1;go_wp2_with fail
      go_meet
      exact⟨by rw[a3.out],rfl⟩
     ·have a3:=G (show an=0 by rw[aL.out,if_neg aU,if_neg a1]);replace aU:(a==9)=false:=Qn.2 aU;replace a1:(a==15)=false:=Qn.2 a1;go_wp2_with fail
      go_meet
      exact⟨by rw[a3.out],rfl⟩
   case rest=>
    obtain⟨rfl,rfl⟩:=hcut;have cy:=G (Gp bS.out an.toNat);obtain⟨aF,bH⟩: ∃aF,b6.take an.toNat=aF:=⟨_,rfl⟩
    obtain⟨k,R⟩: ∃k,aF.length=k:=⟨_,rfl⟩
    have ci:k=min an.toNat aZ:=by rw[<-R,<-bH,bG,cv.out]
    rw[bH]at aJ cy;rw[R]at aJ;obtain⟨be,cg⟩: ∃be,an.toNat=be:=⟨_,rfl⟩
    rw[cg]at ci;have dy:max an 0=(be:Int):=J
    have dz:min (be:Int) aZ=(k:Int):=J
    have cj:=bS.out.le;rw[cv.out]at cj;have dB:k<=cp:=J
    have dA:k<=aZ:=J
    have c9:k<=9223372036854775807:=by have c8:=bS.out.max;simp[maxLen]at c8;omega
    have dg:=G R;have ad:=G (ax.out _ M a6 _ k c9 bo.out);have bW:=G (show aF=[]\/0<k from by rcases aF with _|⟨x,y⟩;exact .inl rfl;right;rw[<-R];simp);clear bH R ci cg aL ax cj;obtain⟨aq,aO⟩: ∃aq,gU sz z k=aq:=⟨_,rfl⟩
    have ay:=G (fun(o:aq=true) (R:0<k)=>j9 (aO.trans o) R);rw[aO]at aJ ad;clear aO
    cases aq with
    |false=>
     have X:=G (show ar=.error ⟨2,0,0,0,0,[],d+1⟩ by rw[aJ.out,if_pos rfl]);clear aJ ay;go_wp2_with (first|(go_at_call 88;refine ad.out.mono ?_;rintro e F ⟨rfl,rfl⟩;clear ad aj bq)|(go_at_call 89;refine(V.out _ _ _ 2 _ _ _ _ _ _ bo.out).mono ?_;rintro e F ⟨rfl,w,A⟩;have a9:=G w;have bn:=G A;clear V w A));go_ret;exact⟨bU.out.trans bn.out,iu a9.out X.out⟩
    |true=>
     have X:=G (show ar=.ok ⟨lH M z.toNat aF,a6,d+1⟩ by rw[aJ.out,if_neg Qd]);clear aJ V;by_cases k0:0<k
     ·obtain⟨bu,ao⟩:=ay.out rfl k0;obtain⟨q,rfl⟩:=a_ bu;simp only[bY]at X;have da:(0:Int)<k:=J
      clear ay bW
      go_upto_region 31 with(go_at_call 88;refine ad.out.mono ?_;rintro e F ⟨rfl,rfl⟩;clear ad)
      have ce:=λag=>H9 b q J ag;refine aB 7 1 [] mixed Qb trivial ?_;repeat (refine sx ?_ (λF aa=> ?_) ?_;rotate_left;(focus have aj:=(aC.out.ext aa.un).cell;clear aa;go_simp<;>with_reducible rfl);simp only[bE,bD,bC,bB,bA])
      intro bp aE aN;have ai:=G aE.un;clear aN aE;simp only[ae,aw];have a9:=G (bo.out.ext ai.out);have di:=G (cy.out.ext ai.out);refine nT rfl _ _ rfl a9.out q _ _ rfl B cp k aF dg.out rfl di.out J J λcN dn ck cf c5=> ?_;have dl:=G ck;have dj:=G ((bU.out.trans (cT (S:=λk=>k=b) ai.out)).trans cf);clear ck cf c5 aj bq ce;go_wp2_with fail;go_ret;refine⟨dj.out,?_⟩;rw[X.out];exact⟨rfl,dl.out⟩
     ·have db:aF=[]:=by rcases bW.out with o|o;exact o;omega
      obtain rfl:k=0:=J
      have dk:=G (show ar=.ok ⟨M,a6,d+1⟩ by rw[X.out,db,uP]);clear ay bW X;go_wp2_with (go_at_call 88;refine ad.out.mono ?_;rintro e F ⟨rfl,rfl⟩;clear ad);go_ret;refine⟨bU.out,?_⟩;rw[dk.out];exact⟨rfl,bo.out⟩
theorem FW {o:World} {b:Nat} {M:lO} {sz:Int} {g:Rg} {d:Value} {h:List Value} (w:FT o) (y:RB o b M sz g d h):0≠b:=by
 rintro rfl;obtain⟨t,fr,u⟩:=w;have a:some _=some _:=u.symm.trans y;injection a with a;injection a with a _ _;have F:=congrArg Array.size a;have A:Au.size=138:=rfl;have z:(lK M++oZ sz g d h).toArray.size=4096+(oZ sz g d h).length:=by rw[gd,H,cA]
 omega
theorem FT.mv {a w':World} {b:Nat} (u:FT a) (o:0≠b) (h:Mv (λk=>k=b) a w'):FT w':=by
 obtain⟨t,fr,d⟩:=u;exact⟨t,fr,(h.block _ (Array.getElem?_eq_some_iff.1 d).1 o).trans d⟩
def yl (s:Ru) (D:Option dq):Int:=match xM s.g D with
 |none=>0
 |some (a,n,_)=>if n=4 then Az s.m a.toNat else(s.m a.toNat).toNat
def FU (s:Ru) (D:Option dq) (v:Int):lO:=match xM s.g D with
 |none=>s.m
 |some (a,n,wr)=>if wr=true then lH s.m a.toNat ((lR v).take n.toNat)else s.m
def Fq (sz:Nat) (s:Ru) (D:Option dq):Bool:=match xM s.g D with
 |none=>false
 |some (a,n,_)=> !(gU sz a n.toNat)
theorem x_ (sz:Nat) (a:Rs) (s:Ru):qu sz a s=if s.g.pc.tmod 4≠0\/gU sz s.g.pc 4=false then .error s.fails
  else if Fq sz s (sr s)=true then .error s.fails
  else Cs sz a s (po s.g (yl s (sr s)) (sr s)) (FU s (sr s) (po s.g (yl s (sr s)) (sr s)).2.1):=by
 unfold qu Fq yl FU;split
 ·rfl
 ·cases h:xM s.g (sr s)with
  |none=>simp
  |some p=>
   obtain⟨d,n,wr⟩:=p;simp only
   cases h2:gU sz d n.toNat<;>simp
theorem IH {g:Rg} {b0 b1 b2 b3:UInt8} {d n:Int} {wr:Bool} (o:oR g) (a:xM g (fW b0 b1 b2 b3)=some (d,n,wr)):(-5000000000<=d/\d<=5000000000)/\(n=1\/n=4):=by
 cases hd:fW b0 b1 b2 b3 with
 |none=>rw[hd]at a;simp[xM]at a
 |some x=>
  have w:=(qZ hd).c;have u:=o x.b.toNat;rw[hd]at a;unfold xM at a;simp only at a;split at a
  ·cases a
  ·rename_i y;simp only[io,kk]at a;obtain⟨rfl,rfl,_⟩:=a;have h:(-5000000000<=(bT g x).1/\(bT g x).1<=5000000000)/\((bT g x).2=0\/(bT g x).2=1\/(bT g x).2=4):=by
    unfold bT;split
    ·exact⟨by simp only;omega,by simp⟩
    ·split
     ·exact⟨by simp only;omega,by simp⟩
     ·simp
   exact⟨h.1,by omega⟩
theorem J2 {a W:World} {c1 c2 c:Array Value} {t1 t2:TypeId} (y:((a.alloc (.cells c1 t1)).alloc (.cells c2 t2)).setRow a.heap.size c=W):au a W/\Hid (aO W a.heap.size t1 c)/\Hid (aO W (a.heap.size+1) t2 c2)/\Hid (W.heap.size=a.heap.size+1+1):=by
 obtain⟨w,b1,b2,s⟩:=IF (w:=a) (c1:=c1) (t1:=t1) (c2:=c2) (t2:=t2) rfl;obtain⟨u,o,h,d⟩:=ro y b1;exact⟨(d a (G w) (ah _)).out,u,h _ _ _ J b2,G (o.out.trans s.out)⟩
theorem Cq {g:Rg} {ld:Int} {D:Option dq} (a:oR g):(po g ld D).2.2.kind=0\/((po g ld D).2.2.kind=1/\Hb (po g ld D).2.2)\/(po g ld D).2.2.kind=2:=by
 unfold po;split
 ·exact .inr (.inr rfl)
 repeat' split
 all_goals first|exact .inl rfl|exact .inr (.inr rfl)|exact .inr (.inl ⟨rfl,a 1,a 2,a 3,a 4,a 5,a 6⟩)
theorem IG (d:Option (Int×Int×Bool)): ∃w u h o,DD d=Zg #[Za i64 w,Za i64 u,Ze h,Ze o]/\d=(if o=true then some (w,u,h)else none)/\(o=false->h=false):=by
 rcases d with _|⟨a,n,wr⟩
 ·exact⟨0,0,false,false,rfl,rfl,λ_=>rfl⟩
 ·exact⟨a,n,wr,true,rfl,rfl,λy=>(by cases y)⟩
theorem Bb (b:Nat) (M:lO) (sz:Nat) (g:Rg) (R:Value) (d:Nat) (ah:Rs) (u:World) (ag:RB u b M sz g R (oz d)) (bF:FT u) (a9:wk u (λk=>k≠b) R ah) (b8:d<=ah.length) (ca:ah.length<=1000000000) (a6:sz<=4096) (cf:oR g) (cJ: -5000000000<=g.pc/\g.pc<=5000000000):
  Calls prog 45 #[Zf (some ⟨b,0,none⟩)] u λe w'=>Mv (λk=>k=b) u w'/\Hd b sz R (qu sz ah ⟨M,g,d⟩) e w':=by
 have c9:=FW bF ag;have w:=G (x_ sz ah ⟨M,g,d⟩);have cX:=G (show Ru.fails ⟨M,g,d⟩=⟨2,0,0,0,0,[],d⟩from rfl);simp only[cX.out]at w;generalize qu sz ah ⟨M,g,d⟩=ay at*;have ai:=G (fun(W:World) (M:lO) (g:Rg) (cx:Int) o1 o2 o3 o4 o5 (d:Nat) (an:RB W b M sz g R [Za i64 0,o1,o2,o3,o4,o5,Za i64 (d:Int)])=>yo b M sz g R _ _ _ _ _ _ _ cx W an);have aO:=G (fun(W:World) (M:lO) (g:Rg) ol (a:Int) (n:Nat) (ha: -10000000000<=a/\a<=10000000000) (aC:n<=9223372036854775807) (an:RB W b M sz g R ol)=>yj b M sz g R ol a n ha aC a6 W an);have ao:=G ag;have co:=G bF;have cV:=G a9;have ap:=G (fun(W:World) (M:lO) (g:Rg) (t:xN) (an:RB W b M sz g R (oz d)) (a9:wk W (λk=>k≠b) R ah) (bp:Hb t)=>wI b M sz g R d ah t W an a9 b8 ca a6 bp);have a4:=G cf;have dc:=G a6;clear ag bF a9 a6 cf b8 ca;obtain⟨cH,cG⟩:=cJ;obtain⟨T,bv⟩: ∃T,g.pc.tmod 4=T:=⟨_,rfl⟩
 have ba:=ao.out.pc;have aF:=G (aO.out u M g _ g.pc 4 J Qd ao.out);obtain⟨z,I⟩: ∃z,gU sz g.pc 4=z:=⟨_,rfl⟩
 have aG:=G (fun(ag:z=true)=>j9 (I.trans ag) (by decide:0<4));simp only[bv,I]at w aF;have dd:=G bv;obtain⟨bZ,br⟩: ∃bZ,g.pc=bZ:=⟨_,rfl⟩
 have bM:=G br;rw[br]at ba aF bv aG cH cG;clear I br;go_enter func45,ntmps45;by_cases hT0:T=0
 rotate_left
 ·have aa:=G (show ay=.error ⟨2,0,0,0,0,[],d⟩ by rw[w.out,if_pos (.inl hT0)]);have c8:(T !=0)=true:=by simp[hT0]
  clear w aF aO ap;go_wp2_with (go_at_call 89;refine(ai.out _ _ _ 2 _ _ _ _ _ _ ao.out).mono ?_;rintro e ar ⟨rfl,X,V⟩;have aj:=G X;have F:=G V;clear ai ba X V);go_ret;exact⟨F.out,iu aj.out aa.out⟩
 subst hT0
 cases z with
 |false=>
  have aa:=G (show ay=.error ⟨2,0,0,0,0,[],d⟩ by rw[w.out,if_pos (.inr rfl)]);clear w aO ap;go_wp2_with (first|(go_at_call 88;refine aF.out.mono ?_;rintro e ar ⟨rfl,rfl⟩;clear aF)|(go_at_call 89;refine(ai.out _ _ _ 2 _ _ _ _ _ _ ao.out).mono ?_;rintro e ar ⟨rfl,X,V⟩;have aj:=G X;have F:=G V;clear ai ba X V));go_ret;exact⟨F.out,iu aj.out aa.out⟩
 |true=>
  obtain⟨cI,cZ⟩:=aG.out rfl;obtain⟨q,rfl⟩:=a_ cI;rw[if_neg Qe]at w;clear aG;have c6:q+4<=4096:=J
  have c5:IntKind.i64.wrap ((q:Int)+4)=q+4:=Qc
  have a8: ∀u,(Instr.sliceAt 111 (Zf (some ⟨b,0,none⟩)) (some (Za i64 (q:Int))) (some (Za i64 ((q:Int)+4))) none).run prog u=.ok (Zb (some ⟨b,q,none⟩) 4 (4096-q)) u:=λu=>H_ b q 4 J J u;have ct:=G (show sr ⟨M,g,d⟩=fW (M q) (M (q+1)) (M (q+2)) (M (q+3)) by unfold sr;simp only[bM.out,bY]);rw[ct.out]at w;have cp:=G (λW ld (bu:FT W) (an:RB W b M sz g R (oz d))=>Co g b q (4096-q) (M q) (M (q+1)) (M (q+2)) (M (q+3)) ld W bu (an.at4 q J) J Qh a4.out (by rw[bM.out];omega));have cl:=G (λld=>Cr (b0:=M q) (b1:=M (q+1)) (b2:=M (q+2)) (b3:=M (q+3)) (ld:=ld) a4.out (by rw[bM.out];omega));have bj:=G (λa n wr=> @IH g (M q) (M (q+1)) (M (q+2)) (M (q+3)) a n wr a4.out);obtain⟨ax,aL,a2,bb,b7,cd,cc⟩:=IG (xM g (fW (M q) (M (q+1)) (M (q+2)) (M (q+3))));have cw:=G (λW (bu:FT W) (an:RB W b M sz g R (oz d))=>by have:=xL g b q (4096-q) (M q) (M (q+1)) (M (q+2)) (M (q+3)) W bu (an.at4 q J) J Qh a4.out;rw[b7]at this;exact this);generalize fW (M q) (M (q+1)) (M (q+2)) (M (q+3))=D at*;have aI:=G cd;have cY:=G cc;clear ct b7 cd cc
  go_upto_region 5 with(go_at_call 88;refine aF.out.mono ?_;rintro e ar ⟨rfl,rfl⟩;clear aF)
  go_upto_region 7 with(first|(refine wpList_load_mid rfl 109 _ rfl b 4097 rfl g.cs.toList _ ao.out.regs underlying109 rfl Qb ?_)|(go_at_call 90;refine(cw.out _ co.out ao.out).mono ?_;rintro e ar ⟨rfl,y⟩;have aH:=G y;clear cw y))
  have aj:=G (ao.out.ext aH.out);clear ba a8
  go_upto_if 47 with fail
  go_cut [9]from 48 to 74 (λcF aJ=> ∃ld,cF=Za i64 ld/\Hid (ld=yl ⟨M,g,d⟩ D)/\Hid (au u aJ)/\Hid (Fq sz ⟨M,g,d⟩ D=false))
  case first=>
   cases bb with
   |false=>
    have H:=G (show xM g D=none by rw[aI.out];rfl);go_wp2_with fail
    go_meet
    exact⟨0,rfl,G (by unfold yl;simp only;rw[H.out]),aH,G (by unfold Fq;simp only;rw[H.out])⟩
   |true=>
    have H:=G (show xM g D=some (ax,aL,a2) by rw[aI.out];rfl);obtain⟨⟨a0,bc⟩,aC⟩:=bj.out ax aL a2 H.out;have be:=G (λn aC=>aO.out ar M g _ ax n J aC aj.out);clear aI bj aO;rcases aC with rfl|rfl
    ·have F:=G (be.out 1 Qd);obtain⟨z,I⟩: ∃z,gU sz ax 1=z:=⟨_,rfl⟩
     have aG:=G (fun(ag:z=true)=>j9 (I.trans ag) (by decide:0<1));have a5:=G (show Fq sz ⟨M,g,d⟩ D= !z by unfold Fq;simp only;rw[H.out];simp only[Int.reduceToNat,I]);rw[I]at F;clear I be
     cases z with
     |false=>
      have aa:=G (show ay=.error ⟨2,0,0,0,0,[],d⟩ by rw[w.out,if_pos (by rw[a5.out];rfl)]);clear w ap;go_wp2_with (first|(go_at_call 88;refine F.out.mono ?_;rintro e aK ⟨rfl,rfl⟩;clear F)|(go_at_call 89;refine(ai.out _ _ _ 2 _ _ _ _ _ _ aj.out).mono ?_;rintro e aK ⟨rfl,X,V⟩;have aA:=G X;have bO:=G V;clear ai X V));go_ret;exact⟨(cT aH.out).trans bO.out,iu aA.out aa.out⟩
     |true=>
      obtain⟨aS,b4⟩:=aG.out rfl;obtain⟨a,rfl⟩:=a_ aS;have cL:(a:Int)<4096:=J
      have ce:a<4096:=J
      have cN:=aj.out.mem a ce;have bP:=G (show yl ⟨M,g,d⟩ D=((M a).toNat:Int) by unfold yl;simp only;rw[H.out];simp);have cR:=G (show wrap64 ((M a).toNat:Int)=(M a).toNat by have:=(M a).toNat_lt;unfold wrap64;omega);go_wp2_with (go_at_call 88;refine F.out.mono ?_;rintro e aK ⟨rfl,rfl⟩;clear F)
      go_meet
      exact⟨_,rfl,G (cR.out.trans bP.out.symm),aH,G (by rw[a5.out];rfl)⟩
    ·have F:=G (be.out 4 Qd);obtain⟨z,I⟩: ∃z,gU sz ax 4=z:=⟨_,rfl⟩
     have aG:=G (fun(ag:z=true)=>j9 (I.trans ag) (by decide:0<4));have a5:=G (show Fq sz ⟨M,g,d⟩ D= !z by unfold Fq;simp only;rw[H.out];simp only[Int.reduceToNat,I]);rw[I]at F;clear I be
     cases z with
     |false=>
      have aa:=G (show ay=.error ⟨2,0,0,0,0,[],d⟩ by rw[w.out,if_pos (by rw[a5.out];rfl)]);clear w ap;go_wp2_with (first|(go_at_call 88;refine F.out.mono ?_;rintro e aK ⟨rfl,rfl⟩;clear F)|(go_at_call 89;refine(ai.out _ _ _ 2 _ _ _ _ _ _ aj.out).mono ?_;rintro e aK ⟨rfl,X,V⟩;have aA:=G X;have bO:=G V;clear ai X V));go_ret;exact⟨(cT aH.out).trans bO.out,iu aA.out aa.out⟩
     |true=>
      obtain⟨aS,b4⟩:=aG.out rfl;obtain⟨a,rfl⟩:=a_ aS;have cL:(a:Int)<4096:=J
      have ce:a+4<=4096:=J
      have cN:=aj.out.mem a J;have b6:IntKind.i64.wrap ((a:Int)+4)=a+4:=Qc
      have a8: ∀u,(Instr.sliceAt 111 (Zf (some ⟨b,0,none⟩)) (some (Za i64 (a:Int))) (some (Za i64 ((a:Int)+4))) none).run prog u=.ok (Zb (some ⟨b,a,none⟩) 4 (4096-a)) u:=λu=>H_ b a 4 J J u;have bP:=G (show yl ⟨M,g,d⟩ D=Az M a by unfold yl;simp only;rw[H.out];simp);have ch:=G (zS b a (4096-a) (M a) (M (a+1)) (M (a+2)) (M (a+3)) ar (aj.out.at4 a J) J Qh);go_wp2_with (first|(go_at_call 88;refine F.out.mono ?_;rintro e aK ⟨rfl,rfl⟩;clear F)|(go_at_call 91;refine ch.out.mono ?_;rintro e aK ⟨rfl,y⟩;have aP:=G y;clear ch y))
      go_meet
      exact⟨_,rfl,G bP.out.symm,G (aH.out.trans aP.out),G (by rw[a5.out];rfl)⟩
  case rest=>
   obtain⟨ld,rfl,cm,aP,bT⟩:=hcut;rw[bT.out,if_neg Qd,<-cm.out]at w;obtain⟨cj,cS⟩:=cl.out ld;have cW:=G cj;have aA:=G (ao.out.ext aP.out);have cn:=G (co.out.ext aP.out);have bK:=G (cp.out wc ld cn.out aA.out);have aM:=G (Cq (ld:=ld) (D:=D) a4.out);generalize po g ld D=cO at*;obtain⟨Z,ad,t⟩:=cO;obtain⟨av,bn,a0,bc,bJ,bI,bo⟩:=t;simp only[xN.val]at w bK aM cW cS;clear cj cl cp cm aH aj aO;have c7:b<u.heap.size:=ry ao.out
   go_upto_region 14 with(first|(refine wpList_load_mid rfl 109 _ rfl b 4097 rfl g.cs.toList _ aA.out.regs underlying109 rfl Qb ?_)|(go_at_call 92;refine bK.out.mono ?_;rintro e cB ⟨rfl,y⟩;have bS:=G (aP.out.trans y);have cv:=G (aA.out.ext y);have c4:=dr bS.out;clear bK y aA aP cn)|(refine wpList_store_row rfl 109 _ _ rfl _ _ rfl rfl _ _ ((aq cB _ _).alloc _) Qb rfl (f8 _) ?_;generalize a1:World.setRow _ _ _=W5;obtain⟨bH,bX,bm,_⟩:=J2 a1;have cu:=G (cv.out.ext bH);have cr:=G (bS.out.trans bH);clear a1 bH cv bS)|(refine wpList_store_row rfl 181 _ _ rfl _ _ rfl rfl _ _ bm.out Qb rfl Qk ?_;generalize a1:World.setRow W5 _ _=W6;obtain⟨bl,_,af,b5⟩:=ro a1 bm;have bW:=af _ _ _ J bX;have bR:=b5 _ cr J;have bi:=G (show RB W6 b M sz g R (oz d)from af _ _ _ J cu);clear a1 af b5 cr cu bX bm))
   have a3:=bl.out.cell;have cq:=G (show Cs sz ah ⟨M,g,d⟩ (Z,ad,⟨av,bn,a0,bc,bJ,bI,bo⟩) (FU ⟨M,g,d⟩ D ad)=if av=2 then .error ⟨2,0,0,0,0,[],d⟩else if av=1 then FF sz ah ⟨av,bn,a0,bc,bJ,bI,bo⟩ ⟨FU ⟨M,g,d⟩ D ad,Z,d⟩else .ok ⟨FU ⟨M,g,d⟩ D ad,Z,d⟩from rfl);rw[cq.out]at w;clear cq;by_cases hk2:av=2
   ·subst hk2;have aa:=G (show ay=.error ⟨2,0,0,0,0,[],d⟩ by rw[w.out,if_pos rfl]);clear w ap aM;go_wp2_with (go_at_call 89;refine(ai.out _ _ _ 2 _ _ _ _ _ _ bi.out).mono ?_;rintro e bU ⟨rfl,X,V⟩;have aR:=G X;have bh:=G V;clear ai a3 X V);go_ret;exact⟨(cT bR.out).trans bh.out,iu aR.out aa.out⟩
   rw[if_neg hk2]at w;have cK:(av==2)=false:=Qn.2 hk2;have c3:=dr bR.out
   go_upto_region 17 with(first|(refine ci rfl 109 _ rfl _ rfl _ (dm bW) ?_)|(refine wpList_store_mid rfl 109 _ _ rfl b 4097 Z.cs rfl rfl (bi.out.there rfl 4097 _ (show 4097+17<=4122 by decide)) Qb (f8 _) ?_;obtain⟨cg,bx,_⟩:=bi.out.setRegs Z;have aR:=G cg;have bh:=G ((cT bR.out).trans bx);have bV:=G (pE bx bl.out J);generalize World.setCells W6 b 4097 Z.cs.toList=cP at*;clear cg bx bl bW bi a3;(try go_simp)))
   clear cK;obtain⟨az,bw⟩: ∃az,FU ⟨M,g,d⟩ D ad=az:=⟨_,rfl⟩
   have bf:=G bw;rw[bw]at w;clear bw
   go_cut [98]from 95 to 97 (λcE aJ=> ∃kb:Bool,cE=Ze kb/\Hid ((bb&&a2)=kb)/\aJ=cP)
   case first=>
    cases bb<;>cases a2;all_goals
     go_wp2_with fail
     go_meet
     exact⟨_,rfl,G rfl,rfl⟩
   obtain⟨kb,rfl,bQ,rfl⟩:=hcut
   go_upto_if 98 with fail
   have c0:wc.heap.size=wc.heap.size:=rfl
   go_cut []from 99 to 109 (λaJ=>Hid (RB aJ b az sz Z R (oz d))/\Hid (Mv (λk=>k=b) wc aJ))
   case first=>
    cases kb with
    |false=>
     have bd:=G (show az=M by
      rw[<-bf.out];unfold FU;simp only;rw[aI.out]
      cases bb with
      |false=>rfl
      |true=>
       have:a2=false:=bQ.out
       rw[this];rfl)
     go_wp2_with fail
     go_meet
     exact⟨by rw[bd.out];exact aR,G (gG _ _)⟩
    |true=>
     have cb:=bQ.out;rw[am]at cb;obtain⟨rfl,rfl⟩:=cb;have H:=G (show xM g D=some (ax,aL,true) by rw[aI.out];rfl);obtain⟨⟨db,da⟩,aC⟩:=bj.out ax aL true H.out;have b9:gU sz ax aL.toNat=true:=by
      have:=bT.out;unfold Fq at this;simp only at this;rw[H.out]at this;simpa using this
     obtain⟨aS,b4⟩:=j9 b9 J;obtain⟨a,rfl⟩:=a_ aS;have bd:=G (show az=lH M a ((lR ad).take aL.toNat) by rw[<-bf.out];unfold FU;simp only;rw[H.out];simp);have ck:=G (λW=>Ea ad W);have a7:(lR ad).length=4:=rfl;clear bf bQ aI bT b9 H w ap bj aM;rcases aC with rfl|rfl
     ·have b6:IntKind.i64.wrap ((a:Int)+1)=a+1:=Qc
      have a8: ∀u,(Instr.sliceAt 111 (Zf (some ⟨b,0,none⟩)) (some (Za i64 (a:Int))) (some (Za i64 ((a:Int)+1))) none).run prog u=.ok (Zb (some ⟨b,a,none⟩) 1 (4096-a)) u:=λu=>H_ b a 1 J J u
      go_upto_region 18 with fail
      refine aB 10 9 [(9,λv=> ∃A,v=Zb (some ⟨A,0,none⟩) 4 4,λv W=> ∃A,v=Zb (some ⟨A,0,none⟩) 4 4/\Sl W (some ⟨A,0,none⟩) 4 (lR ad))] mixed Qb ⟨λv W cQ ⟨A,e,af⟩ y=>⟨A,e,af.ext y⟩,trivial⟩ ?_;repeat (refine sx ?_ (λar aD=> ?_) ?_;rotate_left;(focus clear aD;go_simp<;>with_reducible rfl);simp only[bE,bD,bC,bB,bA])
      refine cU _ _ Qf rfl ⟨_,0,rfl⟩ Qe (λbk aD al K bz=> ?_) ?_
      ·clear al aD;go_simp;refine(ck.out bk).mono ?_;rintro e bU ⟨rfl,y,af⟩;exact bz _ _ y ⟨_,rfl⟩ ⟨_,rfl,af⟩
      rintro _ ⟨A,rfl⟩;simp only[bE,bD,bC,bB,bA];intro cA aT al;obtain⟨cM,e,bq⟩:=al _ (.head _);injection e with e;injection e with e;injection e with e;subst e;have aZ:=G aT.un;clear al aT;simp only[ae,aw];refine kR rfl _ _ rfl (aR.out.ext aZ.out) a 1 _ rfl _ 4 4 (lR ad) a7 rfl bq (by rw[bG,a7];simp;omega) λcz cC aY aV _=> ?_;have aQ:=G aY;have aE:=G ((cT (S:=λk=>k=b) aZ.out).trans aV);clear aY aV;go_wp2_with fail
      go_meet
      exact⟨by rw[bd.out];exact aQ,aE⟩
     ·have b6:IntKind.i64.wrap ((a:Int)+4)=a+4:=Qc
      have a8: ∀u,(Instr.sliceAt 111 (Zf (some ⟨b,0,none⟩)) (some (Za i64 (a:Int))) (some (Za i64 ((a:Int)+4))) none).run prog u=.ok (Zb (some ⟨b,a,none⟩) 4 (4096-a)) u:=λu=>H_ b a 4 J J u
      go_upto_region 18 with fail
      refine aB 10 9 [(9,λv=> ∃A,v=Zb (some ⟨A,0,none⟩) 4 4,λv W=> ∃A,v=Zb (some ⟨A,0,none⟩) 4 4/\Sl W (some ⟨A,0,none⟩) 4 (lR ad))] mixed Qb ⟨λv W cQ ⟨A,e,af⟩ y=>⟨A,e,af.ext y⟩,trivial⟩ ?_;repeat (refine sx ?_ (λar aD=> ?_) ?_;rotate_left;(focus clear aD;go_simp<;>with_reducible rfl);simp only[bE,bD,bC,bB,bA])
      refine cU _ _ Qf rfl ⟨_,0,rfl⟩ Qe (λbk aD al K bz=> ?_) ?_
      ·clear al aD;go_simp;refine(ck.out bk).mono ?_;rintro e bU ⟨rfl,y,af⟩;exact bz _ _ y ⟨_,rfl⟩ ⟨_,rfl,af⟩
      rintro _ ⟨A,rfl⟩;simp only[bE,bD,bC,bB,bA];intro cA aT al;obtain⟨cM,e,bq⟩:=al _ (.head _);injection e with e;injection e with e;injection e with e;subst e;have aZ:=G aT.un;clear al aT;simp only[ae,aw];refine kR rfl _ _ rfl (aR.out.ext aZ.out) a 4 _ rfl _ 4 4 (lR ad) a7 rfl bq (by rw[bG,a7];simp;omega) λcz cC aY aV _=> ?_;have aQ:=G aY;have aE:=G ((cT (S:=λk=>k=b) aZ.out).trans aV);clear aY aV;go_wp2_with fail
      go_meet
      exact⟨by rw[bd.out];exact aQ,aE⟩
   case rest=>
    obtain⟨aQ,aE⟩:=hcut;have cD:=G (pE aE.out bV.out J);have bg:=G (bh.out.trans aE.out);have a3:=cD.out.cell;clear aR bh aE bV bf aI cY ai;rcases aM.out with aX|⟨aX,bp⟩|aX
    ·have bt:av=0:=aX;subst bt;have aa:=G (show ay=.ok ⟨az,Z,d⟩ by rw[w.out,if_neg Qd]);clear w ap aM;go_wp2_with fail;go_ret;exact⟨bg.out,by rw[aa.out];exact⟨rfl,aQ.out⟩⟩
    ·have bt:av=1:=aX;subst bt;have aa:=G (show ay=FF sz ah ⟨1,bn,a0,bc,bJ,bI,bo⟩ ⟨az,Z,d⟩ by rw[w.out,if_pos rfl]);have aN:=G (ap.out wc az Z _ aQ.out (cV.out.keep (bg.out.keepP λk ag _=>ag)) bp);rw[<-aa.out]at aN;simp only[xN.val]at aN;clear w ap aM aa
     cases ay with
     |ok s=>
      go_wp2_with (go_at_call 94;refine aN.out.mono ?_;rintro e cy ⟨aW,rfl,aU⟩;have bN:=G aW;have bL:=G aU;clear aN aW aU a3);go_ret;exact⟨bg.out.trans bN.out,rfl,bL.out⟩
     |error o=>
      go_wp2_with (go_at_call 94;refine aN.out.mono ?_;rintro e cy ⟨aW,rfl,aU⟩;have bN:=G aW;have bL:=G aU;clear aN aW aU a3);go_ret;exact⟨bg.out.trans bN.out,rfl,bL.out⟩
    ·exact absurd aX hk2
end
end Go.Proofs.YtoedmpgicdekmaaGreatDoor
