/- Parts of the proof. -/
import Derived.Test.YtoedmpgicdekmaaGreatDoorCl00
import Derived.Test.YtoedmpgicdekmaaGreatDoorCl28
import Derived.Test.YtoedmpgicdekmaaGreatDoorCl31
import Derived.Test.YtoedmpgicdekmaaGreatDoorCl22
import Derived.Deep.CutBlock
import Derived.BigRegion
set_option maxRecDepth 100000
set_option maxHeartbeats 8000000
set_option linter.unusedVariables false
set_option linter.unusedSimpArgs false
set_option linter.unusedSectionVars false
namespace Go.Proofs.YtoedmpgicdekmaaGreatDoor
open Go.Proofs.Tryz
section
open Go.RowKit
theorem Dl (n:Int) (a:World):Calls prog 93 #[.int .i64 n] a λe w'=>e= .returned (.slice (some ⟨a.heap.size,0,none⟩) 4 4)/\au a w'/\Sl w' (some ⟨a.heap.size,0,none⟩) 4 (lx n):=by
 have d:=G (show lx n=[b8 n,b8 (n/256),b8 (n/65536),b8 (n/16777216)]from rfl);have w0:=iw n;have w:=iw (n/256);have u:=iw (n/65536);have o:=iw (n/16777216);generalize lx n=Q at*;generalize b8 n=F at*;generalize b8 (n/256)=A at*;generalize b8 (n/65536)=z at*;generalize b8 (n/16777216)=y at*;go_enter func93,ntmps93;go_wp2_with fail;go_ret;exact⟨rfl,aa a _,by rw[d.out];exact sw (aq a _ _)⟩
theorem za (b z c:Nat) (b0 b1 b2 b3:UInt8) (w:World) (R:vu w b z b0 b1 b2 b3) (ad:4<=c) (ac:c<=maxLen):
  Calls prog 91 #[.slice (some ⟨b,z,none⟩) 4 c] w λe w'=>e= .returned (.tuple #[.int .i64 (vE (b0.toNat+256*b1.toNat+65536*b2.toNat+16777216*b3.toNat)), .int .i64 0])/\au w w':=by
 obtain⟨ae,K,J,I,H⟩:=R;unfold qQ at K J I H;have ai:=b0.toNat_lt;have ah:=b1.toNat_lt;have ag:=b2.toNat_lt;have af:=b3.toNat_lt;have F:=G (show ∀a,a=(b0.toNat+256*b1.toNat+65536*b2.toNat+16777216*b3.toNat:Int)->vE (b0.toNat+256*b1.toNat+65536*b2.toNat+16777216*b3.toNat)=vE a from λa V=>by rw[V]);generalize vE (b0.toNat+256*b1.toNat+65536*b2.toNat+16777216*b3.toNat)=ap at*;generalize b0.toNat=u at*;generalize b1.toNat=d at*;generalize b2.toNat=o at*;generalize b3.toNat=y at*;have an:=u32_or8 (u:Int) (d*256) Qa Qa Qa Qa Qa;have am:=u32_or16 (u+d*256:Int) (o*65536) Qa Qa Qa Qa Qa;have X:=u32_or24 (u+d*256+o*65536:Int) (y*16777216) Qa Qa Qa Qa Qa;have al:=u32_wrap_id (d*256) Qa Qa;have ak:=u32_wrap_id (o*65536) Qa Qa;have aj:=u32_wrap_id (y*16777216) Qa Qa;have A:=G (F.out (u+d*256+o*65536+y*16777216) Qa);clear F;obtain⟨a,M⟩: ∃a:Int,(u+d*256+o*65536+y*16777216:Int)=a:=⟨_,rfl⟩
 have r:=xg a;have Z:=G (show IntKind.i32.wrap a=vE a from rfl);have ab:IntKind.i64.wrap (vE a)=vE a:=by unfold Iy at r;simp[IntKind.wrap,IntKind.signed,IntKind.bits];omega
 rw[M]at X A;have aa:=Z.out;generalize vE a=ao at*;go_enter func91,ntmps91;go_wp2_with fail
 go_quiet (fail)
 go_wp2_with fail;go_ret2;exact⟨by rw[A.out];rfl,(aG w).drewN _⟩
theorem yv (g:Rg) (v:Int):g.reply v=g.upd 1 (vE v):=rfl
theorem yw (g:Rg) (v:Int) (w:World):Calls prog 148 #[.agg g.cs, .int .i64 v] w λe w'=>e= .returned (.agg (g.reply v).cs)/\au w w':=by
 rw[yv];have M:=js g 1 Qd;have A:=G (show IntKind.i32.wrap v=vE v from rfl);have K:=A.out;generalize vE v=I at*;go_enter func148,ntmps148
 go_upto_region 1 with fail
 generalize a:World.alloc (World.alloc w _) _=W0;obtain⟨d,r,q,s⟩:=It a;replace d:=G d;clear a;have H:=r.out.cell;have fr:=r.out.frozen
 go_upto_region 2 with fail
 generalize a:World.setCell W0 _ _=W1;obtain⟨J,y,u,o⟩:=t6 a;replace r:=y _ _ r;replace q:=u _ _ _ Qa q;replace d:=o _ d Qa;rw[p' _ _ 1 Qd]at r;clear a u y o H fr;go_wp2_with (first|(refine ce rfl 109 _ rfl _ rfl _ (dh r) ?_)|(refine wpList_store_row rfl 109 _ _ rfl _ _ rfl rfl _ _ q.out Qb rfl (fN _) ?_;generalize a:World.setRow W1 _ _=W7;obtain⟨z,_,u,o⟩:=qJ a q;replace d:=o _ d Qa;clear a u o q r));have F:=dh z;refine bodyPost_ret (v:= .agg (g.upd 1 I).cs) ?_ rfl ⟨rfl,d.out⟩;simp[results,results148,asAddr,F,Act.put]
theorem yk (n:Int) (o:World):Calls prog 43 #[.int .i64 n] o λe w'=>e= .returned (.agg (tI n).cs)/\au o w':=by
 go_enter func43,ntmps43
 go_upto_region 1 with fail
 generalize a:World.alloc o _=W0;obtain⟨d,q,s⟩:=kZ a;replace d:=G d;clear a
 go_upto_region 3 with fail
 generalize a:World.alloc W0 _=W1;obtain⟨u,r,F⟩:=kZ a;replace d:=kx d u;replace q:=kb q u;replace r:=show Hid (aM W1 W0.heap.size 109 (tI n).cs)from r;clear a u;go_wp2_with (first|(refine ce rfl 109 _ rfl _ rfl _ (dh r) ?_)|(refine wpList_store_row rfl 109 _ _ rfl _ _ rfl rfl _ _ q.out Qb rfl (fN _) ?_;generalize a:World.setRow W1 _ _=W7;obtain⟨y,_,z,w⟩:=qJ a q;replace d:=w _ d Qa;clear a z w q r));have A:=dh y;refine bodyPost_ret (v:= .agg (tI n).cs) ?_ rfl ⟨rfl,d.out⟩;simp[results,results43,asAddr,A,Act.put]
def CM:Option (Int×Int×Bool)->Value
 |none=> .tuple #[.int .i64 0, .int .i64 0, .bool false, .bool false]
 |some (a,n,wr)=> .tuple #[.int .i64 a, .int .i64 n, .bool wr, .bool true]
theorem wU (g:Rg) (b X c:Nat) (b0 b1 b2 b3:UInt8) (H:World) (af:FT H) (ah:vu H b X b0 b1 b2 b3) (ac:4<=c) (ab:c<=maxLen) (ae:nY g):
  Calls prog 90 #[.agg g.cs, .slice (some ⟨b,X,none⟩) 4 c] H λe w'=>e= .returned (CM (wV g (fH b0 b1 b2 b3)))/\au H w':=by
 have u:=G (λW (K:au H W)=>fe b X c b0 b1 b2 b3 W (af.ext K) (ah.ext K) ac ab);have ai:=G (λx (K:fH b0 b1 b2 b3=some x)=>qy K);clear af ah ac ab;generalize fH b0 b1 b2 b3=D at*
 cases D with
 |none=>
  unfold BG at u;go_enter func90,ntmps90
  go_upto_region 1 with fail
  generalize o:World.alloc H _=W0;obtain⟨a,r,s⟩:=kZ o;replace a:=G a;clear o
  go_upto_region 2 with(go_at_call 86;refine(u.out _ a.out).mono ?_;rintro e M ⟨rfl,d⟩;clear u;replace a:=kx a d)
  generalize o:World.alloc M _=W1;obtain⟨d,x,aa⟩:=kZ o;replace a:=kx a d;clear o d;go_wp2_with fail;exact bodyPost_ret (v:=CM none) (by simp[results,results90,go_sem,CM]) rfl ⟨rfl,a.out⟩
 |some x=>
  have R:=ai.out x rfl;have J:=G (λW=>gP g x W (ae _) (by have:=R.b;omega) (by have:=R.c;omega));have al: -5000000000<=(bR g x).1/\(bR g x).1<=5000000000:=by
   have:=R.c;have:=ae x.b.toNat;unfold bR;split<;>(try split)<;>simp only<;>omega
  unfold BG at u;simp only at u;obtain⟨k,A,z,y,w⟩:=x;have Z:=G (show wV g (some ⟨k,A,z,y,w⟩)=if(bR g ⟨k,A,z,y,w⟩).2=0\/(bR g ⟨k,A,z,y,w⟩).1.tmod (bR g ⟨k,A,z,y,w⟩).2≠0 then none else some ((bR g ⟨k,A,z,y,w⟩).1,(bR g ⟨k,A,z,y,w⟩).2,decide (k=15\/k=17))from rfl);have ad:(bR g ⟨k,A,z,y,w⟩).2=if k=14\/k=15 then 4 else if k=16\/k=17 then 1 else 0:=by unfold bR;simp only;split;rfl;split<;>rfl
  generalize wV g (some ⟨k,A,z,y,w⟩)=F at*;generalize bR g ⟨k,A,z,y,w⟩=p at*;obtain⟨PA,PS⟩:=p;simp only at*;obtain⟨T,an⟩: ∃T,PA.tmod 4=T:=⟨_,rfl⟩
  have t1:=Int.tmod_one PA;unfold dl.val at u J;simp only at u J;clear R ai;have ak:(PS=0/\Hid (F=none))\/(PS=4/\T≠0/\Hid (F=none))\/(PS=4/\T=0/\k=14/\Hid (F=some (PA,4,false)))\/(PS=4/\T=0/\k=15/\Hid (F=some (PA,4,true)))\/(PS=1/\k=16/\Hid (F=some (PA,1,false)))\/(PS=1/\k=17/\Hid (F=some (PA,1,true))):=by
   unfold Hid;have ag:=Z.out;rw[ad]at ag⊢;clear u J Z;rcases(show k=14\/k=15\/k=16\/k=17\/(¬(k=14\/k=15)/\ ¬(k=16\/k=17)) by omega)with rfl|rfl|rfl|rfl|⟨h1,h2⟩
   ·by_cases K:T=0<;>simp_all
   ·by_cases K:T=0<;>simp_all
   ·simp_all
   ·simp_all
   ·rw[if_neg h1,if_neg h2]at ag⊢;simp_all
  clear ad Z;rcases ak with⟨rfl,I⟩|⟨rfl,h5,I⟩|⟨rfl,rfl,rfl,I⟩|⟨rfl,rfl,rfl,I⟩|⟨rfl,rfl,I⟩|⟨rfl,rfl,I⟩
  rotate_left 1
  ·have am:(T==0)=false:=Qn.2 h5;clear h5;go_enter func90,ntmps90
   go_upto_region 1 with fail
   generalize o:World.alloc H _=W0;obtain⟨a,r,s⟩:=kZ o;replace a:=G a;clear o
   go_upto_region 2 with(go_at_call 86;refine(u.out _ a.out).mono ?_;rintro e M ⟨rfl,d⟩;clear u;replace a:=kx a d;replace r:=kb r d)
   generalize o:World.alloc M _=W1;obtain⟨d,x,aa⟩:=kZ o;replace a:=kx a d;replace r:=kb r d;clear o d;have V:=x.out.cell;go_wp2_with (first|(refine ce rfl 109 _ rfl _ rfl _ (dh r) ?_)|(go_at_call 145;refine(J.out _).mono ?_;rintro e aj ⟨rfl,d⟩;clear J V;replace a:=kx a d));exact bodyPost_ret (v:=CM F) (by rw[I.out];simp[results,results90,go_sem,CM]) rfl ⟨rfl,a.out⟩
  all_goals
   go_enter func90,ntmps90
   go_upto_region 1 with fail
   generalize o:World.alloc H _=W0;obtain⟨a,r,s⟩:=kZ o;replace a:=G a;clear o
   go_upto_region 2 with(go_at_call 86;refine(u.out _ a.out).mono ?_;rintro e M ⟨rfl,d⟩;clear u;replace a:=kx a d;replace r:=kb r d)
   generalize o:World.alloc M _=W1;obtain⟨d,x,aa⟩:=kZ o;replace a:=kx a d;replace r:=kb r d;clear o d;have V:=x.out.cell
   go_upto_region 5 with(first|(refine ce rfl 109 _ rfl _ rfl _ (dh r) ?_)|(go_at_call 145;refine(J.out _).mono ?_;rintro e aj ⟨rfl,d⟩;clear J V;replace a:=kx a d;replace x:=kb x d;have V:=x.out.cell))
  rotate_left 4
  ·go_wp2_with fail;exact bodyPost_ret (v:=CM F) (by rw[I.out];simp[results,results90,go_sem,CM]) rfl ⟨rfl,a.out⟩
  all_goals
   go_wp2_with fail
   go_quiet (fail)
   go_wp2_with fail;exact bodyPost_ret (v:=CM F) (by rw[I.out];simp[results,results90,go_sem,CM]) rfl ⟨rfl,a.out.drewN _⟩
theorem DA (a:World) (g i:Nat) (v:Value):Mv (λx=>x=g) a (a.setCell ⟨g,i,none⟩ v):=Mv.set (S:=λx=>x=g) (gn _ _) (p:=⟨g,i,none⟩) (λ_=>rfl) v
def uy (sz:Nat) (a:Int) (k:Nat):Bool:=decide (0<=a)&&(decide (a+k<4096)&&(decide (a+k<sz)||decide (3072<=a+k)))
theorem kh (sz:Nat) (a:Int) (k:Nat):gC sz a (k+1)=(gC sz a k&&uy sz a k):=rfl
theorem yL {sz:Nat} {d:Int} {j n:Nat} (a:gC sz d n=true) (o:j<=n):gC sz d j=true:=by
 induction n with
 |zero=>
  obtain rfl:j=0:=Qa
  exact a
 |succ n ih=>
  rw[kh,an]at a;rcases eS j (n+1)with h|h
  ·exact ih a.1 Qa
  ·obtain rfl:j=n+1:=Qa
   rw[kh,a.1,a.2];rfl
theorem DE {sz:Nat} {a:Int} {j n:Nat} (h:j<n) (d:uy sz a j=false):gC sz a n=false:=by
 cases e:gC sz a n with
 |false=>rfl
 |true=>
  have:=yL e (show j+1<=n by omega);rw[kh,d,lw]at this;exact this.symm
theorem jN {sz:Nat} {a:Int} {n:Nat} (h:gC sz a n=true) (o:0<n):0<=a/\a+n<=4096:=by
 obtain⟨k,rfl⟩: ∃k,n=k+1:=⟨n-1,by omega⟩
 rw[kh,an]at h;have d:=h.2;unfold uy at d;simp only[an,decide_eq_true_eq]at d;omega
theorem xz (b:Nat) (I:lq) (sz:Nat) (g:Rg) (A:Value) (F:List Value) (a:Int) (n:Nat) (ha: -10000000000<=a/\a<=10000000000) (X:n<=9223372036854775807) (V:sz<=4096) (d:World) (o:RB d b I sz g A F):
  Calls prog 88 #[.pointer (some ⟨b,0,none⟩), .int .i64 a, .int .i64 n] d λe w'=>e= .returned (.bool (gC sz a n))/\d=w':=by
 have ac:=o.size;have w:=G (λj=> @DE sz a j n);have z:=G (kh sz a);have J:=G (show gC sz a 0=true from rfl)
 have K:=G (λj (o:gC sz a j=true)=>show j<=4096 by
  rcases j with _|j
  ·omega
  ·have:=jN o Qa;omega)
 generalize gC sz a=L at*;obtain⟨a0,ad⟩:=ha;clear o;go_enter func88,ntmps88
 go_upto_region 2 with fail
 go_loopw [11] (λv wr=> ∃j:Nat,v= .int .i64 (j:Int)/\j<=n/\d=wr/\Hid (L j=true)) (λv _=>n-(intOf v).toNat)
 case atStart=>exact⟨0,rfl,aD _,rfl,J⟩
 case round=>
  obtain⟨j,rfl,aa,rfl,u⟩:=hrel;have Z:=K.out j u.out;by_cases hlt:j<n
  ·have H:(j:Int)<n:=Qa
   have R:IntKind.i64.wrap (a+j)=a+j:=Qc
   have M:IntKind.i64.wrap (4096-(j:Int))=4096-j:=Qc
   by_cases h1:a<0
   ·go_wp2_with fail;go_ret;exact⟨by rw[w.out j hlt (by simp[uy];omega)];rfl,rfl⟩
   have ab: ¬a<0:=h1;by_cases h2:4096-(j:Int)<=a
   ·go_wp2_with fail;go_ret;exact⟨by rw[w.out j hlt (by simp[uy];omega)];rfl,rfl⟩
   by_cases h3:(sz:Int)<=a+j
   ·by_cases h4:a+(j:Int)<3072
    ·go_wp2_with fail;go_ret;exact⟨by rw[w.out j hlt (by simp[uy];omega)];rfl,rfl⟩
    ·have y:=G (show L (j+1)=true by rw[z.out,u.out];simp[uy];omega);go_wp2_with fail;go_roundw
     case rel=>exact⟨j+1,by go_num,by omega,by trivial,y⟩
     case measure=>simp[intOf];omega
   ·have y:=G (show L (j+1)=true by rw[z.out,u.out];simp[uy];omega);go_wp2_with fail;go_roundw
    case rel=>exact⟨j+1,by go_num,by omega,by trivial,y⟩
    case measure=>simp[intOf];omega
  ·obtain rfl:j=n:=Qa
   have H: ¬(j:Int)<j:=Qa
   go_wp2_with fail;go_ret;exact⟨by rw[u.out];rfl,rfl⟩
theorem xE (b:Nat) (H:lq) (sz:Int) (g:Rg) (o:Value) (J F A z y w u:Value) (k:Int) (d:World) (a:RB d b H sz g o [J,F,A,z,y,w,u]):
  Calls prog 89 #[.pointer (some ⟨b,0,none⟩), .int .i64 k] d λe w'=>e= .returned (.bool false)/\RB w' b H sz g o [.int .i64 k,F,A,z,y,w,u]/\Mv (· =b) d w':=by
 have K:=a.out 0;have M:=a.frz 4115;have I:=G (a.setOut 0 (.int .i64 k));simp only[bm,cK,bZ]at K I;clear a;go_enter func89,ntmps89;go_wp2_with fail;go_ret;exact⟨rfl,I.out,DA _ _ _ _⟩
theorem Ho (g q k:Nat) (u:q<4096) (w:q+k<=4096) (a:World):(Instr.sliceAt 111 (.pointer (some ⟨g,0,none⟩)) (some (.int .i64 (q:Int))) (some (.int .i64 ((q:Int)+k))) none).run prog a= .ok (.slice (some ⟨g,q,none⟩) k (4096-q)) a:=by
 have h:prog.underlying 111=some (.array (prog.arrayLen 111) (prog.elem 111)):=Qb
 have d:prog.arrayLen 111=4096:=Qb
 have o:(sizeOf (prog.elem 111)).run prog a= .ok 1 a:=Qb
 rw[run_sliceAt_array_lh a 111 ⟨g,0,none⟩ h .i64 .i64 (q:Int) ((q:Int)+k) Qa Qa (by rw[d];omega),o,d];simp only[Result.andThen_ok,slicedAt,bW];rw[if_neg Qa,Addr.add_lit,show((q:Int)+k).toNat=q+k by omega];simp
theorem Hn (g q:Nat) (u:q<4096) (a:World):(Instr.sliceAt 111 (.pointer (some ⟨g,0,none⟩)) (some (.int .i64 (q:Int))) none none).run prog a= .ok (.slice (some ⟨g,q,none⟩) (4096-q) (4096-q)) a:=by
 have h:prog.underlying 111=some (.array (prog.arrayLen 111) (prog.elem 111)):=Qb
 have d:prog.arrayLen 111=4096:=Qb
 have o:(sizeOf (prog.elem 111)).run prog a= .ok 1 a:=Qb
 rw[run_sliceAt_array_l a 111 ⟨g,0,none⟩ h .i64 (q:Int) Qa (by rw[d];omega),o,d];simp only[Result.andThen_ok,slicedAt,bW];rw[if_neg Qa,Addr.add_lit];simp
theorem FK {d:World} {P:Nat->Prop} {y:Option Addr} {n c:Nat} {a:Rs} (o:tL d P (.slice y n c) a) (i:Nat) (u:i<a.length):
  ∃b h B w,y=some ⟨b,h,none⟩/\P b/\b<d.heap.size/\n<=c/\c<=maxLen/\d.cell? ⟨b,h+i*2,none⟩=some (.int .i64 a[i].1)/\d.cell? ⟨b,h+i*2+1,none⟩=some (.slice B a[i].2.length w)/\Sl d B w a[i].2/\ ∀b2 H,B=some ⟨b2,H,none⟩->a[i].2≠ []->P b2:=by
 obtain⟨R,c',I,o⟩:=o;injection I with M K J;subst M K J;rcases o with o|⟨h1,h2,b,h,ha,hP,hb,da,dc,hc⟩
 ·rw[o]at u;simp at u
 ·obtain⟨G,F,A,z⟩:=hc i u;exact⟨b,h,_,_,ha,hP,hb,h1,h2,G,F,A,z⟩
theorem tL.form {h:World} {P:Nat->Prop} {v:Value} {a:Rs} (o:tL h P v a): ∃d n c,v= .slice d n c/\a.length=n:=by
 obtain⟨d,c,rfl,_⟩:=o;exact⟨_,_,_,rfl,rfl⟩
def oz (u:Nat):List Value:=[.int .i64 0, .int .i64 0, .int .i64 0, .int .i64 0, .int .i64 0, .slice none 0 0, .int .i64 (u:Int)]
def Jk (o:Oc) (A:Option Addr) (c:Nat):List Value:=[.int .i64 o.kind, .int .i64 o.call, .int .i64 o.a0, .int .i64 o.a1, .int .i64 o.a2, .slice A o.data.length c, .int .i64 (o.used:Int)]
def RO (w:World) (b:Nat) (sz:Nat) (rv:Value) (o:Oc):Prop:= ∃M g A c,RB w b M sz g rv (Jk o A c)/\Sl w A c o.data
def G0 (b sz:Nat) (rv:Value):Except Oc Ru->Ending->World->Prop
 | .ok s,e,w=>e= .returned (.bool true)/\RB w b s.m sz s.g rv (oz s.used)
 | .error o,e,w=>e= .returned (.bool false)/\RO w b sz rv o
theorem h_ {a:World} {b:Nat} {o:lq} {sz:Nat} {g:Rg} {h:Value} {d:Nat} {r:Except Oc Ru} (u:RB a b o sz g h [.int .i64 2, .int .i64 0, .int .i64 0, .int .i64 0, .int .i64 0, .slice none 0 0, .int .i64 (d:Int)]) (e:r= .error ⟨2,0,0,0,0,[],d⟩):G0 b sz h r (.returned (.bool false)) a:=by
 subst e;exact⟨rfl,o,g,none,0,u,eI a⟩
structure GY (t:wW):Prop where
 n: -2147483648<=t.num/\t.num<=2147483647
 a0: -2147483648<=t.a0/\t.a0<=2147483647
 a1: -2147483648<=t.a1/\t.a1<=2147483647
 a2: -2147483648<=t.a2/\t.a2<=2147483647
 ad: -2147483648<=t.addr/\t.addr<=2147483647
 ln: -2147483648<=t.len/\t.len<=2147483647
theorem kL (d:lq) (a n:Nat):(th d a n).length=n:=by simp[th]
theorem RB.cut {d:World} {b:Nat} {o:lq} {sz:Int} {g:Rg} {u:Value} {w:List Value} (h:RB d b o sz g u w) (a n c:Nat) (ha:a+n<=4096) (A:n<=c) (z:c<=maxLen):Sl d (some ⟨b,a,none⟩) c (th o a n):=
 ⟨by rw[kL];exact A,z,λe=>(by cases e), .inr ⟨b,a,rfl,qP h,λi y=>by
  rw[kL]at y;rw[h.mem _ Qa]
  simp[th]⟩⟩
theorem xW {P:Program} {a:World} {d:Oper} {w:Act} {G:Act->World->Prop} {Q:Exit->Act->World->Prop} {t e:TypeId} (X:lU P t e) (s x:Operand)
  (K:d.op= .call {callee:= .builtin .append,args:= #[s,x],argTypes:= #[t,t]}) (I:w.eval s= .slice none 0 0)
  (z:Option Addr) (y:Nat) (m:List UInt8) {n:Nat} (M:m.length=n) (H:w.eval x= .slice z n y) (J:Sl a z y m) (V:n<=70368744177664)
  (ab: ∀u cap' w',Sl w' u cap' m->au a w'->(∀b d,u=some ⟨b,d,none⟩->a.heap.size<=b)->G (w.put d.dst (.slice u n cap')) w'):d.wp P w a G Q:=by
 subst M;obtain⟨u,cap',w',A,F,o,h⟩:=oX (P:=P) X d.type a.heap.size (.slice none 0 0) [] (gT.nil_ a _ e) z y m J (by simpa using V) (ah _);simp only[ai,aE,List.nil_append]at A F h;have Z:au a w':=⟨o.os,o.tape,o.output,o.size,λk R=>o.block k R (by simp[Value.ownBlock])⟩
 unfold Oper.wp execOp;simp only[K,resolve,invoke,builtin,Sem.run_bind,Sem.run_pure,Result.andThen_ok,dt,b7,du,I,H,A];refine ab u cap' w' F.sl.2 Z λb d aa=> ?_;subst aa;rcases h with h|h
 ·simp[Value.ownBlock]at h
 ·simp only[Value.ownBlock]at h;have:b=a.heap.size:=by simpa using h
  omega
theorem FF {d:World} {h:Option Addr} {c:Nat} {l:List UInt8} (a:Sl d h c l) (n:Nat):Sl d h c (l.take n):=by
 refine⟨by have:=a.le;simp;omega,a.max,a.nil,?_⟩;rcases a.rd with rfl|⟨b,o,ha,hb,hc⟩
 ·exact .inl Qe
 ·exact .inr ⟨b,o,ha,hb,λi u=>by rw[bC]at u;rw[hc i Qa,jJ]⟩
theorem uj (a:lq) (d:Nat):lf a d []=a:=by
 funext i;unfold lf;rw[if_neg Qe]
theorem kz {d:World} {ops:Array Oper} {rest:List Oper} {u:Oper} {A:Act} {Q:Exit->Act->World->Prop} (K:u.guard=none) (z s:Operand)
  (I:u.op= .call {callee:= .builtin .copy,args:= #[z,s],argTypes:= #[36,36]}) {b:Nat} {F:lq} {sz:Int} {g:Rg} {h:Value} {o:List Value} (y:RB d b F sz g h o) (q a V:Nat) (M:A.eval z= .slice (some ⟨b,q,none⟩) a V)
  (X:Option Addr) (c n:Nat) (m:List UInt8) (aa:m.length=n) (H:A.eval s= .slice X n c) (ad:Sl d X c m) (Z:q+(m.take a).length<=4096)
  (k: ∀w' v,RB w' b (lf F q (m.take a)) sz g h o->Mv (λk=>k=b) d w'->w'.heap.size=d.heap.size->wpList prog ops Q rest (A.put u.dst v) w'):wpList prog ops Q (u::rest) A d:=by
 have G:(prog.info? 5).map (·.size)=some 1:=Qb
 subst aa;by_cases h0:m.take a=[]
 ·refine wpList_copy_nothing K z s _ _ I 5 underlying36 G _ _ _ _ _ _ M H ?_ ?_
  ·have:=congrArg List.length h0;rw[bC]at this;simp only[ai]at this;show min m.length a=0;omega
  ·exact k d _ (by rw[h0,uj];exact y) (gn _ _) rfl
 ·rcases ad.rd with rfl|⟨b1,o1,rfl,_,hc⟩
  ·exact absurd Qe h0
  have R:=jA (m.take a);refine wpList_copy_own K z s _ _ I 5 underlying36 G b q a V ⟨b1,o1,none⟩ m.length c M H _ _ y (im (m.take a)) (by rw[R,bC];exact Nat.min_comm _ _) (λj v w=> ?_) (by rw[R];simp[cj,oh]at Z⊢;omega) (λv w=> ?_) ?_
  ·have J:j<(m.take a).length:=by have:=(List.getElem?_eq_some_iff.1 w).1;simpa[im]using this
   have ac:j<m.length:=by rw[bC]at J;omega
   rw[Addr.add_lit,hc j ac,<-w];simp only[im,dw];rw[aI J];simp[jJ,qQ]
  ·obtain⟨x,_,rfl⟩:=List.mem_map.1 w;rfl
  ·refine k _ _ ?_ ?_ Qe
   ·have ae:=setRow_heap d b _ ((lk F++oh sz g h o).toArray.toList.take q++(im (m.take a)++(lk F++oh sz g h o).toArray.toList.drop (q+(im (m.take a)).length))).toArray _ _ y;refine RB.put y q (m.take a) Qa (ae.trans ?_);simp only[splice]
   ·exact⟨rfl,rfl,rfl,by simp,λk _ ab=>setRow_other d b k _ ab⟩
theorem m' {a:World} {ops:Array Oper} {rest:List Oper} {d:Oper} {o:Act} {Q:Exit->Act->World->Prop} (K:d.guard=none) (u s:Operand)
  (I:d.op= .call {callee:= .builtin .copy,args:= #[u,s],argTypes:= #[36,36]}) {b:Nat} {G:lq} {sz:Int} {g:Rg} {y:Value} {z:List Value} (V:RB a b G sz g y z) (q h F:Nat) (M:o.eval u= .slice (some ⟨b,q,none⟩) h F)
  (w:Option Addr) (c n:Nat) (m:List UInt8) (J:m.length=n) (H:o.eval s= .slice w n c) (R:Sl a w c m) (Z:n<=h) (X:q+n<=4096)
  (k: ∀w' v,RB w' b (lf G q m) sz g y z->Mv (λk=>k=b) a w'->w'.heap.size=a.heap.size->wpList prog ops Q rest (o.put d.dst v) w'):wpList prog ops Q (d::rest) o a:=by
 have A:m.take h=m:=bO Qa;refine kz K u s I V q h F M w c n m J H R (by rw[A];omega) ?_;rw[A];exact k
theorem Gc (a:World) (n:Nat) (d:Obj) (k i:Nat) (h:k<a.heap.size):((a.drewN n).alloc d).cell? ⟨k,i,none⟩=a.cell? ⟨k,i,none⟩:=(((aG a).drewN n).alloc' d).cell k i h
theorem xF (a:World) (n:Nat):(a.drewN n).heap.size=a.heap.size:=rfl
theorem BF (a:World) (n:Nat) (d:Array Value) (t:TypeId) (i:Nat):((a.drewN n).alloc (.cells d t)).cell? ⟨a.heap.size,i,none⟩=d[i]? /\((a.drewN n).alloc (.cells d t)).frozen? ⟨a.heap.size,i,none⟩=false:=by
 have h:=aq (a.drewN n) t d;rw[xF]at h;exact⟨h.cell i,h.frozen i⟩
theorem Gb {a W:World} {n:Nat} {t:TypeId} {u o h d:Value} (e:(((a.drewN n).alloc (.cells #[u,o] t)).setCell ⟨a.heap.size,0,none⟩ h).setCell ⟨a.heap.size,1,none⟩ d=W):au a W/\Hid (aM W a.heap.size t #[h,d])/\Hid (W.heap.size=a.heap.size+1):=by
 subst e;have w:=aq (a.drewN n) t #[u,o];rw[xF]at w;refine⟨(((((aG a).drewN n).alloc' _).set (p:=⟨a.heap.size,0,none⟩) (ah _) h).set (p:=⟨a.heap.size,1,none⟩) (ah _) d),(w.set 0 h).set 1 d,?_⟩;simp[Hid,World.setCell]
theorem RB.used {d:World} {b:Nat} {o:lq} {sz:Int} {g:Rg} {h:Value} {a:Nat} (u:RB d b o sz g h (oz a)):RB (d.setCell ⟨b,4121,none⟩ (.int .i64 ((a:Int)+1))) b o sz g h (oz (a+1)):=u.setOut 6 (.int .i64 ((a:Int)+1))
theorem BA {P:Program} {a:World} {d:Oper} {h:Operand->Value} (ty:TypeId) (x:Operand) (u:d.op= .load ty x) (g i:Nat) (o:h x= .pointer (some ⟨g,i,none⟩)) (v:Value) (w:(loadVar ty ⟨g,i,none⟩).run P a= .ok v a):(execOp h d).run P a= .ok (.value v) a:=by
 simp[execOp,u,Instr.loadAt,Instr.sureAddr,o,w,Result.andThen]
theorem H9 {a:World} {b:Nat} {u:lq} {sz:Int} {g:Rg} {d:Value} {h:List Value} (o:RB a b u sz g d h):(loadVar 109 ⟨b,4097,none⟩).run prog a= .ok (.agg g.cs) a:=
 run_loadVar_mid a b 4097 109 g.cs.toList _ o.regs underlying109 rfl Qb
theorem Dj {a W:World} {b n:Nat} {F:lq} {sz:Int} {g:Rg} {y A K J I H G z w u o h d:Value} (R:RB a b F sz g y [A,K,J,I,H,G,z])
  (e:(((((a.drewN n).setCell ⟨b,4116,none⟩ w).setCell ⟨b,4117,none⟩ u).setCell ⟨b,4118,none⟩ o).setCell ⟨b,4119,none⟩ h).setCell ⟨b,4120,none⟩ d=W):Hid (RB W b F sz g y [A,w,u,o,h,d,z])/\Hid (Mv (λk=>k=b) a W):=by
 subst e;have M:RB (a.drewN n) b F sz g y [A,K,J,I,H,G,z]:=R.ext ((aG a).drewN n);exact⟨((((M.setOut 1 w).setOut 2 u).setOut 3 o).setOut 4 h).setOut 5 d,(cQ ((aG a).drewN n)).trans ((((DA _ _ _ _).trans (DA _ _ _ _)).trans (DA _ _ _ _)).trans (DA _ _ _ _)|>.trans (DA _ _ _ _))⟩
theorem vQ (b:Nat) (F:lq) (sz:Nat) (g:Rg) (aF:Value) (d:Nat) (V:Rs) (t:wW) (aa:World) (o:RB aa b F sz g aF (oz d)) (cj:tL aa (λk=>k≠b) aF V) (b9:d<=V.length) (cd:V.length<=1000000000) (bq:sz<=4096) (cY:GY t):
  Calls prog 94 #[.pointer (some ⟨b,0,none⟩),t.val] aa λe w'=>Mv (λk=>k=b) aa w'/\G0 b sz aF (E8 sz V t ⟨F,g,d⟩) e w':=by
 obtain⟨aQ,a,a0,ak,aA,z,u⟩:=t;obtain⟨⟨cV,cU⟩,⟨cI,cH⟩,⟨cG,cF⟩,⟨cM,cL⟩,⟨da,c9⟩,⟨l0,cW⟩⟩:=cY;simp only at cV cU cI cH cG cF cM cL da c9 l0 cW
 have ad:=G (show E8 sz V ⟨aQ,a,a0,ak,aA,z,u⟩ ⟨F,g,d⟩=if a<0\/20<=a then .error ⟨2,0,0,0,0,[],d⟩
  else if sD a=true/\(u<0\/128<u\/gC sz z u.toNat=false)then .error ⟨2,0,0,0,0,[],d⟩
  else match V[d]? with
   |none=> .error ⟨1,a,a0,ak,aA,if sD a=true then th F z.toNat u.toNat else[],d⟩
   |some r=>if gC sz z (r.2.take (ux ⟨aQ,a,a0,ak,aA,z,u⟩).toNat).length=false then .error ⟨2,0,0,0,0,[],d+1⟩
    else .ok ⟨lf F z.toNat (r.2.take (ux ⟨aQ,a,a0,ak,aA,z,u⟩).toNat),g.reply r.1,d+1⟩from rfl)
 have aE:=G (show ux ⟨aQ,a,a0,ak,aA,z,u⟩=if a=9 then ak else if a=15 then a0 else 0 from rfl);generalize E8 sz V ⟨aQ,a,a0,ak,aA,z,u⟩ ⟨F,g,d⟩=am at*;generalize ux ⟨aQ,a,a0,ak,aA,z,u⟩=ai at*;unfold wW.val;simp only;have J:=G (fun(W:World) (F:lq) (g:Rg) (cE:Int) o1 o2 o3 o4 o5 (d:Nat) (bE:RB W b F sz g aF [.int .i64 0,o1,o2,o3,o4,o5, .int .i64 (d:Int)])=>xE b F sz g aF _ _ _ _ _ _ _ cE W bE);have ao:=G (fun(W:World) (F:lq) (g:Rg) ol (n:Nat) (bz:n<=9223372036854775807) (bE:RB W b F sz g aF ol)=>xz b F sz g aF ol z n Qa bz bq W bE);have bM:=G o;have cA:=G cj;have bN:=G b9;have bR:=G cd;have dG:=G bq;clear o cj b9 cd bq;go_enter func94,ntmps94
 go_upto_region 1 with fail
 generalize ag:World.alloc aa _=W0;obtain⟨bb,a8,cP⟩:=kZ ag;replace bb:=G bb;have dB:b<aa.heap.size:=qP bM.out;have ar:=G (bM.out.ext bb.out);have aD:=G (show Mv (λk=>k=b) aa W0 from cQ bb.out);have cz:=G (cA.out.keep (aD.out.keepP λk o _=>o));clear ag bM cA;have ac:=a8.out.cell;by_cases hbad:a<0\/20<=a
 ·have K:=G (show am= .error ⟨2,0,0,0,0,[],d⟩ by rw[ad.out,if_pos hbad]);clear ad ao;rcases hbad with bz|bz
  ·go_wp2_with (go_at_call 89;refine(J.out _ _ _ 2 _ _ _ _ _ _ ar.out).mono ?_;rintro e H ⟨rfl,w,A⟩;have R:=G w;have Z:=G A;clear J ac w A);go_ret;exact⟨aD.out.trans Z.out,h_ R.out K.out⟩
  ·have c3: ¬a<0:=Qa
   go_wp2_with (go_at_call 89;refine(J.out _ _ _ 2 _ _ _ _ _ _ ar.out).mono ?_;rintro e H ⟨rfl,w,A⟩;have R:=G w;have Z:=G A;clear J ac w A);go_ret;exact⟨aD.out.trans Z.out,h_ R.out K.out⟩
 rw[if_neg hbad]at ad;have c3: ¬a<0:=Qa
 have du: ¬20<=a:=Qa
 clear hbad;obtain⟨aN,bI⟩: ∃aN,(if sD a=true then th F z.toNat u.toNat else[])=aN:=⟨_,rfl⟩
 have a4:=G bI;rw[bI]at ad;obtain⟨aM,bd⟩: ∃aM:Prop,(sD a=true/\(u<0\/128<u\/gC sz z u.toNat=false))=aM:=⟨_,rfl⟩
 have aS:=G bd;have bg:=G (show aM->am= .error ⟨2,0,0,0,0,[],d⟩from λo=>by rw[ad.out,if_pos (by rw[bd];exact o)]);have bf:=G (fun(o: ¬aM)=>show am=_ from by rw[ad.out,if_neg (by rw[bd];exact o)]);clear bI bd ad
 go_upto_block 0 with fail
 go_cut [5]from 19 to 62 (λcO a7=> ∃a6 c bn,cO= .slice a6 bn c/\Hid (Sl a7 a6 c aN)/\Hid (bn=aN.length)/\Hid (au W0 a7)/\Hid (¬aM)/\Hid (∀b1 aj,a6=some ⟨b1,aj,none⟩->b1≠b))
 case first=>
  by_cases hr:sD a=true
  ·have an:=G (show aN=th F z.toNat u.toNat from by rw[<-a4.out,if_pos hr]);have aq:=G (show(u<0\/128<u\/gC sz z u.toNat=false)->am= .error ⟨2,0,0,0,0,[],d⟩from λo=>bg.out (by rw[<-aS.out];exact⟨hr,o⟩));have aL:=G (show ¬(u<0\/128<u\/gC sz z u.toNat=false)-> ¬aM from λo e=>by rw[<-aS.out]at e;exact o e.2);have I:a=2\/a=7\/a=10\/a=13\/a=14\/a=15:=by simpa[sD]using hr
   clear bg bf hr a4 aS;by_cases a2:u<0
   ·have K:=G (aq.out (.inl a2));clear aq aL ao aE;rcases I with rfl|rfl|rfl|rfl|rfl|rfl;all_goals
     go_wp2_with (go_at_call 89;refine(J.out _ _ _ 2 _ _ _ _ _ _ ar.out).mono ?_;rintro e H ⟨rfl,w,A⟩;have R:=G w;have Z:=G A;clear J ac w A);go_ret;exact⟨aD.out.trans Z.out,h_ R.out K.out⟩
   by_cases g2:128<u
   ·have K:=G (aq.out (.inr (.inl g2)));clear aq aL ao aE;rcases I with rfl|rfl|rfl|rfl|rfl|rfl;all_goals
     go_wp2_with (go_at_call 89;refine(J.out _ _ _ 2 _ _ _ _ _ _ ar.out).mono ?_;rintro e H ⟨rfl,w,A⟩;have R:=G w;have Z:=G A;clear J ac w A);go_ret;exact⟨aD.out.trans Z.out,h_ R.out K.out⟩
   obtain⟨k,rfl⟩:=aW (show 0<=u by omega);have X:=G (ao.out W0 F g _ k Qa ar.out);simp only[bW]at aq aL an;obtain⟨al,aJ⟩: ∃al,gC sz z k=al:=⟨_,rfl⟩
   have ap:=G (fun(o:al=true) (I:0<k)=>jN (aJ.trans o) I);rw[aJ]at aq aL X;clear aJ ao
   cases al with
   |false=>
    have K:=G (aq.out (.inr (.inr rfl)));clear aq aL aE ap;rcases I with rfl|rfl|rfl|rfl|rfl|rfl;all_goals
     go_wp2_with (first|(go_at_call 88;refine X.out.mono ?_;rintro e H ⟨rfl,rfl⟩;clear X)|(go_at_call 89;refine(J.out _ _ _ 2 _ _ _ _ _ _ ar.out).mono ?_;rintro e H ⟨rfl,w,A⟩;have R:=G w;have Z:=G A;clear J ac w A));go_ret;exact⟨aD.out.trans Z.out,h_ R.out K.out⟩
   |true=>
    have aK:=G (aL.out Qg);clear aq aL J;by_cases k0:k=0
    ·subst k0;clear ap;rcases I with rfl|rfl|rfl|rfl|rfl|rfl;all_goals
      go_wp2_with (go_at_call 88;refine X.out.mono ?_;rintro e H ⟨rfl,rfl⟩;clear X)
      go_meet
      exact⟨none,0,0,rfl,G (by rw[an.out];exact eI _),G (by rw[an.out];rfl),G (aG _),aK,G λ_ _ e=>(by cases e)⟩
    ·obtain⟨bp,aj⟩:=ap.out rfl Qa;obtain⟨q,rfl⟩:=aW bp;have c6:(0:Int)<k:=Qa
     have dp:IntKind.i64.wrap ((q:Int)+k)=q+k:=Qc
     simp only[bW]at an;clear ap;rcases I with rfl|rfl|rfl|rfl|rfl|rfl;all_goals
      go_upto_region 14 with(go_at_call 88;refine X.out.mono ?_;rintro e H ⟨rfl,rfl⟩;clear X)
      refine aB 12 1 [] mixed Qb trivial ?_;have ca:=λaa=>Ho b q k Qa Qa aa;repeat (refine sx ?_ (λH M=> ?_) ?_;rotate_left;(focus have ac:=(a8.out.ext M.un).cell;clear M;go_simp<;>with_reducible rfl);simp only[bA,bx,bw,br,bo])
      intro bl ay aH;have ab:=G ay.un;clear aH ay;simp only[ae,aw];refine wpList_plain rfl λdc bc=> ?_;refine xW bt _ _ rfl rfl _ _ (th F q k) (n:=k) (kL _ _ _) rfl ((ar.out.ext ab.out).cut q k _ Qa Qa Qh) Qa λdj c' bX aX bH c8=>bc _ _ ?_;clear bc;go_wp2_with fail
      go_meet
      exact⟨dj,c',k,rfl,G (by rw[an.out];exact aX),G (by rw[an.out,kL]),G (ab.out.trans bH),aK,G λb1 aj e=>by have:=c8 b1 aj e;have:=dm ab.out;have:=cP.out;omega⟩
  ·have an:=G (show aN=[]from by rw[<-a4.out,if_neg hr]);have aK:=G (show ¬aM from λo=>by rw[<-aS.out]at o;exact hr o.1);have I:a≠2/\a≠7/\a≠10/\a≠13/\a≠14/\a≠15:=by simpa[sD]using hr
   obtain⟨b8,b7,b6,b5,b4,bZ⟩:=I;replace b8:(a==2)=false:=Qn.2 b8;replace b7:(a==7)=false:=Qn.2 b7;replace b6:(a==10)=false:=Qn.2 b6;replace b5:(a==13)=false:=Qn.2 b5;replace b4:(a==14)=false:=Qn.2 b4;replace bZ:(a==15)=false:=Qn.2 bZ;clear bg bf hr a4 aS J ao;go_wp2_with fail
   go_meet
   exact⟨none,0,0,rfl,G (by rw[an.out];exact eI _),G (by rw[an.out];rfl),G (aG _),aK,G λ_ _ e=>(by cases e)⟩
 case rest=>
  obtain⟨a6,c,bn,rfl,ct,cr,a3,aK,bV⟩:=hcut;have ad:=G (bf.out aK.out);clear bg bf aK aS a4;have af:=G (ar.out.ext a3.out);have bP:=G (aD.out.trans (cQ (S:=λk=>k=b) a3.out));have bi:=G (cz.out.keep ((cQ (S:=λk=>k=b) a3.out).keepP λk o _=>o));have aT:=kb a8 a3.out;clear ar aD cz a3 a8 ac;obtain⟨dH,a9,dE,rfl,bv⟩:=bi.out.form;have bL:=G bv;rw[bv]at bR bN;have dr:=bN.out;have ac:=aT.out.cell;have aR:=af.out.out 6;have cm:=af.out.res;have dt:b≠aa.heap.size:=Qa
  have c0:aa.heap.size≠b:=Qa
  have be:=af.out.frz;simp only[Nat.reduceAdd,oz,dg,cK]at aR;clear bv;by_cases hun:d=a9
  ·have ci:V[d]? =none:=k_ (by rw[bL.out,hun];exact ah _);have K:=G (show am= .error ⟨1,a,a0,ak,aA,aN,d⟩ by rw[ad.out,ci]);have cX:((d:Int)==(a9:Int))=true:=by rw[hun];simp
   clear ad ci aE ao bi bR bN bL hun;go_wp2_with fail
   go_quiet (fail)
   go_upto_region 16 with fail
   have c1:=af.out.out 1;have c2:=af.out.out 2;have cp:=af.out.out 3;have co:=af.out.out 4;have cn:=af.out.out 5;simp only[Nat.reduceAdd,oz,dg,cK]at c1 c2 cp co cn;go_region
   go_upto_region 17 with fail
   generalize ag:World.setCell _ _ _=W5;obtain⟨a5,bj⟩:=Dj af.out ag;have bh:=G (ct.out.keepP (bj.out.keepP (P:=λk=>k≠b) λk o _=>o) λb1 aj e _=>bV.out b1 aj e);clear ag c1 c2 cp co cn aR cm ac be aT;go_wp2_with (go_at_call 89;refine(J.out _ _ _ 1 _ _ _ _ _ _ a5.out).mono ?_;rintro e H ⟨rfl,w,A⟩;have R:=G w;have Z:=G A;clear J w A);go_ret;refine⟨(bP.out.trans bj.out).trans Z.out,?_⟩;rw[K.out];exact⟨rfl,_,_,a6,c,by have:=R.out;rw[cr.out]at this;exact this,bh.out.keepP (Z.out.keepP (P:=λk=>k≠b) λk o _=>o) λb1 aj e _=>bV.out b1 aj e⟩
  ·have bB:d<V.length:=by rw[bL.out];omega
   obtain⟨b1,aj,B,cl,rfl,dD,w,dA,dz,e0,bJ,bF,bG⟩:=FK bi.out d bB;have ch:V[d]? =some V[d]:=aI bB;have aC:=G (show am=if gC sz z (V[d].2.take ai.toNat).length=false then .error ⟨2,0,0,0,0,[],d+1⟩else .ok ⟨lf F z.toNat (V[d].2.take ai.toNat),g.reply V[d].1,d+1⟩ by rw[ad.out,ch]);generalize V[d]=r at*;obtain⟨aO,bY⟩:=r;simp only at e0 bJ bF bG aC;obtain⟨aU,bu⟩: ∃aU,bY.length=aU:=⟨_,rfl⟩
   have cq:=G bu;rw[bu]at bJ;have cx:=G bF;have cB:=G bG;have cX:((d:Int)==(a9:Int))=false:=Qn.2 Qa;have dq:(d:Int)<(a9:Int):=Qa
   have dC:b<wc.heap.size:=qP af.out;have ds:aa.heap.size<wc.heap.size:=aT.out.lt;clear ad bi ch bB bF bG bu ct cr bV;go_wp2_with fail
   go_quiet (fail)
   go_upto_region 18 with fail
   have cT:=Gc wc;have cS:=λn bK t i=>(BF wc n bK t i).1;have cR:=λn bK t i=>(BF wc n bK t i).2;go_region
   go_upto_region 19 with fail
   generalize ag:World.setCell _ _ _=W1;obtain⟨a1,ax,dl⟩:=Gb ag;have R:=G (af.out.ext a1);have Z:=G (bP.out.trans (cQ (S:=λk=>k=b) a1));have av:=kb aT a1;have cw:=G (cx.out.ext a1);clear ag a1 af bP aT cx cT cS cR e0 bJ ac aR cm be w;have aR:=R.out.out 6;have be:=R.out.frz 4121;have dn:IntKind.i64.wrap ((d:Int)+1)=d+1:=by have:=bR.out;simp[IntKind.wrap,IntKind.signed,IntKind.bits];omega
   simp only[Nat.reduceAdd,oz,dg,cK]at aR
   go_upto_region 20 with fail
   have bU:=G (R.out.used);have cD:=G (Z.out.trans (DA W1 b 4121 (.int .i64 ((d:Int)+1))));have cv:=G (cw.out.keepP ((DA W1 b 4121 (.int .i64 ((d:Int)+1))).keepP (P:=λk=>k≠b) λk o _=>o) cB.out);generalize ag:World.setCell W1 _ _=dF at*;obtain⟨_,_,aX,_⟩:=t6 ag;replace av:=aX _ _ _ Qa av;replace ax:=aX _ _ _ Qa ax;clear ag aX aR be R Z cw;have cy:=G (λW=>yw g aO W);refine aB 10 7 [(7,λv=>v= .agg (g.reply aO).cs,λ_ _=>True)] mixed Qb ⟨λ_ _ _ _ _=>trivial,trivial⟩ ?_
   iterate 4 (refine sx ?_ (λH M=> ?_) ?_;rotate_left;(focus (clear M;go_simp<;>with_reducible rfl));simp only[bA,bx,bw,br,bo])
   refine sx ?_ (λH M=> ?_) ?_;rotate_left;(focus rw[BA 109 _ rfl b 4097 rfl _ (H9 (bU.out.ext M.un))]);simp only[bA,bx,bw,br,bo];repeat (refine sx ?_ (λH M=> ?_) ?_;rotate_left;(focus have bm:=(ax.out.ext M.un).cell;clear M;go_simp<;>with_reducible rfl);simp only[bA,bx,bw,br,bo])
   refine so (λbX M aH dc bc=> ?_) ?_
   ·clear aH M;go_simp;refine(cy.out bX).mono ?_;rintro e cJ ⟨rfl,bH⟩;exact bc _ _ bH rfl trivial
   rintro _ rfl;simp only[bA,bx,bw,br,bo];repeat (refine sx ?_ (λH M=> ?_) ?_;rotate_left;(focus clear M;go_simp<;>with_reducible rfl);simp only[bA,bx,bw,br,bo])
   intro bl ay aH;have ab:=G ay.un;clear aH ay;simp only[ae,aw];have bT:=G (bU.out.ext ab.out);have cC:=G (cD.out.trans (cQ (S:=λk=>k=b) ab.out));have bh:=G (cv.out.ext ab.out);replace av:=kb av ab.out;replace ax:=kb ax ab.out;clear ab bU cD cv cy;refine wpList_store_mid rfl 109 _ _ rfl b 4097 (g.reply aO).cs rfl rfl (bT.out.there rfl 4097 _ (show 4097+17<=4122 by decide)) Qb (fN _) ?_;obtain⟨ck,aZ,_⟩:=bT.out.setRegs (g.reply aO);have bk:=G ck;have bQ:=G (cC.out.trans aZ);have bO:=G (bh.out.keepP (aZ.keepP (P:=λk=>k≠b) λk o _=>o) cB.out);replace av:=G (oT aZ av.out c0);replace ax:=G (oT aZ ax.out (show ¬wc.heap.size=b by omega));generalize World.setCells bl b 4097 (g.reply aO).cs.toList=db at*;generalize g.reply aO=a2 at*;clear ck aZ bT cC bh;have ac:=av.out.cell;have bm:=ax.out.cell
   go_upto_block 1 with fail
   go_cut [7]from 123 to 134 (λcN a7=>cN= .int .i64 ai/\a7=db)
   case first=>
    by_cases aP:a=9
    ·have aY:=G (show ai=ak by rw[aE.out,if_pos aP]);subst aP;go_wp2_with fail
     go_meet
     exact⟨by rw[aY.out],rfl⟩
    ·by_cases aV:a=15
     ·have aY:=G (show ai=a0 by rw[aE.out,if_neg aP,if_pos aV]);subst aV;go_wp2_with fail
      go_meet
      exact⟨by rw[aY.out],rfl⟩
     ·have aY:=G (show ai=0 by rw[aE.out,if_neg aP,if_neg aV]);replace aP:(a==9)=false:=Qn.2 aP;replace aV:(a==15)=false:=Qn.2 aV;go_wp2_with fail
      go_meet
      exact⟨by rw[aY.out],rfl⟩
   case rest=>
    obtain⟨rfl,rfl⟩:=hcut;have cu:=G (FF bO.out ai.toNat);obtain⟨az,bD⟩: ∃az,bY.take ai.toNat=az:=⟨_,rfl⟩
    obtain⟨k,I⟩: ∃k,az.length=k:=⟨_,rfl⟩
    have ce:k=min ai.toNat aU:=by rw[<-I,<-bD,bC,cq.out]
    rw[bD]at aC cu;rw[I]at aC;obtain⟨ba,cc⟩: ∃ba,ai.toNat=ba:=⟨_,rfl⟩
    rw[cc]at ce;have dv:max ai 0=(ba:Int):=Qa
    have dw:min (ba:Int) aU=(k:Int):=Qa
    have cf:=bO.out.le;rw[cq.out]at cf;have dy:k<=cl:=Qa
    have dx:k<=aU:=Qa
    have c5:k<=9223372036854775807:=by have c4:=bO.out.max;simp[maxLen]at c4;omega
    have dd:=G I;have X:=G (ao.out _ F a2 _ k c5 bk.out);have bS:=G (show az=[]\/0<k from by rcases az with _|⟨x,y⟩;exact .inl rfl;right;rw[<-I];simp);clear bD I ce cc aE ao cf;obtain⟨al,aJ⟩: ∃al,gC sz z k=al:=⟨_,rfl⟩
    have ap:=G (fun(o:al=true) (I:0<k)=>jN (aJ.trans o) I);rw[aJ]at aC X;clear aJ
    cases al with
    |false=>
     have K:=G (show am= .error ⟨2,0,0,0,0,[],d+1⟩ by rw[aC.out,if_pos rfl]);clear aC ap;go_wp2_with (first|(go_at_call 88;refine X.out.mono ?_;rintro e H ⟨rfl,rfl⟩;clear X ac bm)|(go_at_call 89;refine(J.out _ _ _ 2 _ _ _ _ _ _ bk.out).mono ?_;rintro e H ⟨rfl,w,A⟩;have a5:=G w;have bj:=G A;clear J w A));go_ret;exact⟨bQ.out.trans bj.out,h_ a5.out K.out⟩
    |true=>
     have K:=G (show am= .ok ⟨lf F z.toNat az,a2,d+1⟩ by rw[aC.out,if_neg Qd]);clear aC J;by_cases k0:0<k
     ·obtain⟨bp,aj⟩:=ap.out rfl k0;obtain⟨q,rfl⟩:=aW bp;simp only[bW]at K;have c6:(0:Int)<k:=Qa
      clear ap bS
      go_upto_region 31 with(go_at_call 88;refine X.out.mono ?_;rintro e H ⟨rfl,rfl⟩;clear X)
      have ca:=λaa=>Hn b q Qa aa;refine aB 7 1 [] mixed Qb trivial ?_;repeat (refine sx ?_ (λH M=> ?_) ?_;rotate_left;(focus have ac:=(av.out.ext M.un).cell;clear M;go_simp<;>with_reducible rfl);simp only[bA,bx,bw,br,bo])
      intro bl ay aH;have ab:=G ay.un;clear aH ay;simp only[ae,aw];have a5:=G (bk.out.ext ab.out);have de:=G (cu.out.ext ab.out);refine m' rfl _ _ rfl a5.out q _ _ rfl B cl k az dd.out rfl de.out Qa Qa λcJ dk cg cb cZ=> ?_;have di:=G cg;have df:=G ((bQ.out.trans (cQ (S:=λk=>k=b) ab.out)).trans cb);clear cg cb cZ ac bm ca;go_wp2_with fail;go_ret;refine⟨df.out,?_⟩;rw[K.out];exact⟨rfl,di.out⟩
     ·have c7:az=[]:=by rcases bS.out with o|o;exact o;omega
      obtain rfl:k=0:=Qa
      have dh:=G (show am= .ok ⟨F,a2,d+1⟩ by rw[K.out,c7,uj]);clear ap bS K;go_wp2_with (go_at_call 88;refine X.out.mono ?_;rintro e H ⟨rfl,rfl⟩;clear X);go_ret;refine⟨bQ.out,?_⟩;rw[dh.out];exact⟨rfl,bk.out⟩
theorem Fi {o:World} {b:Nat} {u:lq} {sz:Int} {g:Rg} {d:Value} {h:List Value} (y:FT o) (z:RB o b u sz g d h):0≠b:=by
 rintro rfl;obtain⟨t,fr,w⟩:=y;have a:some _=some _:=w.symm.trans z;injection a with a;injection a with a _ _;have G:=congrArg Array.size a;have F:zF.size=138:=rfl;have A:(lk u++oh sz g d h).toArray.size=4096+(oh sz g d h).length:=by rw[fQ,ac,cj]
 omega
theorem FT.mv {a w':World} {b:Nat} (u:FT a) (o:0≠b) (h:Mv (λk=>k=b) a w'):FT w':=by
 obtain⟨t,fr,d⟩:=u;exact⟨t,fr,(h.block _ (Array.getElem?_eq_some_iff.1 d).1 o).trans d⟩
def xB (s:Ru) (D:Option dl):Int:=match wV s.g D with
 |none=>0
 |some (a,n,_)=>if n=4 then zL s.m a.toNat else(s.m a.toNat).toNat
def Fg (s:Ru) (D:Option dl) (v:Int):lq:=match wV s.g D with
 |none=>s.m
 |some (a,n,wr)=>if wr=true then lf s.m a.toNat ((lx v).take n.toNat)else s.m
def ET (sz:Nat) (s:Ru) (D:Option dl):Bool:=match wV s.g D with
 |none=>false
 |some (a,n,_)=> !(gC sz a n.toNat)
theorem xn (sz:Nat) (a:Rs) (s:Ru):p4 sz a s=if s.g.pc.tmod 4≠0\/gC sz s.g.pc 4=false then .error s.fails
  else if ET sz s (rP s)=true then .error s.fails
  else BD sz a s (oG s.g (xB s (rP s)) (rP s)) (Fg s (rP s) (oG s.g (xB s (rP s)) (rP s)).2.1):=by
 unfold p4 ET xB Fg;split
 ·rfl
 ·cases h:wV s.g (rP s)with
  |none=>simp
  |some p=>
   obtain⟨d,n,wr⟩:=p;simp only
   cases h2:gC sz d n.toNat<;>simp
theorem Iv {g:Rg} {b0 b1 b2 b3:UInt8} {d n:Int} {wr:Bool} (o:nY g) (a:wV g (fH b0 b1 b2 b3)=some (d,n,wr)):(-5000000000<=d/\d<=5000000000)/\(n=1\/n=4):=by
 cases hd:fH b0 b1 b2 b3 with
 |none=>rw[hd]at a;simp[wV]at a
 |some x=>
  have w:=(qy hd).c;have u:=o x.b.toNat;rw[hd]at a;unfold wV at a;simp only at a;split at a
  ·cases a
  ·rename_i y;simp only[gU,jW]at a;obtain⟨rfl,rfl,_⟩:=a;have h:(-5000000000<=(bR g x).1/\(bR g x).1<=5000000000)/\((bR g x).2=0\/(bR g x).2=1\/(bR g x).2=4):=by
    unfold bR;split
    ·exact⟨by simp only;omega,by simp⟩
    ·split
     ·exact⟨by simp only;omega,by simp⟩
     ·simp
   exact⟨h.1,by omega⟩
theorem JG {a W:World} {c1 c2 c:Array Value} {t1 t2:TypeId} (y:((a.alloc (.cells c1 t1)).alloc (.cells c2 t2)).setRow a.heap.size c=W):au a W/\Hid (aM W a.heap.size t1 c)/\Hid (aM W (a.heap.size+1) t2 c2)/\Hid (W.heap.size=a.heap.size+1+1):=by
 obtain⟨w,b1,b2,s⟩:=It (w:=a) (c1:=c1) (t1:=t1) (c2:=c2) (t2:=t2) rfl;obtain⟨u,o,h,d⟩:=qJ y b1;exact⟨(d a (G w) (ah _)).out,u,h _ _ _ Qa b2,G (o.out.trans s.out)⟩
theorem BB {g:Rg} {ld:Int} {D:Option dl} (a:nY g):(oG g ld D).2.2.kind=0\/((oG g ld D).2.2.kind=1/\GY (oG g ld D).2.2)\/(oG g ld D).2.2.kind=2:=by
 unfold oG;split
 ·exact .inr (.inr rfl)
 repeat' split
 all_goals first|exact .inl rfl|exact .inr (.inr rfl)|exact .inr (.inl ⟨rfl,a 1,a 2,a 3,a 4,a 5,a 6⟩)
theorem Iu (d:Option (Int×Int×Bool)): ∃w u h o,CM d= .tuple #[.int .i64 w, .int .i64 u, .bool h, .bool o]/\d=(if o=true then some (w,u,h)else none)/\(o=false->h=false):=by
 rcases d with _|⟨a,n,wr⟩
 ·exact⟨0,0,false,false,rfl,rfl,λ_=>rfl⟩
 ·exact⟨a,n,wr,true,rfl,rfl,λy=>(by cases y)⟩
theorem Al (b:Nat) (a:lq) (sz:Nat) (g:Rg) (I:Value) (u:Nat) (ab:Rs) (w:World) (aa:RB w b a sz g I (oz u)) (bB:FT w) (a5:tL w (λk=>k≠b) I ab) (b4:u<=ab.length) (b6:ab.length<=1000000000) (a2:sz<=4096) (cb:nY g) (cF: -5000000000<=g.pc/\g.pc<=5000000000):
  Calls prog 45 #[.pointer (some ⟨b,0,none⟩)] w λe w'=>Mv (λk=>k=b) w w'/\G0 b sz I (p4 sz ab ⟨a,g,u⟩) e w':=by
 have c6:=Fi bB aa;have y:=G (xn sz ab ⟨a,g,u⟩);have cU:=G (show Ru.fails ⟨a,g,u⟩=⟨2,0,0,0,0,[],u⟩from rfl);simp only[cU.out]at y;generalize p4 sz ab ⟨a,g,u⟩=ao at*;have ac:=G (fun(W:World) (a:lq) (g:Rg) (ct:Int) o1 o2 o3 o4 o5 (u:Nat) (ah:RB W b a sz g I [.int .i64 0,o1,o2,o3,o4,o5, .int .i64 (u:Int)])=>xE b a sz g I _ _ _ _ _ _ _ ct W ah);have aJ:=G (fun(W:World) (a:lq) (g:Rg) ol (d:Int) (n:Nat) (ha: -10000000000<=d/\d<=10000000000) (av:n<=9223372036854775807) (ah:RB W b a sz g I ol)=>xz b a sz g I ol d n ha av a2 W ah);have ai:=G aa;have ck:=G bB;have cR:=G a5;have aj:=G (fun(W:World) (a:lq) (g:Rg) (t:wW) (ah:RB W b a sz g I (oz u)) (a5:tL W (λk=>k≠b) I ab) (bl:GY t)=>vQ b a sz g I u ab t W ah a5 b4 b6 a2 bl);have aZ:=G cb;have c9:=G a2;clear aa bB a5 a2 cb b4 b6;obtain⟨cD,cC⟩:=cF;obtain⟨T,bt⟩: ∃T,g.pc.tmod 4=T:=⟨_,rfl⟩
 have a6:=ai.out.pc;have az:=G (aJ.out w a g _ g.pc 4 Qa Qd ai.out);obtain⟨A,R⟩: ∃A,gC sz g.pc 4=A:=⟨_,rfl⟩
 have aA:=G (fun(aa:A=true)=>jN (R.trans aa) (by decide:0<4));simp only[bt,R]at y az;have da:=G bt;obtain⟨bU,bn⟩: ∃bU,g.pc=bU:=⟨_,rfl⟩
 have bI:=G bn;rw[bn]at a6 az bt aA cD cC;clear R bn;go_enter func45,ntmps45;by_cases hT0:T=0
 rotate_left
 ·have M:=G (show ao= .error ⟨2,0,0,0,0,[],u⟩ by rw[y.out,if_pos (.inl hT0)]);have c5:(T !=0)=true:=by simp[hT0]
  clear y az aJ aj;go_wp2_with (go_at_call 89;refine(ac.out _ _ _ 2 _ _ _ _ _ _ ai.out).mono ?_;rintro e ak ⟨rfl,K,J⟩;have ad:=G K;have H:=G J;clear ac a6 K J);go_ret;exact⟨H.out,h_ ad.out M.out⟩
 subst hT0
 cases A with
 |false=>
  have M:=G (show ao= .error ⟨2,0,0,0,0,[],u⟩ by rw[y.out,if_pos (.inr rfl)]);clear y aJ aj;go_wp2_with (first|(go_at_call 88;refine az.out.mono ?_;rintro e ak ⟨rfl,rfl⟩;clear az)|(go_at_call 89;refine(ac.out _ _ _ 2 _ _ _ _ _ _ ai.out).mono ?_;rintro e ak ⟨rfl,K,J⟩;have ad:=G K;have H:=G J;clear ac a6 K J));go_ret;exact⟨H.out,h_ ad.out M.out⟩
 |true=>
  obtain⟨cE,cW⟩:=aA.out rfl;obtain⟨q,rfl⟩:=aW cE;rw[if_neg Qe]at y;clear aA;have c3:q+4<=4096:=Qa
  have c0:IntKind.i64.wrap ((q:Int)+4)=q+4:=Qc
  have a4: ∀w,(Instr.sliceAt 111 (.pointer (some ⟨b,0,none⟩)) (some (.int .i64 (q:Int))) (some (.int .i64 ((q:Int)+4))) none).run prog w= .ok (.slice (some ⟨b,q,none⟩) 4 (4096-q)) w:=λw=>Ho b q 4 Qa Qa w;have co:=G (show rP ⟨a,g,u⟩=fH (a q) (a (q+1)) (a (q+2)) (a (q+3)) by unfold rP;simp only[bI.out,bW]);rw[co.out]at y;have cl:=G (λW ld (bq:FT W) (ah:RB W b a sz g I (oz u))=>Bz g b q (4096-q) (a q) (a (q+1)) (a (q+2)) (a (q+3)) ld W bq (ah.at4 q Qa) Qa Qh aZ.out (by rw[bI.out];omega));have ch:=G (λld=>BC (b0:=a q) (b1:=a (q+1)) (b2:=a (q+2)) (b3:=a (q+3)) (ld:=ld) aZ.out (by rw[bI.out];omega));have bf:=G (λd n wr=> @Iv g (a q) (a (q+1)) (a (q+2)) (a (q+3)) d n wr aZ.out);obtain⟨am,aG,aX,a7,bZ,b9,b8⟩:=Iu (wV g (fH (a q) (a (q+1)) (a (q+2)) (a (q+3))));have cr:=G (λW (bq:FT W) (ah:RB W b a sz g I (oz u))=>by have:=wU g b q (4096-q) (a q) (a (q+1)) (a (q+2)) (a (q+3)) W bq (ah.at4 q Qa) Qa Qh aZ.out;rw[bZ]at this;exact this);generalize fH (a q) (a (q+1)) (a (q+2)) (a (q+3))=D at*;have aD:=G b9;have cV:=G b8;clear co bZ b9 b8
  go_upto_region 5 with(go_at_call 88;refine az.out.mono ?_;rintro e ak ⟨rfl,rfl⟩;clear az)
  go_upto_region 7 with(first|(refine wpList_load_mid rfl 109 _ rfl b 4097 rfl g.cs.toList _ ai.out.regs underlying109 rfl Qb ?_)|(go_at_call 90;refine(cr.out _ ck.out ai.out).mono ?_;rintro e ak ⟨rfl,z⟩;have aC:=G z;clear cr z))
  have ad:=G (ai.out.ext aC.out);clear a6 a4
  go_upto_if 47 with fail
  go_cut [9]from 48 to 74 (λcB aE=> ∃ld,cB= .int .i64 ld/\Hid (ld=xB ⟨a,g,u⟩ D)/\Hid (au w aE)/\Hid (ET sz ⟨a,g,u⟩ D=false))
  case first=>
   cases a7 with
   |false=>
    have V:=G (show wV g D=none by rw[aD.out];rfl);go_wp2_with fail
    go_meet
    exact⟨0,rfl,G (by unfold xB;simp only;rw[V.out]),aC,G (by unfold ET;simp only;rw[V.out])⟩
   |true=>
    have V:=G (show wV g D=some (am,aG,aX) by rw[aD.out];rfl);obtain⟨⟨a0,a8⟩,av⟩:=bf.out am aG aX V.out;have ba:=G (λn av=>aJ.out ak a g _ am n Qa av ad.out);clear aD bf aJ;rcases av with rfl|rfl
    ·have H:=G (ba.out 1 Qd);obtain⟨A,R⟩: ∃A,gC sz am 1=A:=⟨_,rfl⟩
     have aA:=G (fun(aa:A=true)=>jN (R.trans aa) (by decide:0<1));have a1:=G (show ET sz ⟨a,g,u⟩ D= !A by unfold ET;simp only;rw[V.out];simp only[Int.reduceToNat,R]);rw[R]at H;clear R ba
     cases A with
     |false=>
      have M:=G (show ao= .error ⟨2,0,0,0,0,[],u⟩ by rw[y.out,if_pos (by rw[a1.out];rfl)]);clear y aj;go_wp2_with (first|(go_at_call 88;refine H.out.mono ?_;rintro e aF ⟨rfl,rfl⟩;clear H)|(go_at_call 89;refine(ac.out _ _ _ 2 _ _ _ _ _ _ ad.out).mono ?_;rintro e aF ⟨rfl,K,J⟩;have ar:=G K;have bK:=G J;clear ac K J));go_ret;exact⟨(cQ aC.out).trans bK.out,h_ ar.out M.out⟩
     |true=>
      obtain⟨aN,bV⟩:=aA.out rfl;obtain⟨d,rfl⟩:=aW aN;have cH:(d:Int)<4096:=Qa
      have ca:d<4096:=Qa
      have cJ:=ad.out.mem d ca;have bL:=G (show xB ⟨a,g,u⟩ D=((a d).toNat:Int) by unfold xB;simp only;rw[V.out];simp);have cO:=G (show wrap64 ((a d).toNat:Int)=(a d).toNat by have:=(a d).toNat_lt;unfold wrap64;omega);go_wp2_with (go_at_call 88;refine H.out.mono ?_;rintro e aF ⟨rfl,rfl⟩;clear H)
      go_meet
      exact⟨_,rfl,G (cO.out.trans bL.out.symm),aC,G (by rw[a1.out];rfl)⟩
    ·have H:=G (ba.out 4 Qd);obtain⟨A,R⟩: ∃A,gC sz am 4=A:=⟨_,rfl⟩
     have aA:=G (fun(aa:A=true)=>jN (R.trans aa) (by decide:0<4));have a1:=G (show ET sz ⟨a,g,u⟩ D= !A by unfold ET;simp only;rw[V.out];simp only[Int.reduceToNat,R]);rw[R]at H;clear R ba
     cases A with
     |false=>
      have M:=G (show ao= .error ⟨2,0,0,0,0,[],u⟩ by rw[y.out,if_pos (by rw[a1.out];rfl)]);clear y aj;go_wp2_with (first|(go_at_call 88;refine H.out.mono ?_;rintro e aF ⟨rfl,rfl⟩;clear H)|(go_at_call 89;refine(ac.out _ _ _ 2 _ _ _ _ _ _ ad.out).mono ?_;rintro e aF ⟨rfl,K,J⟩;have ar:=G K;have bK:=G J;clear ac K J));go_ret;exact⟨(cQ aC.out).trans bK.out,h_ ar.out M.out⟩
     |true=>
      obtain⟨aN,bV⟩:=aA.out rfl;obtain⟨d,rfl⟩:=aW aN;have cH:(d:Int)<4096:=Qa
      have ca:d+4<=4096:=Qa
      have cJ:=ad.out.mem d Qa;have bY:IntKind.i64.wrap ((d:Int)+4)=d+4:=Qc
      have a4: ∀w,(Instr.sliceAt 111 (.pointer (some ⟨b,0,none⟩)) (some (.int .i64 (d:Int))) (some (.int .i64 ((d:Int)+4))) none).run prog w= .ok (.slice (some ⟨b,d,none⟩) 4 (4096-d)) w:=λw=>Ho b d 4 Qa Qa w;have bL:=G (show xB ⟨a,g,u⟩ D=zL a d by unfold xB;simp only;rw[V.out];simp);have cd:=G (za b d (4096-d) (a d) (a (d+1)) (a (d+2)) (a (d+3)) ak (ad.out.at4 d Qa) Qa Qh);go_wp2_with (first|(go_at_call 88;refine H.out.mono ?_;rintro e aF ⟨rfl,rfl⟩;clear H)|(go_at_call 91;refine cd.out.mono ?_;rintro e aF ⟨rfl,z⟩;have aK:=G z;clear cd z))
      go_meet
      exact⟨_,rfl,G bL.out.symm,G (aC.out.trans aK.out),G (by rw[a1.out];rfl)⟩
  case rest=>
   obtain⟨ld,rfl,ci,aK,bP⟩:=hcut;rw[bP.out,if_neg Qd,<-ci.out]at y;obtain⟨cf,cP⟩:=ch.out ld;have cT:=G cf;have ar:=G (ai.out.ext aK.out);have cj:=G (ck.out.ext aK.out);have bG:=G (cl.out wc ld cj.out ar.out);have aH:=G (BB (ld:=ld) (D:=D) aZ.out);generalize oG g ld D=cK at*;obtain⟨af,X,t⟩:=cK;obtain⟨al,bj,a0,a8,bF,bE,bk⟩:=t;simp only[wW.val]at y bG aH cT cP;clear cf ch cl ci aC ad aJ;have c4:b<w.heap.size:=qP ai.out
   go_upto_region 14 with(first|(refine wpList_load_mid rfl 109 _ rfl b 4097 rfl g.cs.toList _ ar.out.regs underlying109 rfl Qb ?_)|(go_at_call 92;refine bG.out.mono ?_;rintro e cx ⟨rfl,z⟩;have bO:=G (aK.out.trans z);have cq:=G (ar.out.ext z);have cZ:=dm bO.out;clear bG z ar aK cj)|(refine wpList_store_row rfl 109 _ _ rfl _ _ rfl rfl _ _ ((aq cx _ _).alloc _) Qb rfl (fN _) ?_;generalize aV:World.setRow _ _ _=W5;obtain⟨bD,bT,bi,_⟩:=JG aV;have cp:=G (cq.out.ext bD);have cn:=G (bO.out.trans bD);clear aV bD cq bO)|(refine wpList_store_row rfl 181 _ _ rfl _ _ rfl rfl _ _ bi.out Qb rfl Ql ?_;generalize aV:World.setRow W5 _ _=W6;obtain⟨bh,_,Z,bX⟩:=qJ aV bi;have bS:=Z _ _ _ Qa bT;have bN:=bX _ cn Qa;have be:=G (show RB W6 b a sz g I (oz u)from Z _ _ _ Qa cp);clear aV Z bX cn cp bT bi))
   have aY:=bh.out.cell;have cm:=G (show BD sz ab ⟨a,g,u⟩ (af,X,⟨al,bj,a0,a8,bF,bE,bk⟩) (Fg ⟨a,g,u⟩ D X)=if al=2 then .error ⟨2,0,0,0,0,[],u⟩else if al=1 then E8 sz ab ⟨al,bj,a0,a8,bF,bE,bk⟩ ⟨Fg ⟨a,g,u⟩ D X,af,u⟩else .ok ⟨Fg ⟨a,g,u⟩ D X,af,u⟩from rfl);rw[cm.out]at y;clear cm;by_cases hk2:al=2
   ·subst hk2;have M:=G (show ao= .error ⟨2,0,0,0,0,[],u⟩ by rw[y.out,if_pos rfl]);clear y aj aH;go_wp2_with (go_at_call 89;refine(ac.out _ _ _ 2 _ _ _ _ _ _ be.out).mono ?_;rintro e bQ ⟨rfl,K,J⟩;have aM:=G K;have bd:=G J;clear ac aY K J);go_ret;exact⟨(cQ bN.out).trans bd.out,h_ aM.out M.out⟩
   rw[if_neg hk2]at y;have cG:(al==2)=false:=Qn.2 hk2;have cY:=dm bN.out
   go_upto_region 17 with(first|(refine ce rfl 109 _ rfl _ rfl _ (dh bS) ?_)|(refine wpList_store_mid rfl 109 _ _ rfl b 4097 af.cs rfl rfl (be.out.there rfl 4097 _ (show 4097+17<=4122 by decide)) Qb (fN _) ?_;obtain⟨cc,bv,_⟩:=be.out.setRegs af;have aM:=G cc;have bd:=G ((cQ bN.out).trans bv);have bR:=G (oT bv bh.out Qa);generalize World.setCells W6 b 4097 af.cs.toList=cL at*;clear cc bv bh bS be aY;(try go_simp)))
   clear cG;obtain⟨ap,bu⟩: ∃ap,Fg ⟨a,g,u⟩ D X=ap:=⟨_,rfl⟩
   have bb:=G bu;rw[bu]at y;clear bu
   go_cut [98]from 95 to 97 (λcA aE=> ∃kb:Bool,cA= .bool kb/\Hid ((a7&&aX)=kb)/\aE=cL)
   case first=>
    cases a7<;>cases aX;all_goals
     go_wp2_with fail
     go_meet
     exact⟨_,rfl,G rfl,rfl⟩
   obtain⟨kb,rfl,bM,rfl⟩:=hcut
   go_upto_if 98 with fail
   have cX:wc.heap.size=wc.heap.size:=rfl
   go_cut []from 99 to 109 (λaE=>Hid (RB aE b ap sz af I (oz u))/\Hid (Mv (λk=>k=b) wc aE))
   case first=>
    cases kb with
    |false=>
     have a9:=G (show ap=a by
      rw[<-bb.out];unfold Fg;simp only;rw[aD.out]
      cases a7 with
      |false=>rfl
      |true=>
       have:aX=false:=bM.out
       rw[this];rfl)
     go_wp2_with fail
     go_meet
     exact⟨by rw[a9.out];exact aM,G (gn _ _)⟩
    |true=>
     have b7:=bM.out;rw[an]at b7;obtain⟨rfl,rfl⟩:=b7;have V:=G (show wV g D=some (am,aG,true) by rw[aD.out];rfl);obtain⟨⟨c8,c7⟩,av⟩:=bf.out am aG true V.out;have b5:gC sz am aG.toNat=true:=by
      have:=bP.out;unfold ET at this;simp only at this;rw[V.out]at this;simpa using this
     obtain⟨aN,bV⟩:=jN b5 Qa;obtain⟨d,rfl⟩:=aW aN;have a9:=G (show ap=lf a d ((lx X).take aG.toNat) by rw[<-bb.out];unfold Fg;simp only;rw[V.out];simp);have cg:=G (λW=>Dl X W);have a3:(lx X).length=4:=rfl;clear bb bM aD bP b5 V y aj bf aH;rcases av with rfl|rfl
     ·have bY:IntKind.i64.wrap ((d:Int)+1)=d+1:=Qc
      have a4: ∀w,(Instr.sliceAt 111 (.pointer (some ⟨b,0,none⟩)) (some (.int .i64 (d:Int))) (some (.int .i64 ((d:Int)+1))) none).run prog w= .ok (.slice (some ⟨b,d,none⟩) 1 (4096-d)) w:=λw=>Ho b d 1 Qa Qa w
      go_upto_region 18 with fail
      refine aB 10 9 [(9,λv=> ∃F,v= .slice (some ⟨F,0,none⟩) 4 4,λv W=> ∃F,v= .slice (some ⟨F,0,none⟩) 4 4/\Sl W (some ⟨F,0,none⟩) 4 (lx X))] mixed Qb ⟨λv W cM ⟨F,e,Z⟩ z=>⟨F,e,Z.ext z⟩,trivial⟩ ?_;repeat (refine sx ?_ (λak ax=> ?_) ?_;rotate_left;(focus clear ax;go_simp<;>with_reducible rfl);simp only[bA,bx,bw,br,bo])
      refine cS _ _ Qf rfl ⟨_,0,rfl⟩ Qe (λbg ax ag cN bz=> ?_) ?_
      ·clear ag ax;go_simp;refine(cg.out bg).mono ?_;rintro e bQ ⟨rfl,z,Z⟩;exact bz _ _ z ⟨_,rfl⟩ ⟨_,rfl,Z⟩
      rintro _ ⟨F,rfl⟩;simp only[bA,bx,bw,br,bo];intro cw aO ag;obtain⟨cI,e,bm⟩:=ag _ (.head _);injection e with e;injection e with e;injection e with e;subst e;have aU:=G aO.un;clear ag aO;simp only[ae,aw];refine kz rfl _ _ rfl (aM.out.ext aU.out) d 1 _ rfl _ 4 4 (lx X) a3 rfl bm (by rw[bC,a3];simp;omega) λcv cy aT aQ _=> ?_;have aL:=G aT;have ay:=G ((cQ (S:=λk=>k=b) aU.out).trans aQ);clear aT aQ;go_wp2_with fail
      go_meet
      exact⟨by rw[a9.out];exact aL,ay⟩
     ·have bY:IntKind.i64.wrap ((d:Int)+4)=d+4:=Qc
      have a4: ∀w,(Instr.sliceAt 111 (.pointer (some ⟨b,0,none⟩)) (some (.int .i64 (d:Int))) (some (.int .i64 ((d:Int)+4))) none).run prog w= .ok (.slice (some ⟨b,d,none⟩) 4 (4096-d)) w:=λw=>Ho b d 4 Qa Qa w
      go_upto_region 18 with fail
      refine aB 10 9 [(9,λv=> ∃F,v= .slice (some ⟨F,0,none⟩) 4 4,λv W=> ∃F,v= .slice (some ⟨F,0,none⟩) 4 4/\Sl W (some ⟨F,0,none⟩) 4 (lx X))] mixed Qb ⟨λv W cM ⟨F,e,Z⟩ z=>⟨F,e,Z.ext z⟩,trivial⟩ ?_;repeat (refine sx ?_ (λak ax=> ?_) ?_;rotate_left;(focus clear ax;go_simp<;>with_reducible rfl);simp only[bA,bx,bw,br,bo])
      refine cS _ _ Qf rfl ⟨_,0,rfl⟩ Qe (λbg ax ag cN bz=> ?_) ?_
      ·clear ag ax;go_simp;refine(cg.out bg).mono ?_;rintro e bQ ⟨rfl,z,Z⟩;exact bz _ _ z ⟨_,rfl⟩ ⟨_,rfl,Z⟩
      rintro _ ⟨F,rfl⟩;simp only[bA,bx,bw,br,bo];intro cw aO ag;obtain⟨cI,e,bm⟩:=ag _ (.head _);injection e with e;injection e with e;injection e with e;subst e;have aU:=G aO.un;clear ag aO;simp only[ae,aw];refine kz rfl _ _ rfl (aM.out.ext aU.out) d 4 _ rfl _ 4 4 (lx X) a3 rfl bm (by rw[bC,a3];simp;omega) λcv cy aT aQ _=> ?_;have aL:=G aT;have ay:=G ((cQ (S:=λk=>k=b) aU.out).trans aQ);clear aT aQ;go_wp2_with fail
      go_meet
      exact⟨by rw[a9.out];exact aL,ay⟩
   case rest=>
    obtain⟨aL,ay⟩:=hcut;have cz:=G (oT ay.out bR.out Qa);have bc:=G (bd.out.trans ay.out);have aY:=cz.out.cell;clear aM bd ay bR bb aD cV ac;rcases aH.out with aS|⟨aS,bl⟩|aS
    ·have bp:al=0:=aS;subst bp;have M:=G (show ao= .ok ⟨ap,af,u⟩ by rw[y.out,if_neg Qd]);clear y aj aH;go_wp2_with fail;go_ret;exact⟨bc.out,by rw[M.out];exact⟨rfl,aL.out⟩⟩
    ·have bp:al=1:=aS;subst bp;have M:=G (show ao=E8 sz ab ⟨1,bj,a0,a8,bF,bE,bk⟩ ⟨ap,af,u⟩ by rw[y.out,if_pos rfl]);have aI:=G (aj.out wc ap af _ aL.out (cR.out.keep (bc.out.keepP λk aa _=>aa)) bl);rw[<-M.out]at aI;simp only[wW.val]at aI;clear y aj aH M
     cases ao with
     |ok s=>
      go_wp2_with (go_at_call 94;refine aI.out.mono ?_;rintro e cu ⟨aR,rfl,aP⟩;have bJ:=G aR;have bH:=G aP;clear aI aR aP aY);go_ret;exact⟨bc.out.trans bJ.out,rfl,bH.out⟩
     |error o=>
      go_wp2_with (go_at_call 94;refine aI.out.mono ?_;rintro e cu ⟨aR,rfl,aP⟩;have bJ:=G aR;have bH:=G aP;clear aI aR aP aY);go_ret;exact⟨bc.out.trans bJ.out,rfl,bH.out⟩
    ·exact absurd aS hk2
end
end Go.Proofs.YtoedmpgicdekmaaGreatDoor
