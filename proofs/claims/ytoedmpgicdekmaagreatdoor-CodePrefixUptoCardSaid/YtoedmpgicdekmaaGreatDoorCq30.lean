/-
  Parts of the proof: CrB CrC.
-/
import Derived.Test.YtoedmpgicdekmaaGreatDoorCq00
import Derived.Test.YtoedmpgicdekmaaGreatDoorCq28
import Derived.Test.YtoedmpgicdekmaaGreatDoorCq29
set_option maxRecDepth 100000
set_option maxHeartbeats 8000000
set_option linter.unusedVariables false
set_option linter.unusedSimpArgs false
set_option linter.unusedSectionVars false
namespace Go.Proofs.YtoedmpgicdekmaaGreatDoor
open Go.Proofs.Tryz
section
open Go.RowKit
theorem Bb (n:Int) (w:World):Calls prog 93 #[.int .i64 n] w fun e w'=>e= .returned (.slice (some ⟨w.heap.size,0,none⟩) 4 4)/\au w w'/\Sl w' (some ⟨w.heap.size,0,none⟩) 4 (j4 n):=by
 have HQ:=G (show j4 n=[b8 n,b8 (n/256),b8 (n/65536),b8 (n/16777216)]from rfl);have w0:=gB n;have w1:=gB (n/256);have w2:=gB (n/65536);have w3:=gB (n/16777216);generalize j4 n=Q at*;generalize b8 n=q0 at*;generalize b8 (n/256)=q1 at*;generalize b8 (n/65536)=q2 at*;generalize b8 (n/16777216)=q3 at*;go_enter func93,ntmps93;go_wp2_with fail;go_ret;exact⟨rfl,aa w _,by rw[HQ.out];exact qs (aw w _ _)⟩
theorem wU (b o c:Nat) (b0 b1 b2 b3:UInt8) (w:World) (h4:tn w b o b0 b1 b2 b3) (hc:4<=c) (hc2:c<=maxLen):
  Calls prog 91 #[.slice (some ⟨b,o,none⟩) 4 c] w fun e w'=>e= .returned (.tuple #[.int .i64 (tz (b0.toNat+256*b1.toNat+65536*b2.toNat+16777216*b3.toNat)), .int .i64 0])/\au w w':=by
 obtain⟨hb,q0,q1,q2,q3⟩:=h4;unfold oY at q0 q1 q2 q3;have h0:=b0.toNat_lt;have h1:=b1.toNat_lt;have h2:=b2.toNat_lt;have h3:=b3.toNat_lt;have HR:=G (show ∀z,z=(b0.toNat+256*b1.toNat+65536*b2.toNat+16777216*b3.toNat:Int)->tz (b0.toNat+256*b1.toNat+65536*b2.toNat+16777216*b3.toNat)=tz z from fun z h=>by rw[h]);generalize tz (b0.toNat+256*b1.toNat+65536*b2.toNat+16777216*b3.toNat)=R at*;generalize b0.toNat=n0 at*;generalize b1.toNat=n1 at*;generalize b2.toNat=n2 at*;generalize b3.toNat=n3 at*;have e1:=u32_or8 (n0:Int) (n1*256) (by omega) (by omega) (by omega) (by omega) (by omega);have e2:=u32_or16 (n0+n1*256:Int) (n2*65536) (by omega) (by omega) (by omega) (by omega) (by omega);have e3:=u32_or24 (n0+n1*256+n2*65536:Int) (n3*16777216) (by omega) (by omega) (by omega) (by omega) (by omega);have f1:=u32_wrap_id (n1*256) (by omega) (by omega);have f2:=u32_wrap_id (n2*65536) (by omega) (by omega);have f3:=u32_wrap_id (n3*16777216) (by omega) (by omega);have HR2:=G (HR.out (n0+n1*256+n2*65536+n3*16777216) (by omega));clear HR;obtain⟨z,hz⟩: ∃z:Int,(n0+n1*256+n2*65536+n3*16777216:Int)=z:=⟨_,rfl⟩
 have r:=uI z;have HV:=G (show IntKind.i32.wrap z=tz z from rfl);have hv:IntKind.i64.wrap (tz z)=tz z:=by unfold Fe at r;simp[IntKind.wrap,IntKind.signed,IntKind.bits];omega
 rw[hz]at e3 HR2;have hv0:=HV.out;generalize tz z=V at*;go_enter func91,ntmps91;go_wp2_with fail
 go_quiet (fail)
 go_wp2_with fail;go_ret2;exact⟨by rw[HR2.out];rfl,(aG w).drewN _⟩
theorem wk (g:Rg) (v:Int):g.reply v=g.upd 1 (tz v):=rfl
theorem wl (g:Rg) (v:Int) (w:World):Calls prog 148 #[.agg g.cs, .int .i64 v] w fun e w'=>e= .returned (.agg (g.reply v).cs)/\au w w':=by
 rw[wk];have g1:=ii g 1 (by decide);have hv:=G (show IntKind.i32.wrap v=tz v from rfl);have hv0:=hv.out;generalize tz v=V at*;go_enter func148,ntmps148
 go_upto_region 1 with fail
 generalize hW:World.alloc (World.alloc w _) _=W0;obtain⟨hX,r,q,s⟩:=E6 hW;replace hX:=G hX;clear hW;have cr:=r.out.cell;have fr:=r.out.frozen
 go_upto_region 2 with fail
 generalize hW:World.setCell W0 _ _=W1;obtain⟨s1,hg,hs,hx⟩:=rO hW;replace r:=hg _ _ r;replace q:=hs _ _ _ (by omega) q;replace hX:=hx _ hX (by omega);rw[nX _ _ 1 (by decide)]at r;clear hW hs hg hx cr fr;go_wp2_with (first|(refine bU rfl 109 _ rfl _ rfl _ (cP r) ?_)|(refine wpList_store_row rfl 109 _ _ rfl _ _ rfl rfl _ _ q.out (by kernel_rfl) rfl (eT _) ?_;generalize hW:World.setRow W1 _ _=W7;obtain⟨q7,_,hs,hx⟩:=oQ hW q;replace hX:=hx _ hX (by omega);clear hW hs hx q r));have hl:=cP q7;refine bodyPost_ret (v:= .agg (g.upd 1 V).cs) ?_ rfl ⟨rfl,hX.out⟩;simp[results,results148,asAddr,hl,Act.put]
theorem vZ (n:Int) (w:World):Calls prog 43 #[.int .i64 n] w fun e w'=>e= .returned (.agg (qu n).cs)/\au w w':=by
 go_enter func43,ntmps43
 go_upto_region 1 with fail
 generalize hW:World.alloc w _=W0;obtain⟨hX,q,s⟩:=jm hW;replace hX:=G hX;clear hW
 go_upto_region 3 with fail
 generalize hW:World.alloc W0 _=W1;obtain⟨hE,r,s1⟩:=jm hW;replace hX:=kx hX hE;replace q:=kb q hE;replace r:=show Hid (aP W1 W0.heap.size 109 (qu n).cs)from r;clear hW hE;go_wp2_with (first|(refine bU rfl 109 _ rfl _ rfl _ (cP r) ?_)|(refine wpList_store_row rfl 109 _ _ rfl _ _ rfl rfl _ _ q.out (by kernel_rfl) rfl (eT _) ?_;generalize hW:World.setRow W1 _ _=W7;obtain⟨q7,_,hs,hx⟩:=oQ hW q;replace hX:=hx _ hX (by omega);clear hW hs hx q r));have hl:=cP q7;refine bodyPost_ret (v:= .agg (qu n).cs) ?_ rfl ⟨rfl,hX.out⟩;simp[results,results43,asAddr,hl,Act.put]
def AA:Option (Int×Int×Bool)->Value
 |none=> .tuple #[.int .i64 0, .int .i64 0, .bool false, .bool false]
 |some (a,n,wr)=> .tuple #[.int .i64 a, .int .i64 n, .bool wr, .bool true]
theorem uC (g:Rg) (b o c:Nat) (b0 b1 b2 b3:UInt8) (w:World) (hF:FT w) (h4:tn w b o b0 b1 b2 b3) (hc:4<=c) (hc2:c<=maxLen) (hR:md g):
  Calls prog 90 #[.agg g.cs, .slice (some ⟨b,o,none⟩) 4 c] w fun e w'=>e= .returned (AA (uD g (eO b0 b1 b2 b3)))/\au w w':=by
 have HD:=G (fun W (h:au w W)=>ep b o c b0 b1 b2 b3 W (hF.ext h) (h4.ext h) hc hc2);have HB:=G (fun x (h:eO b0 b1 b2 b3=some x)=>oF h);clear hF h4 hc hc2;generalize eO b0 b1 b2 b3=D at*
 cases D with
 |none=>
  unfold zC at HD;go_enter func90,ntmps90
  go_upto_region 1 with fail
  generalize hW:World.alloc w _=W0;obtain⟨hX,r,s⟩:=jm hW;replace hX:=G hX;clear hW
  go_upto_region 2 with(go_at_call 86;refine(HD.out _ hX.out).mono ?_;rintro e w1 ⟨rfl,hE⟩;clear HD;replace hX:=kx hX hE)
  generalize hW:World.alloc w1 _=W1;obtain⟨hE,x,s1⟩:=jm hW;replace hX:=kx hX hE;clear hW hE;go_wp2_with fail;exact bodyPost_ret (v:=AA none) (by simp[results,results90,go_sem,AA]) rfl ⟨rfl,hX.out⟩
 |some x=>
  have hB:=HB.out x rfl;have HP:=G (fun W=>fY g x W (hR _) (by have:=hB.b;omega) (by have:=hB.c;omega));have hpl: -5000000000<=(bL g x).1/\(bL g x).1<=5000000000:=by
   have:=hB.c;have:=hR x.b.toNat;unfold bL;split<;>(try split)<;>simp only<;>omega
  unfold zC at HD;simp only at HD;obtain⟨k,ra,rb,rc,xv⟩:=x;have HA:=G (show uD g (some ⟨k,ra,rb,rc,xv⟩)=if(bL g ⟨k,ra,rb,rc,xv⟩).2=0\/(bL g ⟨k,ra,rb,rc,xv⟩).1.tmod (bL g ⟨k,ra,rb,rc,xv⟩).2≠0 then none else some ((bL g ⟨k,ra,rb,rc,xv⟩).1,(bL g ⟨k,ra,rb,rc,xv⟩).2,decide (k=15\/k=17))from rfl);have hS:(bL g ⟨k,ra,rb,rc,xv⟩).2=if k=14\/k=15 then 4 else if k=16\/k=17 then 1 else 0:=by unfold bL;simp only;split;rfl;split<;>rfl
  generalize uD g (some ⟨k,ra,rb,rc,xv⟩)=R at*;generalize bL g ⟨k,ra,rb,rc,xv⟩=p at*;obtain⟨PA,PS⟩:=p;simp only at*;obtain⟨T,hT⟩: ∃T,PA.tmod 4=T:=⟨_,rfl⟩
  have t1:=Int.tmod_one PA;unfold cQ.val at HD HP;simp only at HD HP;clear hB HB;have HK:(PS=0/\Hid (R=none))\/(PS=4/\T≠0/\Hid (R=none))\/(PS=4/\T=0/\k=14/\Hid (R=some (PA,4,false)))\/(PS=4/\T=0/\k=15/\Hid (R=some (PA,4,true)))\/(PS=1/\k=16/\Hid (R=some (PA,1,false)))\/(PS=1/\k=17/\Hid (R=some (PA,1,true))):=by
   unfold Hid;have hA:=HA.out;rw[hS]at hA⊢;clear HD HP HA;rcases(show k=14\/k=15\/k=16\/k=17\/(¬(k=14\/k=15)/\ ¬(k=16\/k=17)) by omega)with rfl|rfl|rfl|rfl|⟨h1,h2⟩
   ·by_cases h:T=0<;>simp_all
   ·by_cases h:T=0<;>simp_all
   ·simp_all
   ·simp_all
   ·rw[if_neg h1,if_neg h2]at hA⊢;simp_all
  clear hS HA;rcases HK with⟨rfl,HR⟩|⟨rfl,h5,HR⟩|⟨rfl,rfl,rfl,HR⟩|⟨rfl,rfl,rfl,HR⟩|⟨rfl,rfl,HR⟩|⟨rfl,rfl,HR⟩
  rotate_left 1
  ·have hm2:(T==0)=false:=beq_eq_false_iff_ne.2 h5;clear h5;go_enter func90,ntmps90
   go_upto_region 1 with fail
   generalize hW:World.alloc w _=W0;obtain⟨hX,r,s⟩:=jm hW;replace hX:=G hX;clear hW
   go_upto_region 2 with(go_at_call 86;refine(HD.out _ hX.out).mono ?_;rintro e w1 ⟨rfl,hE⟩;clear HD;replace hX:=kx hX hE;replace r:=kb r hE)
   generalize hW:World.alloc w1 _=W1;obtain⟨hE,x,s1⟩:=jm hW;replace hX:=kx hX hE;replace r:=kb r hE;clear hW hE;have cx:=x.out.cell;go_wp2_with (first|(refine bU rfl 109 _ rfl _ rfl _ (cP r) ?_)|(go_at_call 145;refine(HP.out _).mono ?_;rintro e w2 ⟨rfl,hE⟩;clear HP cx;replace hX:=kx hX hE));exact bodyPost_ret (v:=AA R) (by rw[HR.out];simp[results,results90,go_sem,AA]) rfl ⟨rfl,hX.out⟩
  all_goals
   go_enter func90,ntmps90
   go_upto_region 1 with fail
   generalize hW:World.alloc w _=W0;obtain⟨hX,r,s⟩:=jm hW;replace hX:=G hX;clear hW
   go_upto_region 2 with(go_at_call 86;refine(HD.out _ hX.out).mono ?_;rintro e w1 ⟨rfl,hE⟩;clear HD;replace hX:=kx hX hE;replace r:=kb r hE)
   generalize hW:World.alloc w1 _=W1;obtain⟨hE,x,s1⟩:=jm hW;replace hX:=kx hX hE;replace r:=kb r hE;clear hW hE;have cx:=x.out.cell
   go_upto_region 5 with(first|(refine bU rfl 109 _ rfl _ rfl _ (cP r) ?_)|(go_at_call 145;refine(HP.out _).mono ?_;rintro e w2 ⟨rfl,hE⟩;clear HP cx;replace hX:=kx hX hE;replace x:=kb x hE;have cx:=x.out.cell))
  rotate_left 4
  ·go_wp2_with fail;exact bodyPost_ret (v:=AA R) (by rw[HR.out];simp[results,results90,go_sem,AA]) rfl ⟨rfl,hX.out⟩
  all_goals
   go_wp2_with fail
   go_quiet (fail)
   go_wp2_with fail;exact bodyPost_ret (v:=AA R) (by rw[HR.out];simp[results,results90,go_sem,AA]) rfl ⟨rfl,hX.out.drewN _⟩
end
section
open Go.RowKit
theorem Br (w:World) (g i:Nat) (v:Value):Mv (fun x=>x=g) w (w.setCell ⟨g,i,none⟩ v):=Mv.set (S:=fun x=>x=g) (fA _ _) (p:=⟨g,i,none⟩) (fun _=>rfl) v
def sk (sz:Nat) (a:Int) (k:Nat):Bool:=decide (0<=a)&&(decide (a+k<4096)&&(decide (a+k<sz)||decide (3072<=a+k)))
theorem i' (sz:Nat) (a:Int) (k:Nat):fK sz a (k+1)=(fK sz a k&&sk sz a k):=rfl
theorem wG {sz:Nat} {a:Int} {j n:Nat} (h:fK sz a n=true) (hj:j<=n):fK sz a j=true:=by
 induction n with
 |zero=>
  obtain rfl:j=0:=by omega
  exact h
 |succ n ih=>
  rw[i',ak]at h;rcases eg j (n+1)with h1|h1
  ·exact ih h.1 (by omega)
  ·obtain rfl:j=n+1:=by omega
   rw[i',h.1,h.2];rfl
theorem Bw {sz:Nat} {a:Int} {j n:Nat} (hj:j<n) (h:sk sz a j=false):fK sz a n=false:=by
 cases e:fK sz a n with
 |false=>rfl
 |true=>
  have:=wG e (show j+1<=n by omega);rw[i',h,j3]at this;exact this.symm
theorem iE {sz:Nat} {a:Int} {n:Nat} (h:fK sz a n=true) (hn:0<n):0<=a/\a+n<=4096:=by
 obtain⟨k,rfl⟩: ∃k,n=k+1:=⟨n-1,by omega⟩
 rw[i',ak]at h;have h2:=h.2;unfold sk at h2;simp only[ak,decide_eq_true_eq]at h2;omega
theorem uX (b:Nat) (M:jN) (sz:Nat) (g:Rg) (rv:Value) (ol:List Value) (a:Int) (n:Nat) (ha: -10000000000<=a/\a<=10000000000) (hn:n<=9223372036854775807) (hz:sz<=4096) (w:World) (h:RB w b M sz g rv ol):
  Calls prog 88 #[.pointer (some ⟨b,0,none⟩), .int .i64 a, .int .i64 n] w fun e w'=>e= .returned (.bool (fK sz a n))/\w=w':=by
 have cs:=h.size;have HN:=G (fun j=> @Bw sz a j n);have HS:=G (i' sz a);have HZ:=G (show fK sz a 0=true from rfl)
 have HI:=G (fun j (h:fK sz a j=true)=>show j<=4096 by
  rcases j with _|j
  ·omega
  ·have:=iE h (by omega);omega)
 generalize fK sz a=L at*;obtain⟨a0,a1⟩:=ha;clear h;go_enter func88,ntmps88
 go_upto_region 2 with fail
 go_loopw [11] (fun v wr=> ∃j:Nat,v= .int .i64 (j:Int)/\j<=n/\w=wr/\Hid (L j=true)) (fun v _=>n-(intOf v).toNat)
 case atStart=>exact⟨0,rfl,aC _,rfl,HZ⟩
 case round=>
  obtain⟨j,rfl,hj,rfl,HL⟩:=hrel;have hj4:=HI.out j HL.out;by_cases hlt:j<n
  ·have hlt':(j:Int)<n:=by omega
   have w1:IntKind.i64.wrap (a+j)=a+j:=by simp[IntKind.wrap,IntKind.signed,IntKind.bits];omega
   have w2:IntKind.i64.wrap (4096-(j:Int))=4096-j:=by simp[IntKind.wrap,IntKind.signed,IntKind.bits];omega
   by_cases h1:a<0
   ·go_wp2_with fail;go_ret;exact⟨by rw[HN.out j hlt (by simp[sk];omega)];rfl,rfl⟩
   have h1': ¬a<0:=h1;by_cases h2:4096-(j:Int)<=a
   ·go_wp2_with fail;go_ret;exact⟨by rw[HN.out j hlt (by simp[sk];omega)];rfl,rfl⟩
   by_cases h3:(sz:Int)<=a+j
   ·by_cases h4:a+(j:Int)<3072
    ·go_wp2_with fail;go_ret;exact⟨by rw[HN.out j hlt (by simp[sk];omega)];rfl,rfl⟩
    ·have HC:=G (show L (j+1)=true by rw[HS.out,HL.out];simp[sk];omega);go_wp2_with fail;go_roundw
     case rel=>exact⟨j+1,by go_num,by omega,by trivial,HC⟩
     case measure=>simp[intOf];omega
   ·have HC:=G (show L (j+1)=true by rw[HS.out,HL.out];simp[sk];omega);go_wp2_with fail;go_roundw
    case rel=>exact⟨j+1,by go_num,by omega,by trivial,HC⟩
    case measure=>simp[intOf];omega
  ·obtain rfl:j=n:=by omega
   have hlt': ¬(j:Int)<j:=by omega
   go_wp2_with fail;go_ret;exact⟨by rw[HL.out];rfl,rfl⟩
theorem ve (b:Nat) (M:jN) (sz:Int) (g:Rg) (rv:Value) (o0 o1 o2 o3 o4 o5 o6:Value) (k:Int) (w:World) (h:RB w b M sz g rv [o0,o1,o2,o3,o4,o5,o6]):
  Calls prog 89 #[.pointer (some ⟨b,0,none⟩), .int .i64 k] w fun e w'=>e= .returned (.bool false)/\RB w' b M sz g rv [.int .i64 k,o1,o2,o3,o4,o5,o6]/\Mv (· =b) w w':=by
 have c0:=h.out 0;have f0:=h.frz 4115;have HR:=G (h.setOut 0 (.int .i64 k));simp only[a7,cA,du]at c0 HR;clear h;go_enter func89,ntmps89;go_wp2_with fail;go_ret;exact⟨rfl,HR.out,Br _ _ _ _⟩
theorem Ez (g q k:Nat) (hq:q<4096) (hk:q+k<=4096) (w:World):(Instr.sliceAt 111 (.pointer (some ⟨g,0,none⟩)) (some (.int .i64 (q:Int))) (some (.int .i64 ((q:Int)+k))) none).run prog w= .ok (.slice (some ⟨g,q,none⟩) k (4096-q)) w:=by
 have hu:prog.underlying 111=some (.array (prog.arrayLen 111) (prog.elem 111)):=by kernel_rfl
 have hl:prog.arrayLen 111=4096:=by kernel_rfl
 have hs:(sizeOf (prog.elem 111)).run prog w= .ok 1 w:=by kernel_rfl
 rw[run_sliceAt_array_lh w 111 ⟨g,0,none⟩ hu .i64 .i64 (q:Int) ((q:Int)+k) (by omega) (by omega) (by rw[hl];omega),hs,hl];simp only[Result.andThen_ok,slicedAt,bP];rw[if_neg (by omega),Addr.add_lit,show((q:Int)+k).toNat=q+k by omega];simp
theorem Ew (g q:Nat) (hq:q<4096) (w:World):(Instr.sliceAt 111 (.pointer (some ⟨g,0,none⟩)) (some (.int .i64 (q:Int))) none none).run prog w= .ok (.slice (some ⟨g,q,none⟩) (4096-q) (4096-q)) w:=by
 have hu:prog.underlying 111=some (.array (prog.arrayLen 111) (prog.elem 111)):=by kernel_rfl
 have hl:prog.arrayLen 111=4096:=by kernel_rfl
 have hs:(sizeOf (prog.elem 111)).run prog w= .ok 1 w:=by kernel_rfl
 rw[run_sliceAt_array_l w 111 ⟨g,0,none⟩ hu .i64 (q:Int) (by omega) (by rw[hl];omega),hs,hl];simp only[Result.andThen_ok,slicedAt,bP];rw[if_neg (by omega),Addr.add_lit];simp
end
end Go.Proofs.YtoedmpgicdekmaaGreatDoor
