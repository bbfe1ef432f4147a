/-
  Parts of the proof: TySm.
-/
import Derived.Test.YtddomeddabfinaaGreatDoorTp00
import Derived.ChangeKeysEq
import Derived.Test.YtddomeddabfinaaGreatDoorTp31
set_option maxRecDepth 100000
set_option maxHeartbeats 8000000
set_option linter.unusedVariables false
set_option linter.unusedSimpArgs false
set_option linter.unusedSectionVars false
namespace Go.Proofs.YtddomeddabfinaaGreatDoor
open Go.Proofs.Tryz
open Go.RowKit
theorem Fj (a b c a' b' c':Int) (w:World):(Op.equalIn 10000 39 (.agg #[.int .i64 a, .int .i64 b, .int .i64 c]) (.agg #[.int .i64 a', .int .i64 b', .int .i64 c'])).run prog w= .ok ((a==a')&&((b==b')&&(c==c'))) w:=by
 obtain⟨i,hi⟩: ∃i,prog.info? 3=some i:=Option.isSome_iff_exists.1 (by kernel_rfl);have hp:prog.plainKey 3=true:=by kernel_rfl
 have hC:prog.cellsOf 3=1:=by kernel_rfl
 rw[show(10000:Nat)=9999+1 from rfl,run_equalIn_array w 9999 _ _ underlying39 hi,hC];have st: ∀(xs ys:Array Value) (j:Nat) (p q:Int) (is:List Nat),xs[j]? =some (.int .i64 p)->ys[j]? =some (.int .i64 q)->
   (Op.eqItems 9999 3 1 xs ys (j::is)).run prog w=if(p==q)then(Op.eqItems 9999 3 1 xs ys is).run prog w else .ok false w:=fun xs ys j p q is h1 h2=>by
  have p1:=run_part_plain w hp (off:=j*1) (xs:=xs) (by rw[kq];exact h1);have p2:=run_part_plain w hp (off:=j*1) (xs:=ys) (by rw[kq];exact h2);have p3:=run_equalIn_int w 9998 3 .i64 .i64 p q underlying3;simp only[Op.eqItems,Sem.run_bind,p1,p2,p3,Result.andThen_ok]
  cases p==q<;>simp
 show(Op.eqItems 9999 3 1 _ _ [0,1,2]).run prog w=_;rw[st _ _ 0 a a' _ rfl rfl,st _ _ 1 b b' _ rfl rfl,st _ _ 2 c c' _ rfl rfl]
 cases a==a'<;>cases b==b'<;>cases c==c'<;>simp[Op.eqItems]
theorem uG {w:World} {A:Option Addr} {cap n:Nat} {l:List UInt8} (hn:l.length=n) (h:Sl w A cap l):(Go.convert 40 9 (.slice A n cap)).run prog w= .ok (.string (ai l)) w:=by
 subst hn;exact h.convert underlying40 underlying5 underlying9
theorem lp {a b:Bool} (h:a=b):Ending.returned (.bool a)= .returned (.bool b):=by rw[h]
def D6 (x:Oc) (v:Value) (w:World):Prop:= ∃A c,v=zI x A c/\Sl w A c x.data
def ro (x y:Oc):Bool:=(x.kind==y.kind)&&((x.call==y.call)&&(((x.a0==y.a0)&&((x.a1==y.a1)&&(x.a2==y.a2)))&&((x.data==y.data)&&(x.used==y.used))))
theorem sU (x:Oc):ro x x=true:=by unfold ro;simp
theorem sV (x y:Oc) (u v:Value) (w:World) (hu:D6 x u w) (hv:D6 y v w):Calls prog 20 #[u,v] w fun e w'=>e= .returned (.bool (ro x y))/\au w w':=by
 obtain⟨I,ci,rfl,s1⟩:=hu;obtain⟨J,cj,rfl,s2⟩:=hv;obtain⟨xs,xd,xa,xb,xc,xl,xu⟩:=x;obtain⟨ys,yd,ya,yb,yc,yl,yu⟩:=y;simp only[zI]at s1 s2⊢;have he:au w ((w.alloc (.cells #[.int .i64 xs, .int .i64 xd, .int .i64 xa, .int .i64 xb, .int .i64 xc, .slice I xl.length ci, .int .i64 (xu:Int)] 47)).alloc (.cells #[.int .i64 ys, .int .i64 yd, .int .i64 ya, .int .i64 yb, .int .i64 yc, .slice J yl.length cj, .int .i64 (yu:Int)] 47)):=(O w _).alloc' _;have hc1:=((ap w 47 #[.int .i64 xs, .int .i64 xd, .int .i64 xa, .int .i64 xb, .int .i64 xc, .slice I xl.length ci, .int .i64 (xu:Int)]).alloc (.cells #[.int .i64 ys, .int .i64 yd, .int .i64 ya, .int .i64 yb, .int .i64 yc, .slice J yl.length cj, .int .i64 (yu:Int)] 47)).cell;have hc2:=(ap (w.alloc (.cells #[.int .i64 xs, .int .i64 xd, .int .i64 xa, .int .i64 xb, .int .i64 xc, .slice I xl.length ci, .int .i64 (xu:Int)] 47)) 47 #[.int .i64 ys, .int .i64 yd, .int .i64 ya, .int .i64 yb, .int .i64 yc, .slice J yl.length cj, .int .i64 (yu:Int)]).cell;have k1:=uG rfl (s1.ext he);have k2:=uG rfl (s2.ext he);obtain⟨t1,ht1⟩: ∃t,(xs==ys)=t:=⟨_,rfl⟩
 obtain⟨t2,ht2⟩: ∃t,(xd==yd)=t:=⟨_,rfl⟩
 obtain⟨b1,hb1⟩: ∃t,(xa==ya)=t:=⟨_,rfl⟩
 obtain⟨b2,hb2⟩: ∃t,(xb==yb)=t:=⟨_,rfl⟩
 obtain⟨b3,hb3⟩: ∃t,(xc==yc)=t:=⟨_,rfl⟩
 have h4:=Fj xa xb xc ya yb yc ((w.alloc (.cells #[.int .i64 xs, .int .i64 xd, .int .i64 xa, .int .i64 xb, .int .i64 xc, .slice I xl.length ci, .int .i64 (xu:Int)] 47)).alloc (.cells #[.int .i64 ys, .int .i64 yd, .int .i64 ya, .int .i64 yb, .int .i64 yc, .slice J yl.length cj, .int .i64 (yu:Int)] 47));rw[hb1,hb2,hb3]at h4;obtain⟨t5,ht5⟩: ∃t,(b1&&(b2&&b3))=t:=⟨_,rfl⟩
 rw[ht5]at h4;obtain⟨t6,ht6⟩: ∃t,(xl==yl)=t:=⟨_,rfl⟩
 have hq:decide (ai xl=ai yl)=t6:=by rw[<-ht6,fQ,decide_eq_true_iff,beq_iff_eq];exact⟨fun h=>by simpa using congrArg ByteArray.toList h,fun h=>by rw[h]⟩
 obtain⟨t7,ht7⟩: ∃t,(((xu:Nat):Int)==(yu:Int))=t:=⟨_,rfl⟩
 have hE:ro ⟨xs,xd,xa,xb,xc,xl,xu⟩ ⟨ys,yd,ya,yb,yc,yl,yu⟩=(t1&&(t2&&(t5&&(t6&&t7)))):=by
  have h7:(xu==yu)=t7:=by rw[<-ht7,fQ,beq_iff_eq,beq_iff_eq];omega
  unfold ro;simp only[ht1,ht2,hb1,hb2,hb3,ht5,ht6,h7]
 rw[hE];have HE:=G he;clear s1 s2 he hE;go_enter func20,ntmps20
 cases t1
 ·go_wp2_with fail;all_goals (go_ret;exact⟨lp (by simp_all),HE.out⟩)
 cases t2
 ·go_wp2_with fail;all_goals (go_ret;exact⟨lp (by simp_all),HE.out⟩)
 clear ht5 hb1 hb2 hb3
 cases t5
 ·go_wp2_with fail;go_ret;exact⟨lp (by simp),HE.out⟩
 cases t6
 ·go_wp2_with fail;all_goals (go_ret;exact⟨lp (by simp_all),HE.out⟩)
 cases t7
 ·go_wp2_with fail;all_goals (go_ret;exact⟨lp (by simp_all),HE.out⟩)
 go_wp2_with fail;go_ret;exact⟨lp (by simp),HE.out⟩
theorem nQ (x:Oc) (u:Value) (w:World) (hu:D6 x u w):Calls prog 21 #[u] w fun e w'=>e= .returned u/\au w w':=by
 obtain⟨I,ci,rfl,s1⟩:=hu;obtain⟨xs,xd,xa,xb,xc,xl,xu⟩:=x;simp only[zI]at s1⊢;have HE:=G ((O w (.cells #[.int .i64 xs, .int .i64 xd, .int .i64 xa, .int .i64 xb, .int .i64 xc, .slice I xl.length ci, .int .i64 (xu:Int)] 42)).alloc' (.cells #[.int .i64 xs, .int .i64 xd, .int .i64 xa, .int .i64 xb, .int .i64 xc, .slice I xl.length ci, .int .i64 (xu:Int)] 47));have hb:=ap (w.alloc (.cells #[.int .i64 xs, .int .i64 xd, .int .i64 xa, .int .i64 xb, .int .i64 xc, .slice I xl.length ci, .int .i64 (xu:Int)] 42)) 47 #[.int .i64 xs, .int .i64 xd, .int .i64 xa, .int .i64 xb, .int .i64 xc, .slice I xl.length ci, .int .i64 (xu:Int)];rw[World.size_alloc]at hb;have hc:=hb.cell;clear s1 hb;go_enter func21,ntmps21;go_wp2_with fail;have hE:=HE.out;refine bodyPost_ret (v:= .agg #[.int .i64 xs, .int .i64 xd, .int .i64 xa, .int .i64 xb, .int .i64 xc, .slice I xl.length ci, .int .i64 (xu:Int)]) ?_ rfl ⟨rfl,hE⟩;simp[results,results21,go_sem,hc]
end Go.Proofs.YtddomeddabfinaaGreatDoor
