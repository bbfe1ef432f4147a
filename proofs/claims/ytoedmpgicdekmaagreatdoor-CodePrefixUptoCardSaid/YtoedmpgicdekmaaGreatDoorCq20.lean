/-
  Parts of the proof: TyCp TyBu TySs TySt TySu TyWh TyRe TyPu TyMu TyRc TyRp TyRd TyRy TyNz TyRx TyRz TySm TyAw.
-/
import Derived.Laws.CopyOwn
import Derived.Test.YtoedmpgicdekmaaGreatDoorCq04
import Derived.Lib.ConvBytes
import Derived.Test.YtoedmpgicdekmaaGreatDoorCq19
import Derived.Deep.RegionWith
import Derived.Test.YtoedmpgicdekmaaGreatDoorCq16
import Derived.Test.YtoedmpgicdekmaaGreatDoorCq00
import Derived.ChangeKeysEq
set_option maxRecDepth 100000
set_option maxHeartbeats 8000000
set_option linter.unusedVariables false
set_option linter.unusedSimpArgs false
set_option linter.unusedSectionVars false
namespace Go.Proofs.YtoedmpgicdekmaaGreatDoor
open Go.Proofs.Tryz
section
open Go.RowKit
def tO (L:List UInt8) (off:Nat) (b:List UInt8):List UInt8:=L.take off++(b++L.drop (off+b.length))
def Rw (w:World) (g:Nat) (e:TypeId) (l:List UInt8):Prop:=w.heap[g]? =some (.cells (gn l).toArray e (0,0))
section
variable {w w':World} {g:Nat} {e:TypeId} {l:List UInt8}
theorem Rw.lt (h:Rw w g e l):g<w.heap.size:=(Array.getElem?_eq_some_iff.1 h).1
theorem Rw.ext (h:Rw w g e l) (he:au w w'):Rw w' g e l:=(he.obj h.lt).trans h
theorem Rw.grown {row:Option Nat} (h:Rw w g e l) (hb:w.grownBy w' row) (hg:some g≠row):Rw w' g e l:=(hb.block g h.lt hg).trans h
end
theorem wg {P:Program} {t e:TypeId} (hT:ks P t e) (kl kc:IntKind) (n:Nat) (hn:n<=1073741824) (w:World):
  ∃w',(Instr.makeSlice t (.int kl (n:Int)) (.int kc (n:Int))).run P w= .ok (.slice (some ⟨w.heap.size,0,none⟩) n n) w'/\Rw w' w.heap.size e (List.replicate n 0)/\au w w'/\w'.heap.size=w.heap.size+1:=by
 obtain⟨i,hi,hz,hz1,hz2⟩:=info_parts hT.info;have hr:=run_make (P:=P) w t e i (.int .u8 0) hT.under hi hz kl kc n n (by omega) (by omega) (by rw[hz2];omega) (by omega);simp only[bP]at hr;refine⟨_,hr,?_,aa w _,World.size_alloc _ _⟩;rw[hz1];simp only[jY];have:madeCells (Value.int IntKind.u8 0).cells n=(gn (List.replicate n 0)).toArray:=by
  unfold madeCells;apply Array.ext
  ·simp[gn]
  ·intro j h1 h2;simp[gn,oY,Value.cells,Nat.mod_one]
 rw[this];exact heap_alloc_new w _
theorem qf {P:Program} {w:World} {ops:Array Oper} {rest:List Oper} {o:Oper} {a:Act} {Q:Exit->Act->World->Prop} {t e:TypeId} (hT:ks P t e) (hgd:o.guard=none) (s c:Operand) (ho:o.op= .makeSlice t s c)
  (n:Nat) (hn:n<=1073741824) (kl kc:IntKind) (hs:a.eval s= .int kl (n:Int)) (hc:a.eval c= .int kc (n:Int))
  (h: ∀w',Rw w' w.heap.size e (List.replicate n 0)->au w w'->w'.heap.size=w.heap.size+1->wpList P ops Q rest (a.put o.dst (.slice (some ⟨w.heap.size,0,none⟩) n n)) w'):wpList P ops Q (o::rest) a w:=by
 obtain⟨w',hr,h1,h2,h3⟩:=wg (P:=P) hT kl kc n hn w;refine wpList_plain hgd fun K hK=> ?_;unfold Oper.wp execOp;simp only[ho,Sem.run_bind,Sem.run_pure,hs,hc,hr,Result.andThen_ok];exact hK _ _ (h w' h1 h2 h3)
theorem qq (L:List UInt8) (off:Nat):tO L off []=L:=by simp[tO]
theorem qg {P:Program} {w:World} {ops:Array Oper} {rest:List Oper} {o:Oper} {a:Act} {Q:Exit->Act->World->Prop} {t e:TypeId} (hT:ks P t e) (hgd:o.guard=none) (d s:Operand)
  (ho:o.op= .call {callee:= .builtin .copy,args:= #[d,s],argTypes:= #[t,t]}) (g off dLen dCap:Nat) (hd:a.eval d= .slice (some ⟨g,off,none⟩) dLen dCap) (L:List UInt8) (hg:Rw w g e L)
  (A:Option Addr) (c:Nat) (m:List UInt8) (hs:a.eval s= .slice A m.length c) (hS:Sl w A c m) (hfit:off+dLen<=L.length)
  (h: ∀w' (k:Nat),Rw w' g e (tO L off (m.take dLen))->w.grownBy w' (some g)->wpList P ops Q rest (a.put o.dst (goInt k)) w'):wpList P ops Q (o::rest) a w:=by
 have hsz:(P.info? e).map (·.size)=some 1:=by
  obtain⟨i,hi,hz,hz1,hz2⟩:=info_parts hT.info;rw[hi];simp[hz1]
 by_cases h0:m.take dLen=[]
 ·refine wpList_copy_nothing hgd d s t t ho e hT.under hsz _ _ _ _ _ _ hd hs ?_ ?_
  ·have:=congrArg List.length h0;rw[aW]at this;simp only[ag]at this;show min m.length dLen=0;omega
  ·refine h w 0 ?_ (World.grownBy.refl w _);rw[h0,qq];exact hg
 ·rcases hS.rd with rfl|⟨b,o',rfl,_,hc⟩
  ·simp at h0
  ·have hlen:(gn (m.take dLen)).length=min m.length dLen:=by rw[ip,aW,Nat.min_comm]
   refine wpList_copy_own hgd d s t t ho e hT.under hsz g off dLen dCap ⟨b,o',none⟩ m.length c hd hs _ e hg (gn (m.take dLen)) hlen (fun j v hv=> ?_) ?_ (fun v hv=> ?_) ?_
   ·have hj:j<(m.take dLen).length:=by have:=(List.getElem?_eq_some_iff.1 hv).1;simpa[gn]using this
    have hj2:j<m.length:=by rw[aW]at hj;omega
    rw[Addr.add_lit,hc j hj2,<-hv];simp only[gn,cV];rw[aD hj];simp[eX,oY]
   ·rw[hlen];simp only[eW,ip];omega
   ·obtain⟨x,_,rfl⟩:=List.mem_map.1 hv;rfl
   ·refine h _ _ ?_ ⟨rfl,rfl,rfl,by simp,fun k _ hk=>setRow_other w g k _ (fun e=>hk (by rw[e]))⟩;have:=setRow_heap w g _ ((gn L).toArray.toList.take off++(gn (m.take dLen)++(gn L).toArray.toList.drop (off+(gn (m.take dLen)).length))).toArray e _ hg;unfold Rw;rw[this];clear this h hd hs hfit hlen h0;generalize m.take dLen=q;simp only[tO,gn,fM,List.map_take,List.map_drop,ee]
end
section
open Go.RowKit
end
section
open Go.RowKit
end
section
open Go.RowKit
end
section
open Go.RowKit
end
section
open Go.RowKit
end
section
open Go.RowKit
end
section
open Go.RowKit
end
section
open Go.RowKit
end
section
open Go.RowKit
abbrev EJ:Array Value:= #[.int .i64 0, .int .i64 0, .int .i64 0, .int .i64 0, .int .i64 0, .slice none 0 0, .int .i64 0]
end
section
end
section
open Go.RowKit
end
section
open Go.RowKit
def Gb (o:Oc) (A:Option Addr) (c:Nat):Value:= .agg #[.int .i64 o.kind, .int .i64 o.call, .int .i64 o.a0, .int .i64 o.a1, .int .i64 o.a2, .slice A o.data.length c, .int .i64 (o.used:Int)]
end
section
end
section
open Go.RowKit
theorem iT.mono {w:World} {P Q:Nat->Prop} {v:Value} {R:Rs} (h:iT w P v R) (hQ: ∀b,P b->b<w.heap.size->Q b):iT w Q v R:=by
 obtain⟨A,c,rfl,h⟩:=h;refine⟨A,c,rfl,h.imp id fun⟨h1,h2,b,o,ha,hP,hb,da,dc,hc⟩=>⟨h1,h2,b,o,ha,hQ b hP hb,hb,da,dc,fun i hi=> ?_⟩⟩;obtain⟨q0,q1,q2,q3⟩:=hc i hi;refine⟨q0,q1,q2,fun b2 o2 e hne=>hQ b2 (q3 b2 o2 e hne) ?_⟩;rcases q2.rd with h0|⟨b3,o3,e3,hb3,_⟩
 ·exact absurd h0 hne
 ·rw[e]at e3;injection e3 with e3;injection e3 with e3 _;omega
end
section
open Go.RowKit
end
section
open Go.RowKit
theorem GI (a b c a' b' c':Int) (w:World):(Op.equalIn 10000 47 (.agg #[.int .i64 a, .int .i64 b, .int .i64 c]) (.agg #[.int .i64 a', .int .i64 b', .int .i64 c'])).run prog w= .ok ((a==a')&&((b==b')&&(c==c'))) w:=by
 obtain⟨i,hi⟩: ∃i,prog.info? 3=some i:=Option.isSome_iff_exists.1 (by kernel_rfl);have hp:prog.plainKey 3=true:=by kernel_rfl
 have hC:prog.cellsOf 3=1:=by kernel_rfl
 rw[show(10000:Nat)=9999+1 from rfl,run_equalIn_array w 9999 _ _ underlying47 hi,hC];have st: ∀(xs ys:Array Value) (j:Nat) (p q:Int) (is:List Nat),xs[j]? =some (.int .i64 p)->ys[j]? =some (.int .i64 q)->
   (Op.eqItems 9999 3 1 xs ys (j::is)).run prog w=if(p==q)then(Op.eqItems 9999 3 1 xs ys is).run prog w else .ok false w:=fun xs ys j p q is h1 h2=>by
  have p1:=run_part_plain w hp (off:=j*1) (xs:=xs) (by rw[jY];exact h1);have p2:=run_part_plain w hp (off:=j*1) (xs:=ys) (by rw[jY];exact h2);have p3:=run_equalIn_int w 9998 3 .i64 .i64 p q underlying3;simp only[Op.eqItems,Sem.run_bind,p1,p2,p3,Result.andThen_ok]
  cases p==q<;>simp
 show(Op.eqItems 9999 3 1 _ _ [0,1,2]).run prog w=_;rw[st _ _ 0 a a' _ rfl rfl,st _ _ 1 b b' _ rfl rfl,st _ _ 2 c c' _ rfl rfl]
 cases a==a'<;>cases b==b'<;>cases c==c'<;>simp[Op.eqItems]
theorem vr {w:World} {A:Option Addr} {cap n:Nat} {l:List UInt8} (hn:l.length=n) (h:Sl w A cap l):(Go.convert 36 9 (.slice A n cap)).run prog w= .ok (.string (an l)) w:=by
 subst hn;exact h.convert underlying36 underlying5 underlying9
theorem kg {a b:Bool} (h:a=b):Ending.returned (.bool a)= .returned (.bool b):=by rw[h]
def Fb (x:Oc) (v:Value) (w:World):Prop:= ∃A c,v=Gb x A c/\Sl w A c x.data
def rU (x y:Oc):Bool:=(x.kind==y.kind)&&((x.call==y.call)&&(((x.a0==y.a0)&&((x.a1==y.a1)&&(x.a2==y.a2)))&&((x.data==y.data)&&(x.used==y.used))))
theorem tW (x:Oc):rU x x=true:=by unfold rU;simp
theorem tX (x y:Oc) (u v:Value) (w:World) (hu:Fb x u w) (hv:Fb y v w):Calls prog 20 #[u,v] w fun e w'=>e= .returned (.bool (rU x y))/\au w w':=by
 obtain⟨I,ci,rfl,s1⟩:=hu;obtain⟨J,cj,rfl,s2⟩:=hv;obtain⟨xs,xd,xa,xb,xc,xl,xu⟩:=x;obtain⟨ys,yd,ya,yb,yc,yl,yu⟩:=y;simp only[Gb]at s1 s2⊢;have he:au w ((w.alloc (.cells #[.int .i64 xs, .int .i64 xd, .int .i64 xa, .int .i64 xb, .int .i64 xc, .slice I xl.length ci, .int .i64 (xu:Int)] 55)).alloc (.cells #[.int .i64 ys, .int .i64 yd, .int .i64 ya, .int .i64 yb, .int .i64 yc, .slice J yl.length cj, .int .i64 (yu:Int)] 55)):=(aa w _).alloc' _;have hc1:=((aw w 55 #[.int .i64 xs, .int .i64 xd, .int .i64 xa, .int .i64 xb, .int .i64 xc, .slice I xl.length ci, .int .i64 (xu:Int)]).alloc (.cells #[.int .i64 ys, .int .i64 yd, .int .i64 ya, .int .i64 yb, .int .i64 yc, .slice J yl.length cj, .int .i64 (yu:Int)] 55)).cell;have hc2:=(aw (w.alloc (.cells #[.int .i64 xs, .int .i64 xd, .int .i64 xa, .int .i64 xb, .int .i64 xc, .slice I xl.length ci, .int .i64 (xu:Int)] 55)) 55 #[.int .i64 ys, .int .i64 yd, .int .i64 ya, .int .i64 yb, .int .i64 yc, .slice J yl.length cj, .int .i64 (yu:Int)]).cell;have k1:=vr rfl (s1.ext he);have k2:=vr rfl (s2.ext he);obtain⟨t1,ht1⟩: ∃t,(xs==ys)=t:=⟨_,rfl⟩
 obtain⟨t2,ht2⟩: ∃t,(xd==yd)=t:=⟨_,rfl⟩
 obtain⟨b1,hb1⟩: ∃t,(xa==ya)=t:=⟨_,rfl⟩
 obtain⟨b2,hb2⟩: ∃t,(xb==yb)=t:=⟨_,rfl⟩
 obtain⟨b3,hb3⟩: ∃t,(xc==yc)=t:=⟨_,rfl⟩
 have h4:=GI xa xb xc ya yb yc ((w.alloc (.cells #[.int .i64 xs, .int .i64 xd, .int .i64 xa, .int .i64 xb, .int .i64 xc, .slice I xl.length ci, .int .i64 (xu:Int)] 55)).alloc (.cells #[.int .i64 ys, .int .i64 yd, .int .i64 ya, .int .i64 yb, .int .i64 yc, .slice J yl.length cj, .int .i64 (yu:Int)] 55));rw[hb1,hb2,hb3]at h4;obtain⟨t5,ht5⟩: ∃t,(b1&&(b2&&b3))=t:=⟨_,rfl⟩
 rw[ht5]at h4;obtain⟨t6,ht6⟩: ∃t,(xl==yl)=t:=⟨_,rfl⟩
 have hq:decide (an xl=an yl)=t6:=by rw[<-ht6,eN,decide_eq_true_iff,beq_iff_eq];exact⟨fun h=>by simpa using congrArg ByteArray.toList h,fun h=>by rw[h]⟩
 obtain⟨t7,ht7⟩: ∃t,(((xu:Nat):Int)==(yu:Int))=t:=⟨_,rfl⟩
 have hE:rU ⟨xs,xd,xa,xb,xc,xl,xu⟩ ⟨ys,yd,ya,yb,yc,yl,yu⟩=(t1&&(t2&&(t5&&(t6&&t7)))):=by
  have h7:(xu==yu)=t7:=by rw[<-ht7,eN,beq_iff_eq,beq_iff_eq];omega
  unfold rU;simp only[ht1,ht2,hb1,hb2,hb3,ht5,ht6,h7]
 rw[hE];have HE:=G he;clear s1 s2 he hE;go_enter func20,ntmps20
 cases t1
 ·go_wp2_with fail;all_goals (go_ret;exact⟨kg (by simp_all),HE.out⟩)
 cases t2
 ·go_wp2_with fail;all_goals (go_ret;exact⟨kg (by simp_all),HE.out⟩)
 clear ht5 hb1 hb2 hb3
 cases t5
 ·go_wp2_with fail;go_ret;exact⟨kg (by simp),HE.out⟩
 cases t6
 ·go_wp2_with fail;all_goals (go_ret;exact⟨kg (by simp_all),HE.out⟩)
 cases t7
 ·go_wp2_with fail;all_goals (go_ret;exact⟨kg (by simp_all),HE.out⟩)
 go_wp2_with fail;go_ret;exact⟨kg (by simp),HE.out⟩
theorem nL (x:Oc) (u:Value) (w:World) (hu:Fb x u w):Calls prog 21 #[u] w fun e w'=>e= .returned u/\au w w':=by
 obtain⟨I,ci,rfl,s1⟩:=hu;obtain⟨xs,xd,xa,xb,xc,xl,xu⟩:=x;simp only[Gb]at s1⊢;have HE:=G ((aa w (.cells #[.int .i64 xs, .int .i64 xd, .int .i64 xa, .int .i64 xb, .int .i64 xc, .slice I xl.length ci, .int .i64 (xu:Int)] 49)).alloc' (.cells #[.int .i64 xs, .int .i64 xd, .int .i64 xa, .int .i64 xb, .int .i64 xc, .slice I xl.length ci, .int .i64 (xu:Int)] 55));have hb:=aw (w.alloc (.cells #[.int .i64 xs, .int .i64 xd, .int .i64 xa, .int .i64 xb, .int .i64 xc, .slice I xl.length ci, .int .i64 (xu:Int)] 49)) 55 #[.int .i64 xs, .int .i64 xd, .int .i64 xa, .int .i64 xb, .int .i64 xc, .slice I xl.length ci, .int .i64 (xu:Int)];rw[World.size_alloc]at hb;have hc:=hb.cell;clear s1 hb;go_enter func21,ntmps21;go_wp2_with fail;have hE:=HE.out;refine bodyPost_ret (v:= .agg #[.int .i64 xs, .int .i64 xd, .int .i64 xa, .int .i64 xb, .int .i64 xc, .slice I xl.length ci, .int .i64 (xu:Int)]) ?_ rfl ⟨rfl,hE⟩;simp[results,results21,go_sem,hc]
end
section
open Go.RowKit
end
end Go.Proofs.YtoedmpgicdekmaaGreatDoor
