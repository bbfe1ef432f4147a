/-
  Parts of the proof: OpenP OwnA OwnB Few EqR EqQ Peq.
-/
import Derived.LaidLaws
import Derived.LaidHandle
import Derived.Handed
import Derived.Lay
import Derived.LaidOnce
import Derived.MakeChecks
import Derived.SevenTiedAt
import Derived.Lib.LaidU8
import Derived.Test.YtelplgkppalmfaaGreatDoorPb04
import Derived.Test.YtelplgkppalmfaaGreatDoorTie
import Derived.Test.YtelplgkppalmfaaGreatDoorCards
import Derived.Test.YtelplgkppalmfaaGreatDoorPb30
import Derived.Test.YtelplgkppalmfaaGreatDoorPb17
import Derived.Test.YtelplgkppalmfaaGreatDoorPb27
import Derived.Test.YtelplgkppalmfaaGreatDoorPb29
import Derived.Test.YtelplgkppalmfaaGreatDoorPb28
import Derived.Test.YtelplgkppalmfaaGreatDoorPb10
set_option maxRecDepth 100000
set_option maxHeartbeats 8000000
set_option linter.unusedVariables false
set_option linter.unusedSimpArgs false
namespace Go.Proofs.YtelplgkppalmfaaGreatDoor
open Go.Proofs.Tryz
open Go.Joins Go.ChangeShapes Go.WideShapes Go.ChangeAt Go.RowKit Go.Deep
theorem tab_of_reads {P:Program} {W:World} {name:String} {k:IntKind} {zs:List Int} {g:Nat} {t e:TypeId} {n:Nat} (hg:P.globalNamed name=some g) (hty:(P.globals[g]?).map (·.type)=some t) (ht:P.underlying t=some (.array n e)) (he:P.underlying e=some (.int k)) (hce:P.cellsOf e=1) (hct:P.cellsOf t=n)
  (h:Lib.VarReads P W name (Lib.tabData k zs)):Lib.TabIs P W name k zs:=by
 obtain⟨g',t',cs,fuel,p,hg',ht',hvar,hd⟩:=h;obtain rfl:=Option.some.inj (hg.symm.trans hg');obtain rfl:=Option.some.inj (hty.symm.trans ht');unfold Lib.TabIs;rw[hvar,<-Lib.cells_of_tab ht he hce hct hd]
theorem iface_of_trod {P:Program} {w:World} {base fuel:Nat} {sp:Nat->Bool} {hd:Bool} {t:TypeId} {ms:Array (String×TypeId)} (ht:P.underlying t=some (.interface ms)) {cs:List Value} {x:DataW Unit×List MemPlace}
  (h:DataW.trod (fun _=>()) P w base sp hd fuel t cs=some x): ∃ev,cs=[ev]/\(ev= .nilIface\/ ∃te pe,ev= .iface te pe):=by
 cases fuel with
 |zero=>simp[DataW.trod]at h
 |succ n=>
  unfold DataW.trod at h;rw[ht]at h;split at h<;>first|(simp_all;done)|skip
  all_goals first|exact⟨_,rfl, .inl rfl⟩|exact⟨_,rfl, .inr ⟨_,_,rfl⟩⟩|skip
theorem err_of_reads {P:Program} {W:World} {name:String} {d:DataW Unit} {g:Nat} {t:TypeId} {ms:Array (String×TypeId)} (hg:P.globalNamed name=some g) (hty:(P.globals[g]?).map (·.type)=some t) (ht:P.underlying t=some (.interface ms)) (h:Lib.VarReads P W name d):
  ∃ev,W.cell? ⟨g,0,none⟩=some ev/\(ev= .nilIface\/ ∃te pe,ev= .iface te pe):=by
 obtain⟨g',t',cs,fuel,p,hg',ht',hvar,hd⟩:=h;obtain rfl:=Option.some.inj (hg.symm.trans hg');obtain rfl:=Option.some.inj (hty.symm.trans ht');obtain⟨ev,e1,e2⟩:=iface_of_trod ht hd;refine⟨ev,?_,e2⟩;rw[World.var?_cell hg hvar 0];have:=congrArg (fun l=>l[0]?) e1;simpa using this
theorem tabs_of_laid {W:World} {l:List (String×DataW Unit)} (h:laidMetH prog l W) (hp:(l.all fun x=>x.2.handleName?.isNone)=true) (h1:("strconv.ErrSyntax",Rows.laid_strconv_ErrSyntax)∈l) (h2:("strconv.ErrRange",Rows.laid_strconv_ErrRange)∈l)
  (h3:("internal/strconv.uint64pow10",Rows.laid_internal_strconv_uint64pow10)∈l):EZ W/\TabW W W.heap.size:=by
 rw[MakeChecks.laidMetH_plain _ _ _ hp]at h;have r1:=Lib.laidMet.reads h h1;have r2:=Lib.laidMet.reads h h2;have r3:=Lib.laidMet.reads h h3;have e3:(Rows.laid_internal_strconv_uint64pow10:DataW Unit)=Lib.tabData .u64 Lib.pow10Tab:=by kernel_rfl
 rw[e3]at r3;have ht:=tab_of_reads (g:=1) (t:=215) (e:=194) (by kernel_rfl) (by kernel_rfl) underlying215 underlying194 (by kernel_rfl) (by kernel_rfl) r3;refine⟨⟨err_of_reads (g:=2) (t:=143) (by kernel_rfl) (by kernel_rfl) underlying143 r1,err_of_reads (g:=3) (t:=143) (by kernel_rfl) (by kernel_rfl) underlying143 r2⟩,ht,?_⟩;unfold Lib.TabIs World.var? at ht;rw[show prog.globalNamed "internal/strconv.uint64pow10" =some 1 by kernel_rfl]at ht;simp only[Option.bind_some]at ht;by_cases hlt:1<W.heap.size
 ·exact hlt
 ·rw[Array.getElem?_eq_none (by omega)]at ht
  cases ht
section
variable {H:Type} {enc:TypeId×Value->H} {P:Program} {W:World}
instance:Inhabited Ex:=⟨.mk 0 [] [] [] 0 []⟩
instance:Inhabited SV:=⟨⟨.mk 0 [] [] [] [], .nilIface, .nilIface, .nilIface⟩⟩
instance:Inhabited FV:=⟨⟨⟨[],[],[]⟩, .nilIface, .nilIface⟩⟩
instance:Inhabited Vr:=⟨⟨[],0⟩⟩
end
end Go.Proofs.YtelplgkppalmfaaGreatDoor
namespace Go.Proofs.YtelplgkppalmfaaGreatDoor
open Go.Proofs.Tryz
open Go.RowKit
end Go.Proofs.YtelplgkppalmfaaGreatDoor
namespace Go.Proofs.YtelplgkppalmfaaGreatDoor
open Go.Proofs.Tryz
open Go.RowKit
end Go.Proofs.YtelplgkppalmfaaGreatDoor
namespace Go.Proofs.YtelplgkppalmfaaGreatDoor
open Go.Proofs.Tryz
open Go.RowKit
end Go.Proofs.YtelplgkppalmfaaGreatDoor
namespace Go.Proofs.YtelplgkppalmfaaGreatDoor
open Go.Proofs.Tryz
open Go.RowKit
theorem ret_q {a b:Bool} (h:a=b):Ending.returned (.bool a)= .returned (.bool b):=by rw[h]
theorem ptr_ne' {g h:Nat} (k: ∀x,pB (.pointer (some ⟨g,0,none⟩))=some x->pB (.pointer (some ⟨h,0,none⟩))≠some x):g≠h:=fun e=>by
 subst e;exact k g rfl rfl
def PNew (w0:World) (t:TypeId) (cs:Array Value) (v:Value) (w:World):Prop:= ∃g,v= .pointer (some ⟨g,0,none⟩)/\w0.heap.size<=g/\Blk w g t cs
theorem PNew.ext {w0:World} {t:TypeId} {cs:Array Value} {v:Value} {w w':World} (h:PNew w0 t cs v w) (he:Ext w w'):PNew w0 t cs v w':=let⟨g,h1,h2,h3⟩:=h;⟨g,h1,h2,h3.ext he⟩
theorem PNew.old {w0:World} {t:TypeId} {cs:Array Value}: ∀(v:Value) (w:World),PNew w0 t cs v w-> ∀g,pB v=some g->g<w.heap.size:=fun v w ⟨g,h1,_,h3⟩ k hk=>by
 subst h1;injection hk with hk;subst hk;exact h3.lt
theorem PNew.at_ {w0 w:World} {t:TypeId} {cs:Array Value} {g:Nat} (h:PNew w0 t cs (.pointer (some ⟨g,0,none⟩)) w):w0.heap.size<=g/\Blk w g t cs:=by
 obtain⟨k,h1,h2,h3⟩:=h;injection h1 with h1;injection h1 with h1;injection h1 with h1;subst h1;exact⟨h2,h3⟩
def ShP (v:Value):Prop:= ∃g,v= .pointer (some ⟨g,0,none⟩)
theorem newP {w:World} {n:Nat} (h:w.heap.size=n): ∀g,pB (.pointer (some ⟨n,0,none⟩))=some g->w.heap.size<=g:=fun g hg=>by
 have hg:some n=some g:=hg;injection hg with hg;omega
theorem Blk.put5q {w:World} {g:Nat} {t:TypeId} {x0 x1 x2 x3 x4:Value} (h:Blk w g t #[x0,x1,x2,x3,x4]) (a b c d e:Value):Blk (w.setCells g 0 [a,b,c,d,e]) g t #[a,b,c,d,e]:=by
 have:=((((h.set 0 a).set 1 b).set 2 c).set 3 d).set 4 e;simpa[World.setCells]using this
theorem Blk.put6q {w:World} {g:Nat} {t:TypeId} {x0 x1 x2 x3 x4 x5:Value} (h:Blk w g t #[x0,x1,x2,x3,x4,x5]) (a b c d e f:Value):Blk (w.setCells g 0 [a,b,c,d,e,f]) g t #[a,b,c,d,e,f]:=by
 have:=(((((h.set 0 a).set 1 b).set 2 c).set 3 d).set 4 e).set 5 f;simpa[World.setCells]using this
theorem Blk.put3q {w:World} {g:Nat} {t:TypeId} {x0 x1 x2:Value} (h:Blk w g t #[x0,x1,x2]) (a b c:Value):Blk (w.setCells g 0 [a,b,c]) g t #[a,b,c]:=by
 have:=((h.set 0 a).set 1 b).set 2 c;simpa[World.setCells]using this
theorem ext_cells {W w:World} {g:Nat} (h:Ext W w) (hg:W.heap.size<=g) (vs:List Value):Ext W (w.setCells g 0 vs):=h.grown (grown_cells g vs 0 w) (fun k e=>by injection e with e;omega)
def ReX (xs ys:List Ex):Prop:= ∀(P:Nat->Prop) (w:World) (u v:Value),RdE w P u xs->RdE w P v ys->Calls prog 24 #[u,v] w fun e w'=>e= .returned (.bool (eqL xs ys))/\Ext w w'
def ReS (xs ys:List St):Prop:= ∀(P:Nat->Prop) (w:World) (u v:Value),RdS w P u xs->RdS w P v ys->Calls prog 35 #[u,v] w fun e w'=>e= .returned (.bool (eqS xs ys))/\Ext w w'
theorem reqE_step (xs ys:List Ex) (hIH: ∀x,x∈xs-> ∀y:Ex,ReX x.args y.args):ReX xs ys:=by
 intro P w u v hA hB;obtain⟨A,c,rfl,hfa⟩:=hA.form;obtain⟨B,d,rfl,_⟩:=hB.form;have hnm:xs.length<=maxLen:=by rcases hfa with hfa|⟨h1,h2,_⟩;(rw[hfa];exact Nat.zero_le _);omega
 unfold maxLen at hnm;obtain⟨n,hn⟩: ∃n,xs.length=n:=⟨_,rfl⟩
 obtain⟨m,hm⟩: ∃m,ys.length=m:=⟨_,rfl⟩
 rw[hn]at hA hnm;rw[hm]at hB;rw[hn,hm];have HNL:=hide hn;have HML:=hide hm;have HA:=hide hA;have HB:=hide hB;have HI:=hide hIH;clear hA hB hIH hn hm hfa;by_cases h2:n=m
 ·have h2b:((n:Int)==(m:Int))=true:=by simp[h2]
  have h2c:((n:Int) !=(m:Int))=false:=by simp[h2]
  have H2:=hide h2;clear h2;go_enter func24,ntmps24;go_wp2_with fail
  go_loopw [5] (fun i wr=> ∃j:Nat,j<=n/\i= .int .i64 (j:Int)/\Hid (Ext w wr)/\Hid (∀i (h:i<xs.length) (h':i<ys.length),i<j->eqE xs[i] ys[i]=true)) (fun i _=>n-(intOf i).toNat)
  case atStart=>exact⟨0,Nat.zero_le _,rfl,hide (Ext.refl w),hide (fun _ _ _ h=>absurd h (Nat.not_lt_zero _))⟩
  case round=>
   obtain⟨j,hj,rfl,HX,HT⟩:=hrel;clear h2b h2c;by_cases hlt:j<n
   ·have hlt':(j:Int)<n:=by omega
    have hlt2:j<m:=by have:=H2.out;omega
    have hlt2':(j:Int)<m:=by omega
    have hjl:j<xs.length:=by have:=HNL.out;omega
    have hjl2:j<ys.length:=by have:=HML.out;omega
    obtain⟨b1,o1,a1,rfl,hb1,_,p0,p1,p2,p3,p4,p5,hRa⟩:=HA.out.at_ j hjl;obtain⟨b2,o2,a2,rfl,hb2,_,q0,q1,q2,q3,q4,q5,hRb⟩:=HB.out.at_ j hjl2;have pe0:=(HX.out.cell b1 _ hb1).trans p0;have pe1:=(HX.out.cell b1 _ hb1).trans p1;have pe2:=(HX.out.cell b1 _ hb1).trans p2;have pe3:=(HX.out.cell b1 _ hb1).trans p3;have pe4:=(HX.out.cell b1 _ hb1).trans p4;have pe5:=(HX.out.cell b1 _ hb1).trans p5;clear p0 p1 p2 p3 p4 p5;have qe0:=(HX.out.cell b2 _ hb2).trans q0;have qe1:=(HX.out.cell b2 _ hb2).trans q1;have qe2:=(HX.out.cell b2 _ hb2).trans q2;have qe3:=(HX.out.cell b2 _ hb2).trans q3;have qe4:=(HX.out.cell b2 _ hb2).trans q4;have qe5:=(HX.out.cell b2 _ hb2).trans q5;clear q0 q1 q2 q3 q4 q5;have hl1:b1<wr.heap.size:=Nat.lt_of_lt_of_le hb1 HX.out.size;have hl2:b2<wr.heap.size:=Nat.lt_of_lt_of_le hb2 HX.out.size;have HBad:=hide (fun h=>eqL_bad (a:=xs) (b:=ys) j hjl hjl2 h)
    have HG:=hide (fun(h:eqE xs[j] ys[j]=true)=>(show ∀i (h:i<xs.length) (h':i<ys.length),i<j+1->eqE xs[i] ys[i]=true from fun i h1 h2 h3=>by
     by_cases h4:i=j
     ·subst h4;exact h
     ·exact HT.out i h1 h2 (by omega)))
    have hih:=HI.out xs[j] (List.getElem_mem hjl) ys[j];generalize xs[j]=x at*;generalize ys[j]=y at*;obtain⟨A1,c1,rfl,_⟩:=hRa.form;obtain⟨B1,d1,rfl,_⟩:=hRb.form;have HY:=hide (fun(W:World) (h:Ext wr W)=>hih P W _ _ (hRa.keep (.of_ext (HX.out.trans h)) (fun _ hb _=>hb)) (hRb.keep (.of_ext (HX.out.trans h)) (fun _ hb _=>hb)));clear hRa hRb;clear hih;go_wp2_with fail;refine wp_region_take 10 3 [(8,ShP,PNew wr 49 #[.int .i64 0, .string ⟨#[]⟩, .string ⟨#[]⟩, .string ⟨#[]⟩, .int .i64 0, .slice none 0 0]),(9,ShP,PNew wr 49 #[.int .i64 0, .string ⟨#[]⟩, .string ⟨#[]⟩, .string ⟨#[]⟩, .int .i64 0, .slice none 0 0])] [8,9] [4,5,6,7] mixed (by kernel_rfl) (by kernel_rfl) (by kernel_rfl) (by rfl)
     ⟨fun _ _ _ h hx=>h.ext hx,fun _ _ _ h hx=>h.ext hx,trivial⟩ (fun i hi=> ?_) ?_
    ·have:i=8\/i=9:=by simpa using hi
     rcases this with rfl|rfl
     ·exact⟨_,_,rfl,PNew.old⟩
     ·exact⟨_,_,rfl,PNew.old⟩
    repeat (refine sx ?_ (fun w1 hU=> ?_) ?_;rotate_left;(focus have f0:=(hU.un.cell b1 _ hl1).trans pe0;have f1:=(hU.un.cell b1 _ hl1).trans pe1;have f2:=(hU.un.cell b1 _ hl1).trans pe2;have f3:=(hU.un.cell b1 _ hl1).trans pe3;have f4:=(hU.un.cell b1 _ hl1).trans pe4;have f5:=(hU.un.cell b1 _ hl1).trans pe5;have g0:=(hU.un.cell b2 _ hl2).trans qe0;have g1:=(hU.un.cell b2 _ hl2).trans qe1;have g2:=(hU.un.cell b2 _ hl2).trans qe2;have g3:=(hU.un.cell b2 _ hl2).trans qe3;have g4:=(hU.un.cell b2 _ hl2).trans qe4;have g5:=(hU.un.cell b2 _ hl2).trans qe5;clear hU;go_simp<;>with_reducible rfl);simp only[pq0,pq1,pq2,pq3,pq4])
    refine seq_new _ _ (by rfl) rfl ⟨_,0,rfl⟩ (by simp) (fun w5 hU hp K hK=> ?_) ?_
    ·have hz:=Ext.size hU.un;go_simp;exact hK _ _ (Ext.alloc w5 _) ⟨_,rfl⟩ ⟨_,rfl,hz,Blk.new w5 _ _⟩ (newP rfl)
    rintro _ ⟨g1,rfl⟩;simp only[pq0,pq1,pq2,pq3,pq4];refine seq_new _ _ (by rfl) rfl ⟨_,0,rfl⟩ (by simp) (fun w5 hU hp K hK=> ?_) ?_
    ·have hz:=Ext.size hU.un;go_simp;exact hK _ _ (Ext.alloc w5 _) ⟨_,rfl⟩ ⟨_,rfl,hz,Blk.new w5 _ _⟩ (newP rfl)
    rintro _ ⟨g2,rfl⟩;simp only[pq0,pq1,pq2,pq3,pq4];intro w2 hw2 hp hpair;have hne:g1≠g2:=ptr_ne' (hpair 8 9 _ _ _ _ trivial trivial (by omega) (by omega) rfl rfl rfl rfl rfl rfl (by omega) (by rfl) (by rfl));obtain⟨z2,k2⟩:=PNew.at_ (hp _ (.head _));obtain⟨z1,k1⟩:=PNew.at_ (hp _ (.tail _ (.head _)));clear hp hpair;simp only[List.drop_succ_cons,List.drop_zero];have m1:=k1.put6q (.int .i64 x.k) (.string (str x.op)) (.string (str x.nm)) (.string (str x.tx)) (.int .i64 x.v) (.slice A1 x.args.length c1);have m2:=k2.grown (grown_cells g1 [.int .i64 x.k, .string (str x.op), .string (str x.nm), .string (str x.tx), .int .i64 x.v, .slice A1 x.args.length c1] 0 w2) (fun e=>hne (Option.some.inj e).symm);have r1:=m1.grown (grown_cells g2 [.int .i64 y.k, .string (str y.op), .string (str y.nm), .string (str y.tx), .int .i64 y.v, .slice B1 y.args.length d1] 0 _) (fun e=>hne (Option.some.inj e));have r2:=m2.put6q (.int .i64 y.k) (.string (str y.op)) (.string (str y.nm)) (.string (str y.tx)) (.int .i64 y.v) (.slice B1 y.args.length d1);have HT1:=hide (ext_cells hw2 z1 [.int .i64 x.k, .string (str x.op), .string (str x.nm), .string (str x.tx), .int .i64 x.v, .slice A1 x.args.length c1]);have HT2:=hide (ext_cells (ext_cells hw2 z1 [.int .i64 x.k, .string (str x.op), .string (str x.nm), .string (str x.tx), .int .i64 x.v, .slice A1 x.args.length c1]) z2 [.int .i64 y.k, .string (str y.op), .string (str y.nm), .string (str y.tx), .int .i64 y.v, .slice B1 y.args.length d1]);simp only[World.setCells,Nat.zero_add,Nat.reduceAdd]at m1 m2 r1 r2 HT1 HT2;have hcc1:=k1.cell;have hff1:=k1.frozen;have hcc2:=m2.cell;have hff2:=m2.frozen;have HD1:=hide r1;have HD2:=hide r2;clear k1 k2 m1 m2 r1 r2 hw2;refine tailS_step (by rfl) (by simp) (fun K hK=> ?_);go_simp;refine hK _ _ ?_ ?_
    ·exact HT1.out
    clear hK;refine tailS_step (by rfl) (by simp) (fun K hK=> ?_);go_simp;refine hK _ _ ?_ ?_
    ·exact HT2.out
    clear hK;refine tailS_nil ?_;generalize hwe:((((((((((((w2).setCell ⟨g1,0,none⟩ (.int .i64 x.k)).setCell ⟨g1,1,none⟩ (.string (str x.op))).setCell ⟨g1,2,none⟩ (.string (str x.nm))).setCell ⟨g1,3,none⟩ (.string (str x.tx))).setCell ⟨g1,4,none⟩ (.int .i64 x.v)).setCell ⟨g1,5,none⟩ (.slice A1 x.args.length c1)).setCell ⟨g2,0,none⟩ (.int .i64 y.k)).setCell ⟨g2,1,none⟩ (.string (str y.op))).setCell ⟨g2,2,none⟩ (.string (str y.nm))).setCell ⟨g2,3,none⟩ (.string (str y.tx))).setCell ⟨g2,4,none⟩ (.int .i64 y.v)).setCell ⟨g2,5,none⟩ (.slice B1 y.args.length d1)=we at*;have HE2:=hide HT2.out.un;have HX2:=hide (HX.out.trans HE2.out);have hc1:=HD1.out.cell;have hc2:=HD2.out.cell;clear hwe hcc1 hff1 hcc2 hff2 HT1 HT2 hne z1 z2 pe0 pe1 pe2 pe3 pe4 pe5 qe0 qe1 qe2 qe3 qe4 qe5;have HC:=hide (fun(W:World) (h:Ext we W)=>HY.out W (HE2.out.trans h));clear HY HD1 HD2;obtain⟨k,o,s,t,v,ax⟩:=x;obtain⟨k',o',s',t',v',bx⟩:=y;simp only[Ex.k,Ex.op,Ex.nm,Ex.tx,Ex.v,Ex.args]at*;generalize hrr:eqL ax bx=r at HC;have HR:=hide hrr;clear hrr;generalize ax.length=la at*;generalize bx.length=lb at*;by_cases hk:k=k'
    ·subst hk;by_cases ho:o=o'
     ·subst ho;by_cases hs:s=s'
      ·subst hs;by_cases ht:t=t'
       ·subst ht;by_cases hv:v=v'
        ·subst hv
         cases r with
         |false=>
          have HQ:=hide (HBad.out (by rw[eqE,HR.out];simp));clear HBad HG;go_wp2_with (go_at_call 24;refine(HC.out _ (Ext.refl _)).mono ?_;rintro e w3 ⟨rfl,hE⟩;have HX3:=hide (HX2.out.trans hE);clear hE HC);go_ret;exact⟨ret_q HQ.out.symm,HX3.out⟩
         |true=>
          have HQ:=hide (HG.out (by rw[eqE,HR.out];simp));clear HBad HG;go_wp2_with (go_at_call 24;refine(HC.out _ (Ext.refl _)).mono ?_;rintro e w3 ⟨rfl,hE⟩;have HX3:=hide (HX2.out.trans hE);clear hE HC);go_roundw
          case rel=>exact⟨j+1,by omega,by go_num,HX3,HQ⟩
          case measure=>simp[intOf];omega
        ·have fv:(v==v')=false:=by simpa using hv
         have nv:(v !=v')=true:=by rw[bne,fv];rfl
         have HQ:=hide (HBad.out (by simp[eqE,fv]));clear hv HBad HG HC;go_wp2_with fail;go_ret;exact⟨ret_q HQ.out.symm,HX2.out⟩
       ·have ft:(t==t')=false:=by simpa using ht
        have nt:(t !=t')=true:=by rw[bne,ft];rfl
        have HQ:=hide (HBad.out (by simp[eqE,ft]));clear ht HBad HG HC;go_wp2_with fail;go_ret;exact⟨ret_q HQ.out.symm,HX2.out⟩
      ·have fs:(s==s')=false:=by simpa using hs
       have ns:(s !=s')=true:=by rw[bne,fs];rfl
       have HQ:=hide (HBad.out (by simp[eqE,fs]));clear hs HBad HG HC;go_wp2_with fail;go_ret;exact⟨ret_q HQ.out.symm,HX2.out⟩
     ·have fo:(o==o')=false:=by simpa using ho
      have no:(o !=o')=true:=by rw[bne,fo];rfl
      have HQ:=hide (HBad.out (by simp[eqE,fo]));clear ho HBad HG HC;go_wp2_with fail;go_ret;exact⟨ret_q HQ.out.symm,HX2.out⟩
    ·have fk:(k==k')=false:=by simpa using hk
     have nk:(k !=k')=true:=by rw[bne,fk];rfl
     have HQ:=hide (HBad.out (by simp[eqE,fk]));clear hk HBad HG HC;go_wp2_with fail;go_ret;exact⟨ret_q HQ.out.symm,HX2.out⟩
   ·have hlt': ¬(j:Int)<n:=by omega
    have hjj:j=n:=by omega
    have HQ:=hide (eqL_good (a:=xs) (b:=ys) (by have:=HNL.out;have:=HML.out;have:=H2.out;omega) (fun i h1 h2=>HT.out i h1 h2 (by have:=HNL.out;omega)));clear HT;go_wp2_with fail;go_ret;exact⟨ret_q HQ.out.symm,HX.out⟩
 ·have h2b:((n:Int)==(m:Int))=false:=by simp;omega
  have h2c:((n:Int) !=(m:Int))=true:=by simp;omega
  have HN:=hide (eqL_len (a:=xs) (b:=ys) (by have:=HNL.out;have:=HML.out;omega));clear h2;go_enter func24,ntmps24;go_wp2_with fail;go_ret;exact⟨ret_q HN.out.symm,Ext.refl w⟩
theorem reqE_all: ∀(k:Nat) (xs ys:List Ex),wtL xs<k->ReX xs ys
 |0,xs,ys,h=>absurd h (Nat.not_lt_zero _)
 |k+1,xs,ys,h=>reqE_step xs ys (fun x hx y=>reqE_all k x.args y.args (by have:=wtL_mem hx;have:=x.wt_eq;omega))
theorem reqE_any (xs ys:List Ex):ReX xs ys:=reqE_all _ xs ys (Nat.lt_succ_self _)
theorem reqS_step (xs ys:List St) (hIH: ∀x,x∈xs-> ∀y:St,ReX x.ex y.ex/\ReS x.body y.body/\ReS x.els y.els):ReS xs ys:=by
 intro P w u v hA hB;obtain⟨A,c,rfl,hfa⟩:=hA.form;obtain⟨B,d,rfl,_⟩:=hB.form;have hnm:xs.length<=maxLen:=by rcases hfa with hfa|⟨h1,h2,_⟩;(rw[hfa];exact Nat.zero_le _);omega
 unfold maxLen at hnm;obtain⟨n,hn⟩: ∃n,xs.length=n:=⟨_,rfl⟩
 obtain⟨m,hm⟩: ∃m,ys.length=m:=⟨_,rfl⟩
 rw[hn]at hA hnm;rw[hm]at hB;rw[hn,hm];have HNL:=hide hn;have HML:=hide hm;have HA:=hide hA;have HB:=hide hB;have HI:=hide hIH;clear hA hB hIH hn hm hfa;by_cases h2:n=m
 ·have h2b:((n:Int)==(m:Int))=true:=by simp[h2]
  have h2c:((n:Int) !=(m:Int))=false:=by simp[h2]
  have H2:=hide h2;clear h2;go_enter func35,ntmps35;go_wp2_with fail
  go_loopw [5] (fun i wr=> ∃j:Nat,j<=n/\i= .int .i64 (j:Int)/\Hid (Ext w wr)/\Hid (∀i (h:i<xs.length) (h':i<ys.length),i<j->eqSt xs[i] ys[i]=true)) (fun i _=>n-(intOf i).toNat)
  case atStart=>exact⟨0,Nat.zero_le _,rfl,hide (Ext.refl w),hide (fun _ _ _ h=>absurd h (Nat.not_lt_zero _))⟩
  case round=>
   obtain⟨j,hj,rfl,HX,HT⟩:=hrel;clear h2b h2c;by_cases hlt:j<n
   ·have hlt':(j:Int)<n:=by omega
    have hlt2:j<m:=by have:=H2.out;omega
    have hlt2':(j:Int)<m:=by omega
    have hjl:j<xs.length:=by have:=HNL.out;omega
    have hjl2:j<ys.length:=by have:=HML.out;omega
    obtain⟨b1,o1,a1,a2,a3,rfl,hb1,_,p0,p1,p2,p3,p4,hRa,hSa,hLa⟩:=HA.out.at_ j hjl;obtain⟨b2,o2,e1,e2,e3,rfl,hb2,_,q0,q1,q2,q3,q4,hRb,hSb,hLb⟩:=HB.out.at_ j hjl2;have pe0:=(HX.out.cell b1 _ hb1).trans p0;have pe1:=(HX.out.cell b1 _ hb1).trans p1;have pe2:=(HX.out.cell b1 _ hb1).trans p2;have pe3:=(HX.out.cell b1 _ hb1).trans p3;have pe4:=(HX.out.cell b1 _ hb1).trans p4;clear p0 p1 p2 p3 p4;have qe0:=(HX.out.cell b2 _ hb2).trans q0;have qe1:=(HX.out.cell b2 _ hb2).trans q1;have qe2:=(HX.out.cell b2 _ hb2).trans q2;have qe3:=(HX.out.cell b2 _ hb2).trans q3;have qe4:=(HX.out.cell b2 _ hb2).trans q4;clear q0 q1 q2 q3 q4;have hl1:b1<wr.heap.size:=Nat.lt_of_lt_of_le hb1 HX.out.size;have hl2:b2<wr.heap.size:=Nat.lt_of_lt_of_le hb2 HX.out.size;have HBad:=hide (fun h=>eqS_bad (a:=xs) (b:=ys) j hjl hjl2 h)
    have HG:=hide (fun(h:eqSt xs[j] ys[j]=true)=>(show ∀i (h:i<xs.length) (h':i<ys.length),i<j+1->eqSt xs[i] ys[i]=true from fun i h1 h2 h3=>by
     by_cases h4:i=j
     ·subst h4;exact h
     ·exact HT.out i h1 h2 (by omega)))
    have hih:=HI.out xs[j] (List.getElem_mem hjl) ys[j];generalize xs[j]=x at*;generalize ys[j]=y at*;obtain⟨A1,c1,rfl,_⟩:=hRa.form;obtain⟨B1,d1,rfl,_⟩:=hRb.form;obtain⟨A2,c2,rfl,_⟩:=hSa.form;obtain⟨B2,d2,rfl,_⟩:=hSb.form;obtain⟨A3,c3,rfl,_⟩:=hLa.form;obtain⟨B3,d3,rfl,_⟩:=hLb.form;have HY:=hide (fun(W:World) (h:Ext wr W)=>hih.1 P W _ _ (hRa.keep (.of_ext (HX.out.trans h)) (fun _ hb _=>hb)) (hRb.keep (.of_ext (HX.out.trans h)) (fun _ hb _=>hb)));have HY1:=hide (fun(W:World) (h:Ext wr W)=>hih.2.1 P W _ _ (hSa.keep (.of_ext (HX.out.trans h)) (fun _ hb _=>hb)) (hSb.keep (.of_ext (HX.out.trans h)) (fun _ hb _=>hb)));have HY2:=hide (fun(W:World) (h:Ext wr W)=>hih.2.2 P W _ _ (hLa.keep (.of_ext (HX.out.trans h)) (fun _ hb _=>hb)) (hLb.keep (.of_ext (HX.out.trans h)) (fun _ hb _=>hb)));clear hRa hRb hSa hSb hLa hLb;clear hih;go_wp2_with fail;refine wp_region_take 10 3 [(8,ShP,PNew wr 66 #[.int .i64 0, .string ⟨#[]⟩, .slice none 0 0, .slice none 0 0, .slice none 0 0]),(9,ShP,PNew wr 66 #[.int .i64 0, .string ⟨#[]⟩, .slice none 0 0, .slice none 0 0, .slice none 0 0])] [8,9] [4,5,6,7] mixed (by kernel_rfl) (by kernel_rfl) (by kernel_rfl) (by rfl)
     ⟨fun _ _ _ h hx=>h.ext hx,fun _ _ _ h hx=>h.ext hx,trivial⟩ (fun i hi=> ?_) ?_
    ·have:i=8\/i=9:=by simpa using hi
     rcases this with rfl|rfl
     ·exact⟨_,_,rfl,PNew.old⟩
     ·exact⟨_,_,rfl,PNew.old⟩
    repeat (refine sx ?_ (fun w1 hU=> ?_) ?_;rotate_left;(focus have f0:=(hU.un.cell b1 _ hl1).trans pe0;have f1:=(hU.un.cell b1 _ hl1).trans pe1;have f2:=(hU.un.cell b1 _ hl1).trans pe2;have f3:=(hU.un.cell b1 _ hl1).trans pe3;have f4:=(hU.un.cell b1 _ hl1).trans pe4;have g0:=(hU.un.cell b2 _ hl2).trans qe0;have g1:=(hU.un.cell b2 _ hl2).trans qe1;have g2:=(hU.un.cell b2 _ hl2).trans qe2;have g3:=(hU.un.cell b2 _ hl2).trans qe3;have g4:=(hU.un.cell b2 _ hl2).trans qe4;clear hU;go_simp<;>with_reducible rfl);simp only[pq0,pq1,pq2,pq3,pq4])
    refine seq_new _ _ (by rfl) rfl ⟨_,0,rfl⟩ (by simp) (fun w5 hU hp K hK=> ?_) ?_
    ·have hz:=Ext.size hU.un;go_simp;exact hK _ _ (Ext.alloc w5 _) ⟨_,rfl⟩ ⟨_,rfl,hz,Blk.new w5 _ _⟩ (newP rfl)
    rintro _ ⟨g1,rfl⟩;simp only[pq0,pq1,pq2,pq3,pq4];refine seq_new _ _ (by rfl) rfl ⟨_,0,rfl⟩ (by simp) (fun w5 hU hp K hK=> ?_) ?_
    ·have hz:=Ext.size hU.un;go_simp;exact hK _ _ (Ext.alloc w5 _) ⟨_,rfl⟩ ⟨_,rfl,hz,Blk.new w5 _ _⟩ (newP rfl)
    rintro _ ⟨g2,rfl⟩;simp only[pq0,pq1,pq2,pq3,pq4];intro w2 hw2 hp hpair;have hne:g1≠g2:=ptr_ne' (hpair 8 9 _ _ _ _ trivial trivial (by omega) (by omega) rfl rfl rfl rfl rfl rfl (by omega) (by rfl) (by rfl));obtain⟨z2,k2⟩:=PNew.at_ (hp _ (.head _));obtain⟨z1,k1⟩:=PNew.at_ (hp _ (.tail _ (.head _)));clear hp hpair;simp only[List.drop_succ_cons,List.drop_zero];have m1:=k1.put5q (.int .i64 x.k) (.string (str x.nm)) (.slice A1 x.ex.length c1) (.slice A2 x.body.length c2) (.slice A3 x.els.length c3);have m2:=k2.grown (grown_cells g1 [.int .i64 x.k, .string (str x.nm), .slice A1 x.ex.length c1, .slice A2 x.body.length c2, .slice A3 x.els.length c3] 0 w2) (fun e=>hne (Option.some.inj e).symm);have r1:=m1.grown (grown_cells g2 [.int .i64 y.k, .string (str y.nm), .slice B1 y.ex.length d1, .slice B2 y.body.length d2, .slice B3 y.els.length d3] 0 _) (fun e=>hne (Option.some.inj e));have r2:=m2.put5q (.int .i64 y.k) (.string (str y.nm)) (.slice B1 y.ex.length d1) (.slice B2 y.body.length d2) (.slice B3 y.els.length d3);have HT1:=hide (ext_cells hw2 z1 [.int .i64 x.k, .string (str x.nm), .slice A1 x.ex.length c1, .slice A2 x.body.length c2, .slice A3 x.els.length c3]);have HT2:=hide (ext_cells (ext_cells hw2 z1 [.int .i64 x.k, .string (str x.nm), .slice A1 x.ex.length c1, .slice A2 x.body.length c2, .slice A3 x.els.length c3]) z2 [.int .i64 y.k, .string (str y.nm), .slice B1 y.ex.length d1, .slice B2 y.body.length d2, .slice B3 y.els.length d3]);simp only[World.setCells,Nat.zero_add,Nat.reduceAdd]at m1 m2 r1 r2 HT1 HT2;have hcc1:=k1.cell;have hff1:=k1.frozen;have hcc2:=m2.cell;have hff2:=m2.frozen;have HD1:=hide r1;have HD2:=hide r2;clear k1 k2 m1 m2 r1 r2 hw2;refine tailS_step (by rfl) (by simp) (fun K hK=> ?_);go_simp;refine hK _ _ ?_ ?_
    ·exact HT1.out
    clear hK;refine tailS_step (by rfl) (by simp) (fun K hK=> ?_);go_simp;refine hK _ _ ?_ ?_
    ·exact HT2.out
    clear hK;refine tailS_nil ?_;generalize hwe:((((((((((w2).setCell ⟨g1,0,none⟩ (.int .i64 x.k)).setCell ⟨g1,1,none⟩ (.string (str x.nm))).setCell ⟨g1,2,none⟩ (.slice A1 x.ex.length c1)).setCell ⟨g1,3,none⟩ (.slice A2 x.body.length c2)).setCell ⟨g1,4,none⟩ (.slice A3 x.els.length c3)).setCell ⟨g2,0,none⟩ (.int .i64 y.k)).setCell ⟨g2,1,none⟩ (.string (str y.nm))).setCell ⟨g2,2,none⟩ (.slice B1 y.ex.length d1)).setCell ⟨g2,3,none⟩ (.slice B2 y.body.length d2)).setCell ⟨g2,4,none⟩ (.slice B3 y.els.length d3)=we at*;have HE2:=hide HT2.out.un;have HX2:=hide (HX.out.trans HE2.out);have hc1:=HD1.out.cell;have hc2:=HD2.out.cell;clear hwe hcc1 hff1 hcc2 hff2 HT1 HT2 hne z1 z2 pe0 pe1 pe2 pe3 pe4 qe0 qe1 qe2 qe3 qe4;have HC:=hide (fun(W:World) (h:Ext we W)=>HY.out W (HE2.out.trans h));have HC1:=hide (fun(W:World) (h:Ext we W)=>HY1.out W (HE2.out.trans h));have HC2:=hide (fun(W:World) (h:Ext we W)=>HY2.out W (HE2.out.trans h));clear HY HY1 HY2;obtain⟨k,s,ax,ax1,ax2⟩:=x;obtain⟨k',s',bx,bx1,bx2⟩:=y;simp only[St.k,St.nm,St.ex,St.body,St.els]at*;generalize hrr:eqL ax bx=r at HC;generalize hrr1:eqS ax1 bx1=r1 at HC1;generalize hrr2:eqS ax2 bx2=r2 at HC2;have HR:=hide hrr;have HR1:=hide hrr1;have HR2:=hide hrr2;clear hrr hrr1 hrr2;generalize ax.length=lax at*;generalize ax1.length=lax1 at*;generalize ax2.length=lax2 at*;generalize bx.length=lbx at*;generalize bx1.length=lbx1 at*;generalize bx2.length=lbx2 at*;by_cases hk:k=k'
    ·subst hk;by_cases hs:s=s'
     ·subst hs
      cases r with
      |false=>
       clear HC1 HC2;have HQ:=hide (HBad.out (by rw[eqSt,HR.out];simp));clear HBad HG;go_wp2_with (first|(go_at_call 24;refine(HC.out _ (Ext.refl _)).mono ?_;rintro e w3 ⟨rfl,hE⟩;clear hc1 hc2;have hc1:=(HD1.out.ext hE).cell;have hc2:=(HD2.out.ext hE).cell;have HZ3:=hide hE;have HX3:=hide (HX2.out.trans hE);clear hE HC));go_ret;exact⟨ret_q HQ.out.symm,HX3.out⟩
      |true=>
       cases r1 with
       |false=>
        clear HC2;have HQ:=hide (HBad.out (by rw[eqSt,HR.out,HR1.out];simp));clear HBad HG;go_wp2_with (first|(go_at_call 24;refine(HC.out _ (Ext.refl _)).mono ?_;rintro e w3 ⟨rfl,hE⟩;clear hc1 hc2;have hc1:=(HD1.out.ext hE).cell;have hc2:=(HD2.out.ext hE).cell;have HZ3:=hide hE;have HX3:=hide (HX2.out.trans hE);clear hE HC)|(go_at_call 35;refine(HC1.out _ HZ3.out).mono ?_;rintro e w4 ⟨rfl,hE⟩;clear hc1 hc2;have hc1:=(HD1.out.ext (HZ3.out.trans hE)).cell;have hc2:=(HD2.out.ext (HZ3.out.trans hE)).cell;have HZ4:=hide (HZ3.out.trans hE);have HX4:=hide (HX3.out.trans hE);clear hE HC1));go_ret;exact⟨ret_q HQ.out.symm,HX4.out⟩
       |true=>
        cases r2 with
        |false=>
         have HQ:=hide (HBad.out (by rw[eqSt,HR.out,HR1.out,HR2.out];simp));clear HBad HG;go_wp2_with (first|(go_at_call 24;refine(HC.out _ (Ext.refl _)).mono ?_;rintro e w3 ⟨rfl,hE⟩;clear hc1 hc2;have hc1:=(HD1.out.ext hE).cell;have hc2:=(HD2.out.ext hE).cell;have HZ3:=hide hE;have HX3:=hide (HX2.out.trans hE);clear hE HC)|(go_at_call 35;refine(HC1.out _ HZ3.out).mono ?_;rintro e w4 ⟨rfl,hE⟩;clear hc1 hc2;have hc1:=(HD1.out.ext (HZ3.out.trans hE)).cell;have hc2:=(HD2.out.ext (HZ3.out.trans hE)).cell;have HZ4:=hide (HZ3.out.trans hE);have HX4:=hide (HX3.out.trans hE);clear hE HC1)|(go_at_call 35;refine(HC2.out _ HZ4.out).mono ?_;rintro e w5 ⟨rfl,hE⟩;have HX5:=hide (HX4.out.trans hE);clear hE HC2));go_ret;exact⟨ret_q HQ.out.symm,HX5.out⟩
        |true=>
         have HQ:=hide (HG.out (by rw[eqSt,HR.out,HR1.out,HR2.out];simp));clear HBad HG;go_wp2_with (first|(go_at_call 24;refine(HC.out _ (Ext.refl _)).mono ?_;rintro e w3 ⟨rfl,hE⟩;clear hc1 hc2;have hc1:=(HD1.out.ext hE).cell;have hc2:=(HD2.out.ext hE).cell;have HZ3:=hide hE;have HX3:=hide (HX2.out.trans hE);clear hE HC)|(go_at_call 35;refine(HC1.out _ HZ3.out).mono ?_;rintro e w4 ⟨rfl,hE⟩;clear hc1 hc2;have hc1:=(HD1.out.ext (HZ3.out.trans hE)).cell;have hc2:=(HD2.out.ext (HZ3.out.trans hE)).cell;have HZ4:=hide (HZ3.out.trans hE);have HX4:=hide (HX3.out.trans hE);clear hE HC1)|(go_at_call 35;refine(HC2.out _ HZ4.out).mono ?_;rintro e w5 ⟨rfl,hE⟩;have HX5:=hide (HX4.out.trans hE);clear hE HC2));go_roundw
         case rel=>exact⟨j+1,by omega,by go_num,HX5,HQ⟩
         case measure=>simp[intOf];omega
     ·have fs:(s==s')=false:=by simpa using hs
      have ns:(s !=s')=true:=by rw[bne,fs];rfl
      have HQ:=hide (HBad.out (by simp[eqSt,fs]));clear hs HBad HG HC HC1 HC2;go_wp2_with fail;go_ret;exact⟨ret_q HQ.out.symm,HX2.out⟩
    ·have fk:(k==k')=false:=by simpa using hk
     have nk:(k !=k')=true:=by rw[bne,fk];rfl
     have HQ:=hide (HBad.out (by simp[eqSt,fk]));clear hk HBad HG HC HC1 HC2;go_wp2_with fail;go_ret;exact⟨ret_q HQ.out.symm,HX2.out⟩
   ·have hlt': ¬(j:Int)<n:=by omega
    have hjj:j=n:=by omega
    have HQ:=hide (eqS_good (a:=xs) (b:=ys) (by have:=HNL.out;have:=HML.out;have:=H2.out;omega) (fun i h1 h2=>HT.out i h1 h2 (by have:=HNL.out;omega)));clear HT;go_wp2_with fail;go_ret;exact⟨ret_q HQ.out.symm,HX.out⟩
 ·have h2b:((n:Int)==(m:Int))=false:=by simp;omega
  have h2c:((n:Int) !=(m:Int))=true:=by simp;omega
  have HN:=hide (eqS_len (a:=xs) (b:=ys) (by have:=HNL.out;have:=HML.out;omega));clear h2;go_enter func35,ntmps35;go_wp2_with fail;go_ret;exact⟨ret_q HN.out.symm,Ext.refl w⟩
theorem reqS_all: ∀(k:Nat) (xs ys:List St),wtS xs<k->ReS xs ys
 |0,xs,ys,h=>absurd h (Nat.not_lt_zero _)
 |k+1,xs,ys,h=>reqS_step xs ys (fun x hx y=>⟨reqE_any _ _,reqS_all k x.body y.body (by have:=wtS_mem hx;have:=x.wt_eq;omega),reqS_all k x.els y.els (by have:=wtS_mem hx;have:=x.wt_eq;omega)⟩)
theorem reqS_any (xs ys:List St):ReS xs ys:=reqS_all _ xs ys (Nat.lt_succ_self _)
end Go.Proofs.YtelplgkppalmfaaGreatDoor
namespace Go.Proofs.YtelplgkppalmfaaGreatDoor
open Go.Proofs.Tryz
open Go.RowKit
structure RQ (w:World) (s0 s1 s2 s3:Value) (W:World):Prop where
 e:Ext w W
 ba:Blk W w.heap.size 33 #[s0,s1]
 bb:Blk W (w.heap.size+1) 33 #[s2,s3]
theorem RQ.ex {w W W':World} {s0 s1 s2 s3:Value} (h:RQ w s0 s1 s2 s3 W) (hE:Ext W W'):RQ w s0 s1 s2 s3 W':=⟨h.e.trans hE,h.ba.ext hE,h.bb.ext hE⟩
theorem rq_new (w:World) (s0 s1 s2 s3:Value):RQ w s0 s1 s2 s3 ((w.alloc (.cells #[s0,s1] 33)).alloc (.cells #[s2,s3] 33)):=by
 refine⟨(Ext.alloc w _).alloc' _,(Blk.new w _ _).alloc _,?_⟩;have:=Blk.new (w.alloc (.cells #[s0,s1] 33)) 33 #[s2,s3];rwa [World.size_alloc]at this
theorem list_bad {a b:List (List UInt8)} (i:Nat) (h:i<a.length) (h':i<b.length) (he:(a[i]==b[i])=false):(a==b)=false:=by
 rw[beq_eq_false_iff_ne]at he⊢;intro e;subst e;exact he rfl
theorem list_len {a b:List (List UInt8)} (h:a.length≠b.length):(a==b)=false:=by
 rw[beq_eq_false_iff_ne];intro e;exact h (by rw[e])
theorem list_good {a b:List (List UInt8)} (hl:a.length=b.length) (h: ∀i (h:i<a.length) (h':i<b.length),(a[i]==b[i])=true):(a==b)=true:=by
 rw[beq_iff_eq];refine List.ext_getElem hl fun i h1 h2=> ?_;have:=h i h1 h2;rwa [beq_iff_eq]at this
theorem rdn_at' {w:World} {P:Nat->Prop} {A:Option Addr} {n c:Nat} {ls:List (List UInt8)} (h:RdN w P (.slice A n c) ls) (i:Nat) (hi:i<ls.length):
  ∃b o,A=some ⟨b,o,none⟩/\b<w.heap.size/\w.cell? ⟨b,o+i,none⟩=some (.string (str ls[i])):=by
 obtain⟨A',c',hv,h⟩:=h;injection hv with h1 h2 h3;rcases h with h|h
 ·subst h;simp at hi
 ·obtain⟨_,_,b,o,ha,_,hb,hc⟩:=h;exact⟨b,o,by rw[h1];exact ha,hb,hc i hi⟩
theorem requal_any (p q:Pg) (P:Nat->Prop) (w:World) (A B A' B':Option Addr) (n c m d n' c' m' d':Nat) (hV:RdV w P (.slice A n c) p.vs) (hF:RdF w P (.slice B m d) p.fs) (hV':RdV w P (.slice A' n' c') q.vs) (hF':RdF w P (.slice B' m' d') q.fs):
  Calls prog 12 #[.agg #[.slice A n c, .slice B m d], .agg #[.slice A' n' c', .slice B' m' d']] w fun e w'=>e= .returned (.bool (eqPg p q))/\Ext w w':=by
 obtain⟨vs,fs⟩:=p;obtain⟨vs',fs'⟩:=q;simp only at*;have hnv:n=vs.length:=by obtain⟨_,_,hh,_⟩:=hV;injection hh
 have hnf:m=fs.length:=by obtain⟨_,_,hh,_⟩:=hF;injection hh
 have hnv':n'=vs'.length:=by obtain⟨_,_,hh,_⟩:=hV';injection hh
 have hnf':m'=fs'.length:=by obtain⟨_,_,hh,_⟩:=hF';injection hh
 have hnm:n<=maxLen:=by obtain⟨_,_,hh,h⟩:=hV;injection hh with _ hn _;rcases h with h|⟨h1,h2,_⟩;(rw[hn,h];exact Nat.zero_le _);omega
 have hmm:m<=maxLen:=by obtain⟨_,_,hh,h⟩:=hF;injection hh with _ hn _;rcases h with h|⟨h1,h2,_⟩;(rw[hn,h];exact Nat.zero_le _);omega
 unfold maxLen at hnm hmm;have HR0:=hide (rq_new w (.slice A n c) (.slice B m d) (.slice A' n' c') (.slice B' m' d'));have c0:=HR0.out.ba.cell;have c1:=HR0.out.bb.cell;by_cases hn2:n=n'
 ·subst hn2;by_cases hm2:m=m'
  ·subst hm2;have HNV:=hide hnv;have HNF:=hide hnf;have HNV':=hide hnv';have HNF':=hide hnf';have HV:=hide hV;have HF:=hide hF;have HV':=hide hV';have HF':=hide hF';clear hnv hnf hnv' hnf' hV hF hV' hF';go_enter func12,ntmps12;go_wp2_with fail
   go_loopw [5] (fun i wr=> ∃j:Nat,j<=n/\i= .int .i64 (j:Int)/\Hid (RQ w (.slice A n c) (.slice B m d) (.slice A' n c') (.slice B' m d') wr)/\Hid (∀i (h:i<vs.length) (h':i<vs'.length),i<j->eqV vs[i] vs'[i]=true)) (fun i _=>n-(intOf i).toNat)
   case atStart=>exact⟨0,Nat.zero_le _,rfl,HR0,hide (fun _ _ _ h=>absurd h (Nat.not_lt_zero _))⟩
   case round=>
    clear c0 c1 HR0;obtain⟨j,hj,rfl,HR,HT⟩:=hrel;have c0:=HR.out.ba.cell;have c1:=HR.out.bb.cell;by_cases hlt:j<n
    ·have hlt':(j:Int)<n:=by omega
     have hjl:j<vs.length:=by have:=HNV.out;omega
     have hjl2:j<vs'.length:=by have:=HNV'.out;omega
     obtain⟨b1,o1,rfl,hb1,p0,p1⟩:=rdv_at' HV.out j hjl;obtain⟨b2,o2,rfl,hb2,q0,q1⟩:=rdv_at' HV'.out j hjl2;have pe0:=(HR.out.e.cell b1 _ hb1).trans p0;have pe1:=(HR.out.e.cell b1 _ hb1).trans p1;have qe0:=(HR.out.e.cell b2 _ hb2).trans q0;have qe1:=(HR.out.e.cell b2 _ hb2).trans q1;clear p0 q0 p1 q1;have hl1:b1<wr.heap.size:=Nat.lt_of_lt_of_le hb1 HR.out.e.size;have hl2:b2<wr.heap.size:=Nat.lt_of_lt_of_le hb2 HR.out.e.size;have HBad:=hide (fun h=>eqVs_bad (a:=vs) (b:=vs') j hjl hjl2 h)
     have HG:=hide (fun(h:eqV vs[j] vs'[j]=true)=>(show ∀i (h:i<vs.length) (h':i<vs'.length),i<j+1->eqV vs[i] vs'[i]=true from fun i h1 h2 h3=>by
      by_cases h4:i=j
      ·subst h4;exact h
      ·exact HT.out i h1 h2 (by omega)))
     generalize vs[j]=x at*;generalize vs'[j]=y at*;obtain⟨s,x⟩:=x;obtain⟨t,y⟩:=y;simp only at*;by_cases hf0:s=t
     ·subst hf0;by_cases hf1:x=y
      ·subst hf1;have HQ:=hide (HG.out (by simp[eqV]));clear HG HBad;go_wp2_with fail;clear c0 c1;refine wp_region_ext 11 4 [] mixed (by kernel_rfl) trivial ?_;repeat (refine sx ?_ (fun w1 hU=> ?_) ?_;rotate_left;(focus have k0:=(HR.out.ex hU.un).ba.cell;have k1:=(HR.out.ex hU.un).bb.cell;have f1:=(hU.un.cell b1 _ hl1).trans pe0;have f2:=(hU.un.cell b2 _ hl2).trans qe0;have f3:=(hU.un.cell b1 _ hl1).trans pe1;have f4:=(hU.un.cell b2 _ hl2).trans qe1;clear hU;go_simp<;>with_reducible rfl);simp only[pq0,pq1,pq2,pq3,pq4])
       intro w7 hw7 _;simp only[List.drop_succ_cons,List.drop_nil];have HR7:=hide (HR.out.ex hw7.un);clear hw7;go_wp2_with fail;go_roundw
       case rel=>exact⟨j+1,by omega,by go_num,HR7,HQ⟩
       case measure=>simp[intOf];omega
      ·have g1:(x==y)=false:=by simpa using hf1
       have n1:(x !=y)=true:=by rw[bne,g1];rfl
       have HQ:=hide (HBad.out (by simp[eqV,g1]));clear HG HBad hf1;go_wp2_with fail;clear c0 c1;refine wp_region_ext 11 4 [] mixed (by kernel_rfl) trivial ?_;repeat (refine sx ?_ (fun w1 hU=> ?_) ?_;rotate_left;(focus have k0:=(HR.out.ex hU.un).ba.cell;have k1:=(HR.out.ex hU.un).bb.cell;have f1:=(hU.un.cell b1 _ hl1).trans pe0;have f2:=(hU.un.cell b2 _ hl2).trans qe0;have f3:=(hU.un.cell b1 _ hl1).trans pe1;have f4:=(hU.un.cell b2 _ hl2).trans qe1;clear hU;go_simp<;>with_reducible rfl);simp only[pq0,pq1,pq2,pq3,pq4])
       intro w7 hw7 _;simp only[List.drop_succ_cons,List.drop_nil];have HR7:=hide (HR.out.ex hw7.un);clear hw7;go_wp2_with fail;go_ret;exact⟨ret_q (by rw[eqPg,HQ.out];rfl),HR7.out.e⟩
     ·have g1:(s==t)=false:=by simpa using hf0
      have n1:(s !=t)=true:=by rw[bne,g1];rfl
      have HQ:=hide (HBad.out (by simp[eqV,g1]));clear HG HBad hf0;go_wp2_with fail;clear c0 c1;refine wp_region_ext 11 4 [] mixed (by kernel_rfl) trivial ?_;repeat (refine sx ?_ (fun w1 hU=> ?_) ?_;rotate_left;(focus have k0:=(HR.out.ex hU.un).ba.cell;have k1:=(HR.out.ex hU.un).bb.cell;have f1:=(hU.un.cell b1 _ hl1).trans pe0;have f2:=(hU.un.cell b2 _ hl2).trans qe0;have f3:=(hU.un.cell b1 _ hl1).trans pe1;have f4:=(hU.un.cell b2 _ hl2).trans qe1;clear hU;go_simp<;>with_reducible rfl);simp only[pq0,pq1,pq2,pq3,pq4])
      intro w7 hw7 _;simp only[List.drop_succ_cons,List.drop_nil];have HR7:=hide (HR.out.ex hw7.un);clear hw7;go_wp2_with fail;go_ret;exact⟨ret_q (by rw[eqPg,HQ.out];rfl),HR7.out.e⟩
    ·have hlt': ¬(j:Int)<n:=by omega
     have HQV:=hide (eqVs_good (a:=vs) (b:=vs') (by have:=HNV.out;have:=HNV'.out;omega) (fun i h1 h2=>HT.out i h1 h2 (by have:=HNV.out;omega)));clear HT;go_wp2_with fail
     go_loopw [6] (fun i wr=> ∃j:Nat,j<=m/\i= .int .i64 (j:Int)/\Hid (RQ w (.slice A n c) (.slice B m d) (.slice A' n c') (.slice B' m d') wr)/\Hid (∀i (h:i<fs.length) (h':i<fs'.length),i<j->eqF fs[i] fs'[i]=true)) (fun i _=>m-(intOf i).toNat)
     case atStart=>exact⟨0,Nat.zero_le _,rfl,HR,hide (fun _ _ _ h=>absurd h (Nat.not_lt_zero _))⟩
     case round=>
      clear c0 c1 HR;obtain⟨j,hj,rfl,HR,HT⟩:=hrel;have c0:=HR.out.ba.cell;have c1:=HR.out.bb.cell;by_cases hlt:j<m
      ·have hlt':(j:Int)<m:=by omega
       have hjl:j<fs.length:=by have:=HNF.out;omega
       have hjl2:j<fs'.length:=by have:=HNF'.out;omega
       obtain⟨b1,o1,a1,a2,rfl,hb1,p0,p1,p2,hRa,hSa⟩:=rdf_at' HF.out j hjl;obtain⟨b2,o2,e1,e2,rfl,hb2,q0,q1,q2,hRb,hSb⟩:=rdf_at' HF'.out j hjl2;have pe0:=(HR.out.e.cell b1 _ hb1).trans p0;have pe1:=(HR.out.e.cell b1 _ hb1).trans p1;have pe2:=(HR.out.e.cell b1 _ hb1).trans p2;have qe0:=(HR.out.e.cell b2 _ hb2).trans q0;have qe1:=(HR.out.e.cell b2 _ hb2).trans q1;have qe2:=(HR.out.e.cell b2 _ hb2).trans q2;clear p0 q0 p1 q1 p2 q2;have hl1:b1<wr.heap.size:=Nat.lt_of_lt_of_le hb1 HR.out.e.size;have hl2:b2<wr.heap.size:=Nat.lt_of_lt_of_le hb2 HR.out.e.size;have HBad:=hide (fun h=>eqFs_bad (a:=fs) (b:=fs') j hjl hjl2 h)
       have HG:=hide (fun(h:eqF fs[j] fs'[j]=true)=>(show ∀i (h:i<fs.length) (h':i<fs'.length),i<j+1->eqF fs[i] fs'[i]=true from fun i h1 h2 h3=>by
        by_cases h4:i=j
        ·subst h4;exact h
        ·exact HT.out i h1 h2 (by omega)))
       generalize fs[j]=x at*;generalize fs'[j]=y at*;have hlp: ∃A' c',a1= .slice A' x.ps.length c':=by obtain⟨A',c',hh,_⟩:=hRa;exact⟨A',c',hh⟩
       have hlq: ∃A' c',e1= .slice A' y.ps.length c':=by obtain⟨A',c',hh,_⟩:=hRb;exact⟨A',c',hh⟩
       have hpm:x.ps.length<=maxLen:=by obtain⟨_,_,hh,h⟩:=hRa;rcases h with h|⟨h1,h2,_⟩;(rw[h];exact Nat.zero_le _);omega
       unfold maxLen at hpm;obtain⟨A1,c1',rfl⟩:=hlp;obtain⟨B1,d1,rfl⟩:=hlq;obtain⟨A2,c2,rfl,_⟩:=hSa.form;obtain⟨B2,d2,rfl,_⟩:=hSb.form;have HNa:=hide hRa;have HNb:=hide hRb;have HY:=hide (fun(W:World) (h:Ext wr W)=>reqS_any x.body y.body P W _ _ (hSa.keep (.of_ext (HR.out.e.trans h)) (fun _ hb _=>hb)) (hSb.keep (.of_ext (HR.out.e.trans h)) (fun _ hb _=>hb)));clear hRa hRb hSa hSb;go_wp2_with fail;clear c0 c1;refine wp_region_take 12 4 [(10,ShP,PNew wr 68 #[.string ⟨#[]⟩, .slice none 0 0, .slice none 0 0]),(11,ShP,PNew wr 68 #[.string ⟨#[]⟩, .slice none 0 0, .slice none 0 0])] [10,11] [5,6,7,8,9] mixed (by kernel_rfl) (by kernel_rfl) (by kernel_rfl) (by rfl)
        ⟨fun _ _ _ h hx=>h.ext hx,fun _ _ _ h hx=>h.ext hx,trivial⟩ (fun i hi=> ?_) ?_
       ·have:i=10\/i=11:=by simpa using hi
        rcases this with rfl|rfl
        ·exact⟨_,_,rfl,PNew.old⟩
        ·exact⟨_,_,rfl,PNew.old⟩
       repeat (refine sx ?_ (fun w1 hU=> ?_) ?_;rotate_left;(focus have k0:=(HR.out.ex hU.un).ba.cell;have k1:=(HR.out.ex hU.un).bb.cell;have f0:=(hU.un.cell b1 _ hl1).trans pe0;have f1:=(hU.un.cell b1 _ hl1).trans pe1;have f2:=(hU.un.cell b1 _ hl1).trans pe2;have g0:=(hU.un.cell b2 _ hl2).trans qe0;have g1:=(hU.un.cell b2 _ hl2).trans qe1;have g2:=(hU.un.cell b2 _ hl2).trans qe2;clear hU;go_simp<;>with_reducible rfl);simp only[pq0,pq1,pq2,pq3,pq4])
       refine seq_new _ _ (by rfl) rfl ⟨_,0,rfl⟩ (by simp) (fun w5 hU hp K hK=> ?_) ?_
       ·have hz:=Ext.size hU.un;go_simp;exact hK _ _ (Ext.alloc w5 _) ⟨_,rfl⟩ ⟨_,rfl,hz,Blk.new w5 _ _⟩ (newP rfl)
       rintro _ ⟨g1,rfl⟩;simp only[pq0,pq1,pq2,pq3,pq4];refine seq_new _ _ (by rfl) rfl ⟨_,0,rfl⟩ (by simp) (fun w5 hU hp K hK=> ?_) ?_
       ·have hz:=Ext.size hU.un;go_simp;exact hK _ _ (Ext.alloc w5 _) ⟨_,rfl⟩ ⟨_,rfl,hz,Blk.new w5 _ _⟩ (newP rfl)
       rintro _ ⟨g2,rfl⟩;simp only[pq0,pq1,pq2,pq3,pq4];intro w2 hw2 hp hpair;have hne:g1≠g2:=ptr_ne' (hpair 10 11 _ _ _ _ trivial trivial (by omega) (by omega) rfl rfl rfl rfl rfl rfl (by omega) (by rfl) (by rfl));obtain⟨z2,k2⟩:=PNew.at_ (hp _ (.head _));obtain⟨z1,k1⟩:=PNew.at_ (hp _ (.tail _ (.head _)));clear hp hpair;simp only[List.drop_succ_cons,List.drop_zero];have m1:=k1.put3q (.string (str x.nm)) (.slice A1 x.ps.length c1') (.slice A2 x.body.length c2);have m2:=k2.grown (grown_cells g1 [.string (str x.nm), .slice A1 x.ps.length c1', .slice A2 x.body.length c2] 0 w2) (fun e=>hne (Option.some.inj e).symm);have r1:=m1.grown (grown_cells g2 [.string (str y.nm), .slice B1 y.ps.length d1, .slice B2 y.body.length d2] 0 _) (fun e=>hne (Option.some.inj e));have r2:=m2.put3q (.string (str y.nm)) (.slice B1 y.ps.length d1) (.slice B2 y.body.length d2);have HT1:=hide (ext_cells hw2 z1 [.string (str x.nm), .slice A1 x.ps.length c1', .slice A2 x.body.length c2]);have HT2:=hide (ext_cells (ext_cells hw2 z1 [.string (str x.nm), .slice A1 x.ps.length c1', .slice A2 x.body.length c2]) z2 [.string (str y.nm), .slice B1 y.ps.length d1, .slice B2 y.body.length d2]);simp only[World.setCells,Nat.zero_add,Nat.reduceAdd]at m1 m2 r1 r2 HT1 HT2;have hcc1:=k1.cell;have hff1:=k1.frozen;have hcc2:=m2.cell;have hff2:=m2.frozen;have HD1:=hide r1;have HD2:=hide r2;clear k1 k2 m1 m2 r1 r2 hw2;refine tailS_step (by rfl) (by simp) (fun K hK=> ?_);go_simp;refine hK _ _ ?_ ?_
       ·exact HT1.out
       clear hK;refine tailS_step (by rfl) (by simp) (fun K hK=> ?_);go_simp;refine hK _ _ ?_ ?_
       ·exact HT2.out
       clear hK;refine tailS_nil ?_;generalize hwe:((((((w2).setCell ⟨g1,0,none⟩ (.string (str x.nm))).setCell ⟨g1,1,none⟩ (.slice A1 x.ps.length c1')).setCell ⟨g1,2,none⟩ (.slice A2 x.body.length c2)).setCell ⟨g2,0,none⟩ (.string (str y.nm))).setCell ⟨g2,1,none⟩ (.slice B1 y.ps.length d1)).setCell ⟨g2,2,none⟩ (.slice B2 y.body.length d2)=we at*;have HE2:=hide HT2.out.un;have HR2:=hide (HR.out.ex HE2.out);have hc1:=HD1.out.cell;have hc2:=HD2.out.cell;clear hwe hcc1 hff1 hcc2 hff2 HT1 HT2 hne z1 z2 pe0 pe1 pe2 qe0 qe1 qe2;have HC:=hide (fun(W:World) (h:Ext we W)=>HY.out W (HE2.out.trans h));clear HY;obtain⟨s,ax,bx⟩:=x;obtain⟨s',ay,by'⟩:=y;simp only at*;generalize hrr:eqS bx by'=r at HC
       have HS:=hide hrr;clear hrr;generalize bx.length=lbx at*;generalize by'.length=lby at*
       obtain⟨u,hu⟩: ∃u,ax.length=u:=⟨_,rfl⟩
       obtain⟨u',hu'⟩: ∃u,ay.length=u:=⟨_,rfl⟩
       rw[hu]at HNa HD1 hc1 hpm;rw[hu']at HNb HD2 hc2;have HU:=hide hu;have HU':=hide hu';simp only[hu,hu'];clear hu hu';by_cases hs:s=s'
       ·subst hs;by_cases hk:u=u'
        ·subst hk
         cases r with
         |false=>
          have HQ:=hide (HBad.out (by rw[eqF,HS.out];simp));clear HBad HG;go_wp2_with (go_at_call 35;refine(HC.out _ (Ext.refl _)).mono ?_;rintro e w3 ⟨rfl,hE⟩;have HR3:=hide (HR2.out.ex hE);clear hE HC);go_ret;exact⟨ret_q (by rw[eqPg,HQ.out];simp),HR3.out.e⟩
         |true=>
          go_wp2_with (go_at_call 35;refine(HC.out _ (Ext.refl _)).mono ?_;rintro e w3 ⟨rfl,hE⟩;have HR3:=hide (HR2.out.ex hE);have HZ3:=hide hE;clear hc1 hc2;have hc1:=(HD1.out.ext hE).cell;have hc2:=(HD2.out.ext hE).cell;clear hE HC)
          go_loopw [9] (fun i wz=> ∃k:Nat,k<=u/\i= .int .i64 (k:Int)/\Hid (Ext w3 wz)/\Hid (∀i (h:i<ax.length) (h':i<ay.length),i<k->(ax[i]==ay[i])=true)) (fun i _=>u-(intOf i).toNat)
          case atStart=>exact⟨0,Nat.zero_le _,rfl,hide (Ext.refl w3),hide (fun _ _ _ h=>absurd h (Nat.not_lt_zero _))⟩
          case round=>
           clear hc1 hc2;obtain⟨k,hk,rfl,HZ,HTk⟩:=hrel;have HZ4:=hide (HZ3.out.trans HZ.out);have hc1:=(HD1.out.ext HZ4.out).cell;have hc2:=(HD2.out.ext HZ4.out).cell;by_cases hlk:k<u
           ·have hlk':(k:Int)<u:=by omega
            have hkl:k<ax.length:=by have:=HU.out;omega
            have hkl2:k<ay.length:=by have:=HU'.out;omega
            obtain⟨b3,o3,rfl,hb3,p0⟩:=rdn_at' HNa.out k hkl;obtain⟨b4,o4,rfl,hb4,q0⟩:=rdn_at' HNb.out k hkl2;have HEz:=hide (HR2.out.e.trans HZ4.out);have hl3:b3<wr.heap.size:=Nat.lt_of_lt_of_le hb3 HEz.out.size;have hl4:b4<wr.heap.size:=Nat.lt_of_lt_of_le hb4 HEz.out.size;have pe0:=(HEz.out.cell b3 _ hb3).trans p0;have qe0:=(HEz.out.cell b4 _ hb4).trans q0;clear p0 q0;have HBk:=hide (fun h=>list_bad (a:=ax) (b:=ay) k hkl hkl2 h)
            have HGk:=hide (fun(h:(ax[k]==ay[k])=true)=>(show ∀i (h:i<ax.length) (h':i<ay.length),i<k+1->(ax[i]==ay[i])=true from fun i h1 h2 h3=>by
             by_cases h4:i=k
             ·subst h4;exact h
             ·exact HTk.out i h1 h2 (by omega)))
            generalize ax[k]=ux at*;generalize ay[k]=uy at*;by_cases hf0:ux=uy
            ·subst hf0;have HQ:=hide (HGk.out (by simp));clear HGk HBk;go_wp2_with fail;clear hc1 hc2;refine wp_region_ext 11 4 [] mixed (by kernel_rfl) trivial ?_;repeat (refine sx ?_ (fun w1 hU=> ?_) ?_;rotate_left;(focus have k0:=(HD1.out.ext (HZ4.out.trans hU.un)).cell;have k1:=(HD2.out.ext (HZ4.out.trans hU.un)).cell;have f1:=(hU.un.cell b3 _ hl3).trans pe0;have f2:=(hU.un.cell b4 _ hl4).trans qe0;clear hU;go_simp<;>with_reducible rfl);simp only[pq0,pq1,pq2,pq3,pq4])
             intro w7 hw7 _;simp only[List.drop_succ_cons,List.drop_nil];have HZ7:=hide (HZ.out.trans hw7.un);clear hw7;go_wp2_with fail;go_roundw
             case rel=>exact⟨k+1,by omega,by go_num,HZ7,HQ⟩
             case measure=>simp[intOf];omega
            ·have g1:(ux==uy)=false:=by simpa using hf0
             have n1:(ux !=uy)=true:=by rw[bne,g1];rfl
             have HQ:=hide (HBad.out (by rw[eqF,HBk.out g1];simp));clear HGk HBk HBad HG hf0;go_wp2_with fail;clear hc1 hc2;refine wp_region_ext 11 4 [] mixed (by kernel_rfl) trivial ?_;repeat (refine sx ?_ (fun w1 hU=> ?_) ?_;rotate_left;(focus have k0:=(HD1.out.ext (HZ4.out.trans hU.un)).cell;have k1:=(HD2.out.ext (HZ4.out.trans hU.un)).cell;have f1:=(hU.un.cell b3 _ hl3).trans pe0;have f2:=(hU.un.cell b4 _ hl4).trans qe0;clear hU;go_simp<;>with_reducible rfl);simp only[pq0,pq1,pq2,pq3,pq4])
             intro w7 hw7 _;simp only[List.drop_succ_cons,List.drop_nil];have HE7:=hide (HEz.out.trans hw7.un);clear hw7;go_wp2_with fail;go_ret;exact⟨ret_q (by rw[eqPg,HQ.out];simp),HE7.out⟩
           ·have hlk': ¬(k:Int)<u:=by omega
            have HQ:=hide (HG.out (by rw[eqF,HS.out,list_good (a:=ax) (b:=ay) (by have:=HU.out;have:=HU'.out;omega) (fun i h1 h2=>HTk.out i h1 h2 (by have:=HU.out;omega))];simp));have HR9:=hide (HR3.out.ex HZ.out);clear HBad HG HTk;go_wp2_with fail;go_roundw
            case rel=>exact⟨j+1,by omega,by go_num,HR9,HQ⟩
            case measure=>simp[intOf];omega
        ·have kb:((u:Int)==(u':Int))=false:=by simp;omega
         have kc:((u:Int) !=(u':Int))=true:=by simp;omega
         have HQ:=hide (HBad.out (by rw[eqF,list_len (a:=ax) (b:=ay) (by have:=HU.out;have:=HU'.out;omega)];simp));clear HBad HG HC hk;go_wp2_with fail;go_ret;exact⟨ret_q (by rw[eqPg,HQ.out];simp),HR2.out.e⟩
       ·have fs1:(s==s')=false:=by simpa using hs
        have fs2:(s !=s')=true:=by rw[bne,fs1];rfl
        have HQ:=hide (HBad.out (by simp[eqF,fs1]));clear HBad HG HC hs;go_wp2_with fail;go_ret;exact⟨ret_q (by rw[eqPg,HQ.out];simp),HR2.out.e⟩
      ·have hlt': ¬(j:Int)<m:=by omega
       have HQ:=hide (eqFs_good (a:=fs) (b:=fs') (by have:=HNF.out;have:=HNF'.out;omega) (fun i h1 h2=>HT.out i h1 h2 (by have:=HNF.out;omega)));clear HT;go_wp2_with fail;go_ret;exact⟨ret_q (by rw[eqPg,HQ.out,HQV.out];rfl),HR.out.e⟩
  ·have h2b:((m:Int)==(m':Int))=false:=by simp;omega
   have h2c:((m:Int) !=(m':Int))=true:=by simp;omega
   have HN:=hide (show eqPg ⟨vs,fs⟩ ⟨vs',fs'⟩=false by rw[eqPg,eqFs_len (show fs.length≠fs'.length by omega)];simp);clear hm2 hnv hnf hnv' hnf' hV hF hV' hF';go_enter func12,ntmps12;go_wp2_with fail;go_ret;exact⟨ret_q HN.out.symm,HR0.out.e⟩
 ·have h2b:((n:Int)==(n':Int))=false:=by simp;omega
  have h2c:((n:Int) !=(n':Int))=true:=by simp;omega
  have HN:=hide (show eqPg ⟨vs,fs⟩ ⟨vs',fs'⟩=false by rw[eqPg,eqVs_len (show vs.length≠vs'.length by omega)];rfl);clear hn2 hnv hnf hnv' hnf' hV hF hV' hF';go_enter func12,ntmps12;go_wp2_with fail;go_ret;exact⟨ret_q HN.out.symm,HR0.out.e⟩
end Go.Proofs.YtelplgkppalmfaaGreatDoor
namespace Go.Proofs.YtelplgkppalmfaaGreatDoor
open Go.Proofs.Tryz
open Go.RowKit
end Go.Proofs.YtelplgkppalmfaaGreatDoor
