/-
  Parts of the proof: EqR EqQ.
-/
import Derived.Test.YtelplgkppalmfaaGreatDoorPq27
import Derived.Test.YtelplgkppalmfaaGreatDoorPq16
import Derived.Test.YtelplgkppalmfaaGreatDoorPq09
import Derived.Test.YtelplgkppalmfaaGreatDoorPq26
import Derived.Test.YtelplgkppalmfaaGreatDoorPq28
set_option maxRecDepth 100000
set_option maxHeartbeats 8000000
set_option linter.unusedVariables false
set_option linter.unusedSimpArgs false
namespace Go.Proofs.YtelplgkppalmfaaGreatDoor
open Go.Proofs.Tryz
open Go.RowKit
theorem ret_q {a b:Bool} (h:a=b):Ending.returned (.bool a)= .returned (.bool b):=by rw[h]
theorem ptr_ne' {g h:Nat} (k: ∀x,pB (.pointer (some ⟨g,0,none⟩))=some x->pB (.pointer (some ⟨h,0,none⟩))≠some x):g≠h:=fun e=>by
 subst e;exact k g rfl rfl
def PNew (w0:World) (t:TypeId) (cs:Array Value) (v:Value) (w:World):Prop:= ∃g,v= .pointer (some ⟨g,0,none⟩)/\w0.heap.size<=g/\Blk w g t cs
theorem PNew.ext {w0:World} {t:TypeId} {cs:Array Value} {v:Value} {w w':World} (h:PNew w0 t cs v w) (he:Ext w w'):PNew w0 t cs v w':=let⟨g,h1,h2,h3⟩:=h;⟨g,h1,h2,h3.ext he⟩
theorem PNew.old {w0:World} {t:TypeId} {cs:Array Value}: ∀(v:Value) (w:World),PNew w0 t cs v w-> ∀g,pB v=some g->g<w.heap.size:=fun v w ⟨g,h1,_,h3⟩ k hk=>by
 subst h1;injection hk with hk;subst hk;exact h3.lt
theorem PNew.at_ {w0 w:World} {t:TypeId} {cs:Array Value} {g:Nat} (h:PNew w0 t cs (.pointer (some ⟨g,0,none⟩)) w):w0.heap.size<=g/\Blk w g t cs:=by
 obtain⟨k,h1,h2,h3⟩:=h;injection h1 with h1;injection h1 with h1;injection h1 with h1;subst h1;exact⟨h2,h3⟩
def ShP (v:Value):Prop:= ∃g,v= .pointer (some ⟨g,0,none⟩)
theorem newP {w:World} {n:Nat} (h:w.heap.size=n): ∀g,pB (.pointer (some ⟨n,0,none⟩))=some g->w.heap.size<=g:=fun g hg=>by
 have hg:some n=some g:=hg;injection hg with hg;omega
theorem Blk.put6q {w:World} {g:Nat} {t:TypeId} {x0 x1 x2 x3 x4 x5:Value} (h:Blk w g t #[x0,x1,x2,x3,x4,x5]) (a b c d e f:Value):Blk (w.setCells g 0 [a,b,c,d,e,f]) g t #[a,b,c,d,e,f]:=by
 have:=(((((h.set 0 a).set 1 b).set 2 c).set 3 d).set 4 e).set 5 f;simpa[World.setCells]using this
theorem ext_cells {W w:World} {g:Nat} (h:Ext W w) (hg:W.heap.size<=g) (vs:List Value):Ext W (w.setCells g 0 vs):=h.grown (grown_cells g vs 0 w) (fun k e=>by injection e with e;omega)
def ReX (xs ys:List Ex):Prop:= ∀(P:Nat->Prop) (w:World) (u v:Value),RdE w P u xs->RdE w P v ys->Calls prog 24 #[u,v] w fun e w'=>e= .returned (.bool (eqL xs ys))/\Ext w w'
theorem reqE_step (xs ys:List Ex) (hIH: ∀x,x∈xs-> ∀y:Ex,ReX x.args y.args):ReX xs ys:=by
 intro P w u v hA hB;obtain⟨A,c,rfl,hfa⟩:=hA.form;obtain⟨B,d,rfl,_⟩:=hB.form;have hnm:xs.length<=maxLen:=by rcases hfa with hfa|⟨h1,h2,_⟩;(rw[hfa];exact Nat.zero_le _);omega
 unfold maxLen at hnm;obtain⟨n,hn⟩: ∃n,xs.length=n:=⟨_,rfl⟩
 obtain⟨m,hm⟩: ∃m,ys.length=m:=⟨_,rfl⟩
 rw[hn]at hA hnm;rw[hm]at hB;rw[hn,hm];have HNL:=hide hn;have HML:=hide hm;have HA:=hide hA;have HB:=hide hB;have HI:=hide hIH;clear hA hB hIH hn hm hfa;by_cases h2:n=m
 ·have h2b:((n:Int)==(m:Int))=true:=by simp[h2]
  have h2c:((n:Int) !=(m:Int))=false:=by simp[h2]
  have H2:=hide h2;clear h2;go_enter func24,ntmps24;go_wp2_with fail
  go_loopw [5] (fun i wr=> ∃j:Nat,j<=n/\i= .int .i64 (j:Int)/\Hid (Ext w wr)/\Hid (∀i (h:i<xs.length) (h':i<ys.length),i<j->eqE xs[i] ys[i]=true)) (fun i _=>n-(intOf i).toNat)
  case atStart=>exact⟨0,Nat.zero_le _,rfl,hide (Ext.refl w),hide (fun _ _ _ h=>absurd h (Nat.not_lt_zero _))⟩
  case round=>
   obtain⟨j,hj,rfl,HX,HT⟩:=hrel;clear h2b h2c;by_cases hlt:j<n
   ·have hlt':(j:Int)<n:=by omega
    have hlt2:j<m:=by have:=H2.out;omega
    have hlt2':(j:Int)<m:=by omega
    have hjl:j<xs.length:=by have:=HNL.out;omega
    have hjl2:j<ys.length:=by have:=HML.out;omega
    obtain⟨b1,o1,a1,rfl,hb1,_,p0,p1,p2,p3,p4,p5,hRa⟩:=HA.out.at_ j hjl;obtain⟨b2,o2,a2,rfl,hb2,_,q0,q1,q2,q3,q4,q5,hRb⟩:=HB.out.at_ j hjl2;have pe0:=(HX.out.cell b1 _ hb1).trans p0;have pe1:=(HX.out.cell b1 _ hb1).trans p1;have pe2:=(HX.out.cell b1 _ hb1).trans p2;have pe3:=(HX.out.cell b1 _ hb1).trans p3;have pe4:=(HX.out.cell b1 _ hb1).trans p4;have pe5:=(HX.out.cell b1 _ hb1).trans p5;clear p0 p1 p2 p3 p4 p5;have qe0:=(HX.out.cell b2 _ hb2).trans q0;have qe1:=(HX.out.cell b2 _ hb2).trans q1;have qe2:=(HX.out.cell b2 _ hb2).trans q2;have qe3:=(HX.out.cell b2 _ hb2).trans q3;have qe4:=(HX.out.cell b2 _ hb2).trans q4;have qe5:=(HX.out.cell b2 _ hb2).trans q5;clear q0 q1 q2 q3 q4 q5;have hl1:b1<wr.heap.size:=Nat.lt_of_lt_of_le hb1 HX.out.size;have hl2:b2<wr.heap.size:=Nat.lt_of_lt_of_le hb2 HX.out.size;have HBad:=hide (fun h=>eqL_bad (a:=xs) (b:=ys) j hjl hjl2 h)
    have HG:=hide (fun(h:eqE xs[j] ys[j]=true)=>(show ∀i (h:i<xs.length) (h':i<ys.length),i<j+1->eqE xs[i] ys[i]=true from fun i h1 h2 h3=>by
     by_cases h4:i=j
     ·subst h4;exact h
     ·exact HT.out i h1 h2 (by omega)))
    have hih:=HI.out xs[j] (List.getElem_mem hjl) ys[j];generalize xs[j]=x at*;generalize ys[j]=y at*;obtain⟨A1,c1,rfl,_⟩:=hRa.form;obtain⟨B1,d1,rfl,_⟩:=hRb.form;have HY:=hide (fun(W:World) (h:Ext wr W)=>hih P W _ _ (hRa.keep (.of_ext (HX.out.trans h)) (fun _ hb _=>hb)) (hRb.keep (.of_ext (HX.out.trans h)) (fun _ hb _=>hb)));clear hRa hRb;clear hih;go_wp2_with fail;refine wp_region_take 10 3 [(8,ShP,PNew wr 49 #[.int .i64 0, .string ⟨#[]⟩, .string ⟨#[]⟩, .string ⟨#[]⟩, .int .i64 0, .slice none 0 0]),(9,ShP,PNew wr 49 #[.int .i64 0, .string ⟨#[]⟩, .string ⟨#[]⟩, .string ⟨#[]⟩, .int .i64 0, .slice none 0 0])] [8,9] [4,5,6,7] mixed (by kernel_rfl) (by kernel_rfl) (by kernel_rfl) (by rfl)
     ⟨fun _ _ _ h hx=>h.ext hx,fun _ _ _ h hx=>h.ext hx,trivial⟩ (fun i hi=> ?_) ?_
    ·have:i=8\/i=9:=by simpa using hi
     rcases this with rfl|rfl
     ·exact⟨_,_,rfl,PNew.old⟩
     ·exact⟨_,_,rfl,PNew.old⟩
    repeat (refine sx ?_ (fun w1 hU=> ?_) ?_;rotate_left;(focus have f0:=(hU.un.cell b1 _ hl1).trans pe0;have f1:=(hU.un.cell b1 _ hl1).trans pe1;have f2:=(hU.un.cell b1 _ hl1).trans pe2;have f3:=(hU.un.cell b1 _ hl1).trans pe3;have f4:=(hU.un.cell b1 _ hl1).trans pe4;have f5:=(hU.un.cell b1 _ hl1).trans pe5;have g0:=(hU.un.cell b2 _ hl2).trans qe0;have g1:=(hU.un.cell b2 _ hl2).trans qe1;have g2:=(hU.un.cell b2 _ hl2).trans qe2;have g3:=(hU.un.cell b2 _ hl2).trans qe3;have g4:=(hU.un.cell b2 _ hl2).trans qe4;have g5:=(hU.un.cell b2 _ hl2).trans qe5;clear hU;go_simp<;>with_reducible rfl);simp only[pq0,pq1,pq2,pq3,pq4])
    refine seq_new _ _ (by rfl) rfl ⟨_,0,rfl⟩ (by simp) (fun w5 hU hp K hK=> ?_) ?_
    ·have hz:=Ext.size hU.un;go_simp;exact hK _ _ (Ext.alloc w5 _) ⟨_,rfl⟩ ⟨_,rfl,hz,Blk.new w5 _ _⟩ (newP rfl)
    rintro _ ⟨g1,rfl⟩;simp only[pq0,pq1,pq2,pq3,pq4];refine seq_new _ _ (by rfl) rfl ⟨_,0,rfl⟩ (by simp) (fun w5 hU hp K hK=> ?_) ?_
    ·have hz:=Ext.size hU.un;go_simp;exact hK _ _ (Ext.alloc w5 _) ⟨_,rfl⟩ ⟨_,rfl,hz,Blk.new w5 _ _⟩ (newP rfl)
    rintro _ ⟨g2,rfl⟩;simp only[pq0,pq1,pq2,pq3,pq4];intro w2 hw2 hp hpair;have hne:g1≠g2:=ptr_ne' (hpair 8 9 _ _ _ _ trivial trivial (by omega) (by omega) rfl rfl rfl rfl rfl rfl (by omega) (by rfl) (by rfl));obtain⟨z2,k2⟩:=PNew.at_ (hp _ (.head _));obtain⟨z1,k1⟩:=PNew.at_ (hp _ (.tail _ (.head _)));clear hp hpair;simp only[List.drop_succ_cons,List.drop_zero];have m1:=k1.put6q (.int .i64 x.k) (.string (str x.op)) (.string (str x.nm)) (.string (str x.tx)) (.int .i64 x.v) (.slice A1 x.args.length c1);have m2:=k2.grown (grown_cells g1 [.int .i64 x.k, .string (str x.op), .string (str x.nm), .string (str x.tx), .int .i64 x.v, .slice A1 x.args.length c1] 0 w2) (fun e=>hne (Option.some.inj e).symm);have r1:=m1.grown (grown_cells g2 [.int .i64 y.k, .string (str y.op), .string (str y.nm), .string (str y.tx), .int .i64 y.v, .slice B1 y.args.length d1] 0 _) (fun e=>hne (Option.some.inj e));have r2:=m2.put6q (.int .i64 y.k) (.string (str y.op)) (.string (str y.nm)) (.string (str y.tx)) (.int .i64 y.v) (.slice B1 y.args.length d1);have HT1:=hide (ext_cells hw2 z1 [.int .i64 x.k, .string (str x.op), .string (str x.nm), .string (str x.tx), .int .i64 x.v, .slice A1 x.args.length c1]);have HT2:=hide (ext_cells (ext_cells hw2 z1 [.int .i64 x.k, .string (str x.op), .string (str x.nm), .string (str x.tx), .int .i64 x.v, .slice A1 x.args.length c1]) z2 [.int .i64 y.k, .string (str y.op), .string (str y.nm), .string (str y.tx), .int .i64 y.v, .slice B1 y.args.length d1]);simp only[World.setCells,Nat.zero_add,Nat.reduceAdd]at m1 m2 r1 r2 HT1 HT2;have hcc1:=k1.cell;have hff1:=k1.frozen;have hcc2:=m2.cell;have hff2:=m2.frozen;have HD1:=hide r1;have HD2:=hide r2;clear k1 k2 m1 m2 r1 r2 hw2;refine tailS_step (by rfl) (by simp) (fun K hK=> ?_);go_simp;refine hK _ _ ?_ ?_
    ·exact HT1.out
    clear hK;refine tailS_step (by rfl) (by simp) (fun K hK=> ?_);go_simp;refine hK _ _ ?_ ?_
    ·exact HT2.out
    clear hK;refine tailS_nil ?_;generalize hwe:((((((((((((w2).setCell ⟨g1,0,none⟩ (.int .i64 x.k)).setCell ⟨g1,1,none⟩ (.string (str x.op))).setCell ⟨g1,2,none⟩ (.string (str x.nm))).setCell ⟨g1,3,none⟩ (.string (str x.tx))).setCell ⟨g1,4,none⟩ (.int .i64 x.v)).setCell ⟨g1,5,none⟩ (.slice A1 x.args.length c1)).setCell ⟨g2,0,none⟩ (.int .i64 y.k)).setCell ⟨g2,1,none⟩ (.string (str y.op))).setCell ⟨g2,2,none⟩ (.string (str y.nm))).setCell ⟨g2,3,none⟩ (.string (str y.tx))).setCell ⟨g2,4,none⟩ (.int .i64 y.v)).setCell ⟨g2,5,none⟩ (.slice B1 y.args.length d1)=we at*;have HE2:=hide HT2.out.un;have HX2:=hide (HX.out.trans HE2.out);have hc1:=HD1.out.cell;have hc2:=HD2.out.cell;clear hwe hcc1 hff1 hcc2 hff2 HT1 HT2 hne z1 z2 pe0 pe1 pe2 pe3 pe4 pe5 qe0 qe1 qe2 qe3 qe4 qe5;have HC:=hide (fun(W:World) (h:Ext we W)=>HY.out W (HE2.out.trans h));clear HY HD1 HD2;obtain⟨k,o,s,t,v,ax⟩:=x;obtain⟨k',o',s',t',v',bx⟩:=y;simp only[Ex.k,Ex.op,Ex.nm,Ex.tx,Ex.v,Ex.args]at*;generalize hrr:eqL ax bx=r at HC;have HR:=hide hrr;clear hrr;generalize ax.length=la at*;generalize bx.length=lb at*;by_cases hk:k=k'
    ·subst hk;by_cases ho:o=o'
     ·subst ho;by_cases hs:s=s'
      ·subst hs;by_cases ht:t=t'
       ·subst ht;by_cases hv:v=v'
        ·subst hv
         cases r with
         |false=>
          have HQ:=hide (HBad.out (by rw[eqE,HR.out];simp));clear HBad HG;go_wp2_with (go_at_call 24;refine(HC.out _ (Ext.refl _)).mono ?_;rintro e w3 ⟨rfl,hE⟩;have HX3:=hide (HX2.out.trans hE);clear hE HC);go_ret;exact⟨ret_q HQ.out.symm,HX3.out⟩
         |true=>
          have HQ:=hide (HG.out (by rw[eqE,HR.out];simp));clear HBad HG;go_wp2_with (go_at_call 24;refine(HC.out _ (Ext.refl _)).mono ?_;rintro e w3 ⟨rfl,hE⟩;have HX3:=hide (HX2.out.trans hE);clear hE HC);go_roundw
          case rel=>exact⟨j+1,by omega,by go_num,HX3,HQ⟩
          case measure=>simp[intOf];omega
        ·have fv:(v==v')=false:=by simpa using hv
         have nv:(v !=v')=true:=by rw[bne,fv];rfl
         have HQ:=hide (HBad.out (by simp[eqE,fv]));clear hv HBad HG HC;go_wp2_with fail;go_ret;exact⟨ret_q HQ.out.symm,HX2.out⟩
       ·have ft:(t==t')=false:=by simpa using ht
        have nt:(t !=t')=true:=by rw[bne,ft];rfl
        have HQ:=hide (HBad.out (by simp[eqE,ft]));clear ht HBad HG HC;go_wp2_with fail;go_ret;exact⟨ret_q HQ.out.symm,HX2.out⟩
      ·have fs:(s==s')=false:=by simpa using hs
       have ns:(s !=s')=true:=by rw[bne,fs];rfl
       have HQ:=hide (HBad.out (by simp[eqE,fs]));clear hs HBad HG HC;go_wp2_with fail;go_ret;exact⟨ret_q HQ.out.symm,HX2.out⟩
     ·have fo:(o==o')=false:=by simpa using ho
      have no:(o !=o')=true:=by rw[bne,fo];rfl
      have HQ:=hide (HBad.out (by simp[eqE,fo]));clear ho HBad HG HC;go_wp2_with fail;go_ret;exact⟨ret_q HQ.out.symm,HX2.out⟩
    ·have fk:(k==k')=false:=by simpa using hk
     have nk:(k !=k')=true:=by rw[bne,fk];rfl
     have HQ:=hide (HBad.out (by simp[eqE,fk]));clear hk HBad HG HC;go_wp2_with fail;go_ret;exact⟨ret_q HQ.out.symm,HX2.out⟩
   ·have hlt': ¬(j:Int)<n:=by omega
    have hjj:j=n:=by omega
    have HQ:=hide (eqL_good (a:=xs) (b:=ys) (by have:=HNL.out;have:=HML.out;have:=H2.out;omega) (fun i h1 h2=>HT.out i h1 h2 (by have:=HNL.out;omega)));clear HT;go_wp2_with fail;go_ret;exact⟨ret_q HQ.out.symm,HX.out⟩
 ·have h2b:((n:Int)==(m:Int))=false:=by simp;omega
  have h2c:((n:Int) !=(m:Int))=true:=by simp;omega
  have HN:=hide (eqL_len (a:=xs) (b:=ys) (by have:=HNL.out;have:=HML.out;omega));clear h2;go_enter func24,ntmps24;go_wp2_with fail;go_ret;exact⟨ret_q HN.out.symm,Ext.refl w⟩
theorem reqE_all: ∀(k:Nat) (xs ys:List Ex),wtL xs<k->ReX xs ys
 |0,xs,ys,h=>absurd h (Nat.not_lt_zero _)
 |k+1,xs,ys,h=>reqE_step xs ys (fun x hx y=>reqE_all k x.args y.args (by have:=wtL_mem hx;have:=x.wt_eq;omega))
theorem reqE_any (xs ys:List Ex):ReX xs ys:=reqE_all _ xs ys (Nat.lt_succ_self _)
end Go.Proofs.YtelplgkppalmfaaGreatDoor
namespace Go.Proofs.YtelplgkppalmfaaGreatDoor
open Go.Proofs.Tryz
open Go.RowKit
end Go.Proofs.YtelplgkppalmfaaGreatDoor
