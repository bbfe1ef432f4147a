/-
  Parts of the proof: EqR EqQ RafA.
-/
import Derived.Test.YtelplgkppalmfaaGreatDoorPs00
import Derived.Test.YtelplgkppalmfaaGreatDoorPs28
import Derived.Test.YtelplgkppalmfaaGreatDoorPs17
import Derived.Test.YtelplgkppalmfaaGreatDoorPs10
import Derived.Test.YtelplgkppalmfaaGreatDoorPs27
import Derived.Test.YtelplgkppalmfaaGreatDoorPs29
import Derived.Test.YtelplgkppalmfaaGreatDoorPs09
set_option maxRecDepth 100000
set_option maxHeartbeats 8000000
set_option linter.unusedVariables false
set_option linter.unusedSimpArgs false
set_option linter.defProp false
namespace Go.Proofs.YtelplgkppalmfaaGreatDoor
open Go.Proofs.Tryz
section
open Go.RowKit
theorem eS {a b:Bool} (h:a=b):Ending.returned (.bool a)= .returned (.bool b):=by rw[h]
theorem oT {g h:Nat} (k: ∀x,pB (.pointer (some ⟨g,0,none⟩))=some x->pB (.pointer (some ⟨h,0,none⟩))≠some x):g≠h:=fun e=>by
 subst e;exact k g rfl rfl
def gM (w0:World) (t:TypeId) (cs:Array Value) (v:Value) (w:World):Prop:= ∃g,v= .pointer (some ⟨g,0,none⟩)/\w0.heap.size<=g/\aT w g t cs
theorem gM.ext {w0:World} {t:TypeId} {cs:Array Value} {v:Value} {w w':World} (h:gM w0 t cs v w) (he:al w w'):gM w0 t cs v w':=let⟨g,h1,h2,h3⟩:=h;⟨g,h1,h2,h3.ext he⟩
theorem gM.old {w0:World} {t:TypeId} {cs:Array Value}: ∀(v:Value) (w:World),gM w0 t cs v w-> ∀g,pB v=some g->g<w.heap.size:=fun v w ⟨g,h1,_,h3⟩ k hk=>by
 subst h1;injection hk with hk;subst hk;exact h3.lt
theorem gM.at_ {w0 w:World} {t:TypeId} {cs:Array Value} {g:Nat} (h:gM w0 t cs (.pointer (some ⟨g,0,none⟩)) w):w0.heap.size<=g/\aT w g t cs:=by
 obtain⟨k,h1,h2,h3⟩:=h;injection h1 with h1;injection h1 with h1;injection h1 with h1;subst h1;exact⟨h2,h3⟩
def yc (v:Value):Prop:= ∃g,v= .pointer (some ⟨g,0,none⟩)
theorem s_ {w:World} {n:Nat} (h:w.heap.size=n): ∀g,pB (.pointer (some ⟨n,0,none⟩))=some g->w.heap.size<=g:=fun g hg=>by
 have hg:some n=some g:=hg;injection hg with hg;omega
theorem aT.put5q {w:World} {g:Nat} {t:TypeId} {x0 x1 x2 x3 x4:Value} (h:aT w g t #[x0,x1,x2,x3,x4]) (a b c d e:Value):aT (w.setCells g 0 [a,b,c,d,e]) g t #[a,b,c,d,e]:=by
 have:=((((h.set 0 a).set 1 b).set 2 c).set 3 d).set 4 e;simpa[World.setCells]using this
theorem aT.put6q {w:World} {g:Nat} {t:TypeId} {x0 x1 x2 x3 x4 x5:Value} (h:aT w g t #[x0,x1,x2,x3,x4,x5]) (a b c d e f:Value):aT (w.setCells g 0 [a,b,c,d,e,f]) g t #[a,b,c,d,e,f]:=by
 have:=(((((h.set 0 a).set 1 b).set 2 c).set 3 d).set 4 e).set 5 f;simpa[World.setCells]using this
theorem aT.put3q {w:World} {g:Nat} {t:TypeId} {x0 x1 x2:Value} (h:aT w g t #[x0,x1,x2]) (a b c:Value):aT (w.setCells g 0 [a,b,c]) g t #[a,b,c]:=by
 have:=((h.set 0 a).set 1 b).set 2 c;simpa[World.setCells]using this
theorem fl {W w:World} {g:Nat} (h:al W w) (hg:W.heap.size<=g) (vs:List Value):al W (w.setCells g 0 vs):=h.grown (bG g vs 0 w) (fun k e=>by injection e with e;omega)
def yK (xs ys:List Ex):Prop:= ∀(P:Nat->Prop) (w:World) (u v:Value),bZ w P u xs->bZ w P v ys->Calls prog 24 #[u,v] w fun e w'=>e= .returned (.bool (pm xs ys))/\al w w'
def yL (xs ys:List St):Prop:= ∀(P:Nat->Prop) (w:World) (u v:Value),cP w P u xs->cP w P v ys->Calls prog 35 #[u,v] w fun e w'=>e= .returned (.bool (nr xs ys))/\al w w'
theorem sS (xs ys:List Ex) (hIH: ∀x,x∈xs-> ∀y:Ex,yK x.args y.args):yK xs ys:=by
 intro P w u v hA hB;obtain⟨A,c,rfl,hfa⟩:=hA.form;obtain⟨B,d,rfl,_⟩:=hB.form;have hnm:xs.length<=maxLen:=by rcases hfa with hfa|⟨h1,h2,_⟩;(rw[hfa];exact aB _);omega
 unfold maxLen at hnm;obtain⟨n,hn⟩: ∃n,xs.length=n:=⟨_,rfl⟩
 obtain⟨m,hm⟩: ∃m,ys.length=m:=⟨_,rfl⟩
 rw[hn]at hA hnm;rw[hm]at hB;rw[hn,hm];have HNL:=G hn;have HML:=G hm;have HA:=G hA;have HB:=G hB;have HI:=G hIH;clear hA hB hIH hn hm hfa;by_cases h2:n=m
 ·have h2b:((n:Int)==(m:Int))=true:=by simp[h2]
  have h2c:((n:Int) !=(m:Int))=false:=by simp[h2]
  have H2:=G h2;clear h2;go_enter func24,ntmps24;go_wp2_with fail
  go_loopw [5] (fun i wr=> ∃j:Nat,j<=n/\i= .int .i64 (j:Int)/\Hid (al w wr)/\Hid (∀i (h:i<xs.length) (h':i<ys.length),i<j->lr xs[i] ys[i]=true)) (fun i _=>n-(intOf i).toNat)
  case atStart=>exact⟨0,aB _,rfl,G (aG w),G (fun _ _ _ h=>absurd h (bK _))⟩
  case round=>
   obtain⟨j,hj,rfl,HX,HT⟩:=hrel;clear h2b h2c;by_cases hlt:j<n
   ·have hlt':(j:Int)<n:=by omega
    have hlt2:j<m:=by have:=H2.out;omega
    have hlt2':(j:Int)<m:=by omega
    have hjl:j<xs.length:=by have:=HNL.out;omega
    have hjl2:j<ys.length:=by have:=HML.out;omega
    obtain⟨b1,o1,a1,rfl,hb1,_,p0,p1,p2,p3,p4,p5,hRa⟩:=HA.out.at_ j hjl;obtain⟨b2,o2,a2,rfl,hb2,_,q0,q1,q2,q3,q4,q5,hRb⟩:=HB.out.at_ j hjl2;have pe0:=(HX.out.cell b1 _ hb1).trans p0;have pe1:=(HX.out.cell b1 _ hb1).trans p1;have pe2:=(HX.out.cell b1 _ hb1).trans p2;have pe3:=(HX.out.cell b1 _ hb1).trans p3;have pe4:=(HX.out.cell b1 _ hb1).trans p4;have pe5:=(HX.out.cell b1 _ hb1).trans p5;clear p0 p1 p2 p3 p4 p5;have qe0:=(HX.out.cell b2 _ hb2).trans q0;have qe1:=(HX.out.cell b2 _ hb2).trans q1;have qe2:=(HX.out.cell b2 _ hb2).trans q2;have qe3:=(HX.out.cell b2 _ hb2).trans q3;have qe4:=(HX.out.cell b2 _ hb2).trans q4;have qe5:=(HX.out.cell b2 _ hb2).trans q5;clear q0 q1 q2 q3 q4 q5;have hl1:b1<wr.heap.size:=an hb1 HX.out.size;have hl2:b2<wr.heap.size:=an hb2 HX.out.size;have HBad:=G (fun h=>pl (a:=xs) (b:=ys) j hjl hjl2 h)
    have HG:=G (fun(h:lr xs[j] ys[j]=true)=>(show ∀i (h:i<xs.length) (h':i<ys.length),i<j+1->lr xs[i] ys[i]=true from fun i h1 h2 h3=>by
     by_cases h4:i=j
     ·subst h4;exact h
     ·exact HT.out i h1 h2 (by omega)))
    have hih:=HI.out xs[j] (aE hjl) ys[j];generalize xs[j]=x at*;generalize ys[j]=y at*;obtain⟨A1,c1,rfl,_⟩:=hRa.form;obtain⟨B1,d1,rfl,_⟩:=hRb.form;have HY:=G (fun(W:World) (h:al wr W)=>hih P W _ _ (hRa.keep (.of_ext (HX.out.trans h)) (fun _ hb _=>hb)) (hRb.keep (.of_ext (HX.out.trans h)) (fun _ hb _=>hb)));clear hRa hRb;clear hih;go_wp2_with fail;refine cJ 10 3 [(8,yc,gM wr 49 #[.int .i64 0, .string ⟨#[]⟩, .string ⟨#[]⟩, .string ⟨#[]⟩, .int .i64 0, .slice none 0 0]),(9,yc,gM wr 49 #[.int .i64 0, .string ⟨#[]⟩, .string ⟨#[]⟩, .string ⟨#[]⟩, .int .i64 0, .slice none 0 0])] [8,9] [4,5,6,7] mixed (by kernel_rfl) (by kernel_rfl) (by kernel_rfl) (by rfl)
     ⟨fun _ _ _ h hx=>h.ext hx,fun _ _ _ h hx=>h.ext hx,trivial⟩ (fun i hi=> ?_) ?_
    ·have:i=8\/i=9:=by simpa using hi
     rcases this with rfl|rfl
     ·exact⟨_,_,rfl,gM.old⟩
     ·exact⟨_,_,rfl,gM.old⟩
    repeat (refine sx ?_ (fun w1 hU=> ?_) ?_;rotate_left;(focus have f0:=(hU.un.cell b1 _ hl1).trans pe0;have f1:=(hU.un.cell b1 _ hl1).trans pe1;have f2:=(hU.un.cell b1 _ hl1).trans pe2;have f3:=(hU.un.cell b1 _ hl1).trans pe3;have f4:=(hU.un.cell b1 _ hl1).trans pe4;have f5:=(hU.un.cell b1 _ hl1).trans pe5;have g0:=(hU.un.cell b2 _ hl2).trans qe0;have g1:=(hU.un.cell b2 _ hl2).trans qe1;have g2:=(hU.un.cell b2 _ hl2).trans qe2;have g3:=(hU.un.cell b2 _ hl2).trans qe3;have g4:=(hU.un.cell b2 _ hl2).trans qe4;have g5:=(hU.un.cell b2 _ hl2).trans qe5;clear hU;go_simp<;>with_reducible rfl);simp only[bf,be,bc,a_,a8])
    refine j5 _ _ (by rfl) rfl ⟨_,0,rfl⟩ (by simp) (fun w5 hU hp K hK=> ?_) ?_
    ·have hz:=bJ hU.un;go_simp;exact hK _ _ (O w5 _) ⟨_,rfl⟩ ⟨_,rfl,hz,ai w5 _ _⟩ (s_ rfl)
    rintro _ ⟨g1,rfl⟩;simp only[bf,be,bc,a_,a8];refine j5 _ _ (by rfl) rfl ⟨_,0,rfl⟩ (by simp) (fun w5 hU hp K hK=> ?_) ?_
    ·have hz:=bJ hU.un;go_simp;exact hK _ _ (O w5 _) ⟨_,rfl⟩ ⟨_,rfl,hz,ai w5 _ _⟩ (s_ rfl)
    rintro _ ⟨g2,rfl⟩;simp only[bf,be,bc,a_,a8];intro w2 hw2 hp hpair;have hne:g1≠g2:=oT (hpair 8 9 _ _ _ _ trivial trivial (by omega) (by omega) rfl rfl rfl rfl rfl rfl (by omega) (by rfl) (by rfl));obtain⟨z2,k2⟩:=gM.at_ (hp _ (.head _));obtain⟨z1,k1⟩:=gM.at_ (hp _ (.tail _ (.head _)));clear hp hpair;simp only[ab,ap];have m1:=k1.put6q (.int .i64 x.k) (.string (ae x.op)) (.string (ae x.nm)) (.string (ae x.tx)) (.int .i64 x.v) (.slice A1 x.args.length c1);have m2:=k2.grown (bG g1 [.int .i64 x.k, .string (ae x.op), .string (ae x.nm), .string (ae x.tx), .int .i64 x.v, .slice A1 x.args.length c1] 0 w2) (fun e=>hne (M e).symm);have r1:=m1.grown (bG g2 [.int .i64 y.k, .string (ae y.op), .string (ae y.nm), .string (ae y.tx), .int .i64 y.v, .slice B1 y.args.length d1] 0 _) (fun e=>hne (M e));have r2:=m2.put6q (.int .i64 y.k) (.string (ae y.op)) (.string (ae y.nm)) (.string (ae y.tx)) (.int .i64 y.v) (.slice B1 y.args.length d1);have HT1:=G (fl hw2 z1 [.int .i64 x.k, .string (ae x.op), .string (ae x.nm), .string (ae x.tx), .int .i64 x.v, .slice A1 x.args.length c1]);have HT2:=G (fl (fl hw2 z1 [.int .i64 x.k, .string (ae x.op), .string (ae x.nm), .string (ae x.tx), .int .i64 x.v, .slice A1 x.args.length c1]) z2 [.int .i64 y.k, .string (ae y.op), .string (ae y.nm), .string (ae y.tx), .int .i64 y.v, .slice B1 y.args.length d1]);simp only[World.setCells,ak,Nat.reduceAdd]at m1 m2 r1 r2 HT1 HT2;have hcc1:=k1.cell;have hff1:=k1.frozen;have hcc2:=m2.cell;have hff2:=m2.frozen;have HD1:=G r1;have HD2:=G r2;clear k1 k2 m1 m2 r1 r2 hw2;refine aU (by rfl) (by simp) (fun K hK=> ?_);go_simp;refine hK _ _ ?_ ?_
    ·exact HT1.out
    clear hK;refine aU (by rfl) (by simp) (fun K hK=> ?_);go_simp;refine hK _ _ ?_ ?_
    ·exact HT2.out
    clear hK;refine cC ?_;generalize hwe:((((((((((((w2).setCell ⟨g1,0,none⟩ (.int .i64 x.k)).setCell ⟨g1,1,none⟩ (.string (ae x.op))).setCell ⟨g1,2,none⟩ (.string (ae x.nm))).setCell ⟨g1,3,none⟩ (.string (ae x.tx))).setCell ⟨g1,4,none⟩ (.int .i64 x.v)).setCell ⟨g1,5,none⟩ (.slice A1 x.args.length c1)).setCell ⟨g2,0,none⟩ (.int .i64 y.k)).setCell ⟨g2,1,none⟩ (.string (ae y.op))).setCell ⟨g2,2,none⟩ (.string (ae y.nm))).setCell ⟨g2,3,none⟩ (.string (ae y.tx))).setCell ⟨g2,4,none⟩ (.int .i64 y.v)).setCell ⟨g2,5,none⟩ (.slice B1 y.args.length d1)=we at*;have HE2:=G HT2.out.un;have HX2:=G (HX.out.trans HE2.out);have hc1:=HD1.out.cell;have hc2:=HD2.out.cell;clear hwe hcc1 hff1 hcc2 hff2 HT1 HT2 hne z1 z2 pe0 pe1 pe2 pe3 pe4 pe5 qe0 qe1 qe2 qe3 qe4 qe5;have HC:=G (fun(W:World) (h:al we W)=>HY.out W (HE2.out.trans h));clear HY HD1 HD2;obtain⟨k,o,s,t,v,ax⟩:=x;obtain⟨k',o',s',t',v',bx⟩:=y;simp only[Ex.k,Ex.op,Ex.nm,Ex.tx,Ex.v,Ex.args]at*;generalize hrr:pm ax bx=r at HC;have HR:=G hrr;clear hrr;generalize ax.length=la at*;generalize bx.length=lb at*;by_cases hk:k=k'
    ·subst hk;by_cases ho:o=o'
     ·subst ho;by_cases hs:s=s'
      ·subst hs;by_cases ht:t=t'
       ·subst ht;by_cases hv:v=v'
        ·subst hv
         cases r with
         |false=>
          have HQ:=G (HBad.out (by rw[lr,HR.out];simp));clear HBad HG;go_wp2_with (go_at_call 24;refine(HC.out _ (aG _)).mono ?_;rintro e w3 ⟨rfl,hE⟩;have HX3:=G (HX2.out.trans hE);clear hE HC);go_ret;exact⟨eS HQ.out.symm,HX3.out⟩
         |true=>
          have HQ:=G (HG.out (by rw[lr,HR.out];simp));clear HBad HG;go_wp2_with (go_at_call 24;refine(HC.out _ (aG _)).mono ?_;rintro e w3 ⟨rfl,hE⟩;have HX3:=G (HX2.out.trans hE);clear hE HC);go_roundw
          case rel=>exact⟨j+1,by omega,by go_num,HX3,HQ⟩
          case measure=>simp[intOf];omega
        ·have fv:(v==v')=false:=by simpa using hv
         have nv:(v !=v')=true:=by rw[bne,fv];rfl
         have HQ:=G (HBad.out (by simp[lr,fv]));clear hv HBad HG HC;go_wp2_with fail;go_ret;exact⟨eS HQ.out.symm,HX2.out⟩
       ·have ft:(t==t')=false:=by simpa using ht
        have nt:(t !=t')=true:=by rw[bne,ft];rfl
        have HQ:=G (HBad.out (by simp[lr,ft]));clear ht HBad HG HC;go_wp2_with fail;go_ret;exact⟨eS HQ.out.symm,HX2.out⟩
      ·have fs:(s==s')=false:=by simpa using hs
       have ns:(s !=s')=true:=by rw[bne,fs];rfl
       have HQ:=G (HBad.out (by simp[lr,fs]));clear hs HBad HG HC;go_wp2_with fail;go_ret;exact⟨eS HQ.out.symm,HX2.out⟩
     ·have fo:(o==o')=false:=by simpa using ho
      have no:(o !=o')=true:=by rw[bne,fo];rfl
      have HQ:=G (HBad.out (by simp[lr,fo]));clear ho HBad HG HC;go_wp2_with fail;go_ret;exact⟨eS HQ.out.symm,HX2.out⟩
    ·have fk:(k==k')=false:=by simpa using hk
     have nk:(k !=k')=true:=by rw[bne,fk];rfl
     have HQ:=G (HBad.out (by simp[lr,fk]));clear hk HBad HG HC;go_wp2_with fail;go_ret;exact⟨eS HQ.out.symm,HX2.out⟩
   ·have hlt': ¬(j:Int)<n:=by omega
    have hjj:j=n:=by omega
    have HQ:=G (m5 (a:=xs) (b:=ys) (by have:=HNL.out;have:=HML.out;have:=H2.out;omega) (fun i h1 h2=>HT.out i h1 h2 (by have:=HNL.out;omega)));clear HT;go_wp2_with fail;go_ret;exact⟨eS HQ.out.symm,HX.out⟩
 ·have h2b:((n:Int)==(m:Int))=false:=by simp;omega
  have h2c:((n:Int) !=(m:Int))=true:=by simp;omega
  have HN:=G (pk (a:=xs) (b:=ys) (by have:=HNL.out;have:=HML.out;omega));clear h2;go_enter func24,ntmps24;go_wp2_with fail;go_ret;exact⟨eS HN.out.symm,aG w⟩
theorem qf: ∀(k:Nat) (xs ys:List Ex),gv xs<k->yK xs ys
 |0,xs,ys,h=>absurd h (bK _)
 |k+1,xs,ys,h=>sS xs ys (fun x hx y=>qf k x.args y.args (by have:=ei hx;have:=x.wt_eq;omega))
theorem uk (xs ys:List Ex):yK xs ys:=qf _ xs ys (dK _)
theorem sR (xs ys:List St) (hIH: ∀x,x∈xs-> ∀y:St,yK x.ex y.ex/\yL x.body y.body/\yL x.els y.els):yL xs ys:=by
 intro P w u v hA hB;obtain⟨A,c,rfl,hfa⟩:=hA.form;obtain⟨B,d,rfl,_⟩:=hB.form;have hnm:xs.length<=maxLen:=by rcases hfa with hfa|⟨h1,h2,_⟩;(rw[hfa];exact aB _);omega
 unfold maxLen at hnm;obtain⟨n,hn⟩: ∃n,xs.length=n:=⟨_,rfl⟩
 obtain⟨m,hm⟩: ∃m,ys.length=m:=⟨_,rfl⟩
 rw[hn]at hA hnm;rw[hm]at hB;rw[hn,hm];have HNL:=G hn;have HML:=G hm;have HA:=G hA;have HB:=G hB;have HI:=G hIH;clear hA hB hIH hn hm hfa;by_cases h2:n=m
 ·have h2b:((n:Int)==(m:Int))=true:=by simp[h2]
  have h2c:((n:Int) !=(m:Int))=false:=by simp[h2]
  have H2:=G h2;clear h2;go_enter func35,ntmps35;go_wp2_with fail
  go_loopw [5] (fun i wr=> ∃j:Nat,j<=n/\i= .int .i64 (j:Int)/\Hid (al w wr)/\Hid (∀i (h:i<xs.length) (h':i<ys.length),i<j->gH xs[i] ys[i]=true)) (fun i _=>n-(intOf i).toNat)
  case atStart=>exact⟨0,aB _,rfl,G (aG w),G (fun _ _ _ h=>absurd h (bK _))⟩
  case round=>
   obtain⟨j,hj,rfl,HX,HT⟩:=hrel;clear h2b h2c;by_cases hlt:j<n
   ·have hlt':(j:Int)<n:=by omega
    have hlt2:j<m:=by have:=H2.out;omega
    have hlt2':(j:Int)<m:=by omega
    have hjl:j<xs.length:=by have:=HNL.out;omega
    have hjl2:j<ys.length:=by have:=HML.out;omega
    obtain⟨b1,o1,a1,a2,a3,rfl,hb1,_,p0,p1,p2,p3,p4,hRa,hSa,hLa⟩:=HA.out.at_ j hjl;obtain⟨b2,o2,e1,e2,e3,rfl,hb2,_,q0,q1,q2,q3,q4,hRb,hSb,hLb⟩:=HB.out.at_ j hjl2;have pe0:=(HX.out.cell b1 _ hb1).trans p0;have pe1:=(HX.out.cell b1 _ hb1).trans p1;have pe2:=(HX.out.cell b1 _ hb1).trans p2;have pe3:=(HX.out.cell b1 _ hb1).trans p3;have pe4:=(HX.out.cell b1 _ hb1).trans p4;clear p0 p1 p2 p3 p4;have qe0:=(HX.out.cell b2 _ hb2).trans q0;have qe1:=(HX.out.cell b2 _ hb2).trans q1;have qe2:=(HX.out.cell b2 _ hb2).trans q2;have qe3:=(HX.out.cell b2 _ hb2).trans q3;have qe4:=(HX.out.cell b2 _ hb2).trans q4;clear q0 q1 q2 q3 q4;have hl1:b1<wr.heap.size:=an hb1 HX.out.size;have hl2:b2<wr.heap.size:=an hb2 HX.out.size;have HBad:=G (fun h=>pj (a:=xs) (b:=ys) j hjl hjl2 h)
    have HG:=G (fun(h:gH xs[j] ys[j]=true)=>(show ∀i (h:i<xs.length) (h':i<ys.length),i<j+1->gH xs[i] ys[i]=true from fun i h1 h2 h3=>by
     by_cases h4:i=j
     ·subst h4;exact h
     ·exact HT.out i h1 h2 (by omega)))
    have hih:=HI.out xs[j] (aE hjl) ys[j];generalize xs[j]=x at*;generalize ys[j]=y at*;obtain⟨A1,c1,rfl,_⟩:=hRa.form;obtain⟨B1,d1,rfl,_⟩:=hRb.form;obtain⟨A2,c2,rfl,_⟩:=hSa.form;obtain⟨B2,d2,rfl,_⟩:=hSb.form;obtain⟨A3,c3,rfl,_⟩:=hLa.form;obtain⟨B3,d3,rfl,_⟩:=hLb.form;have HY:=G (fun(W:World) (h:al wr W)=>hih.1 P W _ _ (hRa.keep (.of_ext (HX.out.trans h)) (fun _ hb _=>hb)) (hRb.keep (.of_ext (HX.out.trans h)) (fun _ hb _=>hb)));have HY1:=G (fun(W:World) (h:al wr W)=>hih.2.1 P W _ _ (hSa.keep (.of_ext (HX.out.trans h)) (fun _ hb _=>hb)) (hSb.keep (.of_ext (HX.out.trans h)) (fun _ hb _=>hb)));have HY2:=G (fun(W:World) (h:al wr W)=>hih.2.2 P W _ _ (hLa.keep (.of_ext (HX.out.trans h)) (fun _ hb _=>hb)) (hLb.keep (.of_ext (HX.out.trans h)) (fun _ hb _=>hb)));clear hRa hRb hSa hSb hLa hLb;clear hih;go_wp2_with fail;refine cJ 10 3 [(8,yc,gM wr 66 #[.int .i64 0, .string ⟨#[]⟩, .slice none 0 0, .slice none 0 0, .slice none 0 0]),(9,yc,gM wr 66 #[.int .i64 0, .string ⟨#[]⟩, .slice none 0 0, .slice none 0 0, .slice none 0 0])] [8,9] [4,5,6,7] mixed (by kernel_rfl) (by kernel_rfl) (by kernel_rfl) (by rfl)
     ⟨fun _ _ _ h hx=>h.ext hx,fun _ _ _ h hx=>h.ext hx,trivial⟩ (fun i hi=> ?_) ?_
    ·have:i=8\/i=9:=by simpa using hi
     rcases this with rfl|rfl
     ·exact⟨_,_,rfl,gM.old⟩
     ·exact⟨_,_,rfl,gM.old⟩
    repeat (refine sx ?_ (fun w1 hU=> ?_) ?_;rotate_left;(focus have f0:=(hU.un.cell b1 _ hl1).trans pe0;have f1:=(hU.un.cell b1 _ hl1).trans pe1;have f2:=(hU.un.cell b1 _ hl1).trans pe2;have f3:=(hU.un.cell b1 _ hl1).trans pe3;have f4:=(hU.un.cell b1 _ hl1).trans pe4;have g0:=(hU.un.cell b2 _ hl2).trans qe0;have g1:=(hU.un.cell b2 _ hl2).trans qe1;have g2:=(hU.un.cell b2 _ hl2).trans qe2;have g3:=(hU.un.cell b2 _ hl2).trans qe3;have g4:=(hU.un.cell b2 _ hl2).trans qe4;clear hU;go_simp<;>with_reducible rfl);simp only[bf,be,bc,a_,a8])
    refine j5 _ _ (by rfl) rfl ⟨_,0,rfl⟩ (by simp) (fun w5 hU hp K hK=> ?_) ?_
    ·have hz:=bJ hU.un;go_simp;exact hK _ _ (O w5 _) ⟨_,rfl⟩ ⟨_,rfl,hz,ai w5 _ _⟩ (s_ rfl)
    rintro _ ⟨g1,rfl⟩;simp only[bf,be,bc,a_,a8];refine j5 _ _ (by rfl) rfl ⟨_,0,rfl⟩ (by simp) (fun w5 hU hp K hK=> ?_) ?_
    ·have hz:=bJ hU.un;go_simp;exact hK _ _ (O w5 _) ⟨_,rfl⟩ ⟨_,rfl,hz,ai w5 _ _⟩ (s_ rfl)
    rintro _ ⟨g2,rfl⟩;simp only[bf,be,bc,a_,a8];intro w2 hw2 hp hpair;have hne:g1≠g2:=oT (hpair 8 9 _ _ _ _ trivial trivial (by omega) (by omega) rfl rfl rfl rfl rfl rfl (by omega) (by rfl) (by rfl));obtain⟨z2,k2⟩:=gM.at_ (hp _ (.head _));obtain⟨z1,k1⟩:=gM.at_ (hp _ (.tail _ (.head _)));clear hp hpair;simp only[ab,ap];have m1:=k1.put5q (.int .i64 x.k) (.string (ae x.nm)) (.slice A1 x.ex.length c1) (.slice A2 x.body.length c2) (.slice A3 x.els.length c3);have m2:=k2.grown (bG g1 [.int .i64 x.k, .string (ae x.nm), .slice A1 x.ex.length c1, .slice A2 x.body.length c2, .slice A3 x.els.length c3] 0 w2) (fun e=>hne (M e).symm);have r1:=m1.grown (bG g2 [.int .i64 y.k, .string (ae y.nm), .slice B1 y.ex.length d1, .slice B2 y.body.length d2, .slice B3 y.els.length d3] 0 _) (fun e=>hne (M e));have r2:=m2.put5q (.int .i64 y.k) (.string (ae y.nm)) (.slice B1 y.ex.length d1) (.slice B2 y.body.length d2) (.slice B3 y.els.length d3);have HT1:=G (fl hw2 z1 [.int .i64 x.k, .string (ae x.nm), .slice A1 x.ex.length c1, .slice A2 x.body.length c2, .slice A3 x.els.length c3]);have HT2:=G (fl (fl hw2 z1 [.int .i64 x.k, .string (ae x.nm), .slice A1 x.ex.length c1, .slice A2 x.body.length c2, .slice A3 x.els.length c3]) z2 [.int .i64 y.k, .string (ae y.nm), .slice B1 y.ex.length d1, .slice B2 y.body.length d2, .slice B3 y.els.length d3]);simp only[World.setCells,ak,Nat.reduceAdd]at m1 m2 r1 r2 HT1 HT2;have hcc1:=k1.cell;have hff1:=k1.frozen;have hcc2:=m2.cell;have hff2:=m2.frozen;have HD1:=G r1;have HD2:=G r2;clear k1 k2 m1 m2 r1 r2 hw2;refine aU (by rfl) (by simp) (fun K hK=> ?_);go_simp;refine hK _ _ ?_ ?_
    ·exact HT1.out
    clear hK;refine aU (by rfl) (by simp) (fun K hK=> ?_);go_simp;refine hK _ _ ?_ ?_
    ·exact HT2.out
    clear hK;refine cC ?_;generalize hwe:((((((((((w2).setCell ⟨g1,0,none⟩ (.int .i64 x.k)).setCell ⟨g1,1,none⟩ (.string (ae x.nm))).setCell ⟨g1,2,none⟩ (.slice A1 x.ex.length c1)).setCell ⟨g1,3,none⟩ (.slice A2 x.body.length c2)).setCell ⟨g1,4,none⟩ (.slice A3 x.els.length c3)).setCell ⟨g2,0,none⟩ (.int .i64 y.k)).setCell ⟨g2,1,none⟩ (.string (ae y.nm))).setCell ⟨g2,2,none⟩ (.slice B1 y.ex.length d1)).setCell ⟨g2,3,none⟩ (.slice B2 y.body.length d2)).setCell ⟨g2,4,none⟩ (.slice B3 y.els.length d3)=we at*;have HE2:=G HT2.out.un;have HX2:=G (HX.out.trans HE2.out);have hc1:=HD1.out.cell;have hc2:=HD2.out.cell;clear hwe hcc1 hff1 hcc2 hff2 HT1 HT2 hne z1 z2 pe0 pe1 pe2 pe3 pe4 qe0 qe1 qe2 qe3 qe4;have HC:=G (fun(W:World) (h:al we W)=>HY.out W (HE2.out.trans h));have HC1:=G (fun(W:World) (h:al we W)=>HY1.out W (HE2.out.trans h));have HC2:=G (fun(W:World) (h:al we W)=>HY2.out W (HE2.out.trans h));clear HY HY1 HY2;obtain⟨k,s,ax,ax1,ax2⟩:=x;obtain⟨k',s',bx,bx1,bx2⟩:=y;simp only[St.k,St.nm,St.ex,St.body,St.els]at*;generalize hrr:pm ax bx=r at HC;generalize hrr1:nr ax1 bx1=r1 at HC1;generalize hrr2:nr ax2 bx2=r2 at HC2;have HR:=G hrr;have HR1:=G hrr1;have HR2:=G hrr2;clear hrr hrr1 hrr2;generalize ax.length=lax at*;generalize ax1.length=lax1 at*;generalize ax2.length=lax2 at*;generalize bx.length=lbx at*;generalize bx1.length=lbx1 at*;generalize bx2.length=lbx2 at*;by_cases hk:k=k'
    ·subst hk;by_cases hs:s=s'
     ·subst hs
      cases r with
      |false=>
       clear HC1 HC2;have HQ:=G (HBad.out (by rw[gH,HR.out];simp));clear HBad HG;go_wp2_with (first|(go_at_call 24;refine(HC.out _ (aG _)).mono ?_;rintro e w3 ⟨rfl,hE⟩;clear hc1 hc2;have hc1:=(HD1.out.ext hE).cell;have hc2:=(HD2.out.ext hE).cell;have HZ3:=G hE;have HX3:=G (HX2.out.trans hE);clear hE HC));go_ret;exact⟨eS HQ.out.symm,HX3.out⟩
      |true=>
       cases r1 with
       |false=>
        clear HC2;have HQ:=G (HBad.out (by rw[gH,HR.out,HR1.out];simp));clear HBad HG;go_wp2_with (first|(go_at_call 24;refine(HC.out _ (aG _)).mono ?_;rintro e w3 ⟨rfl,hE⟩;clear hc1 hc2;have hc1:=(HD1.out.ext hE).cell;have hc2:=(HD2.out.ext hE).cell;have HZ3:=G hE;have HX3:=G (HX2.out.trans hE);clear hE HC)|(go_at_call 35;refine(HC1.out _ HZ3.out).mono ?_;rintro e w4 ⟨rfl,hE⟩;clear hc1 hc2;have hc1:=(HD1.out.ext (HZ3.out.trans hE)).cell;have hc2:=(HD2.out.ext (HZ3.out.trans hE)).cell;have HZ4:=G (HZ3.out.trans hE);have HX4:=G (HX3.out.trans hE);clear hE HC1));go_ret;exact⟨eS HQ.out.symm,HX4.out⟩
       |true=>
        cases r2 with
        |false=>
         have HQ:=G (HBad.out (by rw[gH,HR.out,HR1.out,HR2.out];simp));clear HBad HG;go_wp2_with (first|(go_at_call 24;refine(HC.out _ (aG _)).mono ?_;rintro e w3 ⟨rfl,hE⟩;clear hc1 hc2;have hc1:=(HD1.out.ext hE).cell;have hc2:=(HD2.out.ext hE).cell;have HZ3:=G hE;have HX3:=G (HX2.out.trans hE);clear hE HC)|(go_at_call 35;refine(HC1.out _ HZ3.out).mono ?_;rintro e w4 ⟨rfl,hE⟩;clear hc1 hc2;have hc1:=(HD1.out.ext (HZ3.out.trans hE)).cell;have hc2:=(HD2.out.ext (HZ3.out.trans hE)).cell;have HZ4:=G (HZ3.out.trans hE);have HX4:=G (HX3.out.trans hE);clear hE HC1)|(go_at_call 35;refine(HC2.out _ HZ4.out).mono ?_;rintro e w5 ⟨rfl,hE⟩;have HX5:=G (HX4.out.trans hE);clear hE HC2));go_ret;exact⟨eS HQ.out.symm,HX5.out⟩
        |true=>
         have HQ:=G (HG.out (by rw[gH,HR.out,HR1.out,HR2.out];simp));clear HBad HG;go_wp2_with (first|(go_at_call 24;refine(HC.out _ (aG _)).mono ?_;rintro e w3 ⟨rfl,hE⟩;clear hc1 hc2;have hc1:=(HD1.out.ext hE).cell;have hc2:=(HD2.out.ext hE).cell;have HZ3:=G hE;have HX3:=G (HX2.out.trans hE);clear hE HC)|(go_at_call 35;refine(HC1.out _ HZ3.out).mono ?_;rintro e w4 ⟨rfl,hE⟩;clear hc1 hc2;have hc1:=(HD1.out.ext (HZ3.out.trans hE)).cell;have hc2:=(HD2.out.ext (HZ3.out.trans hE)).cell;have HZ4:=G (HZ3.out.trans hE);have HX4:=G (HX3.out.trans hE);clear hE HC1)|(go_at_call 35;refine(HC2.out _ HZ4.out).mono ?_;rintro e w5 ⟨rfl,hE⟩;have HX5:=G (HX4.out.trans hE);clear hE HC2));go_roundw
         case rel=>exact⟨j+1,by omega,by go_num,HX5,HQ⟩
         case measure=>simp[intOf];omega
     ·have fs:(s==s')=false:=by simpa using hs
      have ns:(s !=s')=true:=by rw[bne,fs];rfl
      have HQ:=G (HBad.out (by simp[gH,fs]));clear hs HBad HG HC HC1 HC2;go_wp2_with fail;go_ret;exact⟨eS HQ.out.symm,HX2.out⟩
    ·have fk:(k==k')=false:=by simpa using hk
     have nk:(k !=k')=true:=by rw[bne,fk];rfl
     have HQ:=G (HBad.out (by simp[gH,fk]));clear hk HBad HG HC HC1 HC2;go_wp2_with fail;go_ret;exact⟨eS HQ.out.symm,HX2.out⟩
   ·have hlt': ¬(j:Int)<n:=by omega
    have hjj:j=n:=by omega
    have HQ:=G (mY (a:=xs) (b:=ys) (by have:=HNL.out;have:=HML.out;have:=H2.out;omega) (fun i h1 h2=>HT.out i h1 h2 (by have:=HNL.out;omega)));clear HT;go_wp2_with fail;go_ret;exact⟨eS HQ.out.symm,HX.out⟩
 ·have h2b:((n:Int)==(m:Int))=false:=by simp;omega
  have h2c:((n:Int) !=(m:Int))=true:=by simp;omega
  have HN:=G (pi (a:=xs) (b:=ys) (by have:=HNL.out;have:=HML.out;omega));clear h2;go_enter func35,ntmps35;go_wp2_with fail;go_ret;exact⟨eS HN.out.symm,aG w⟩
theorem mC: ∀(k:Nat) (xs ys:List St),fQ xs<k->yL xs ys
 |0,xs,ys,h=>absurd h (bK _)
 |k+1,xs,ys,h=>sR xs ys (fun x hx y=>⟨uk _ _,mC k x.body y.body (by have:=dC hx;have:=x.wt_eq;omega),mC k x.els y.els (by have:=dC hx;have:=x.wt_eq;omega)⟩)
theorem uj (xs ys:List St):yL xs ys:=mC _ xs ys (dK _)
end
section
open Go.RowKit
structure RQ (w:World) (s0 s1 s2 s3:Value) (W:World):Prop where
 e:al w W
 ba:aT W w.heap.size 33 #[s0,s1]
 bb:aT W (w.heap.size+1) 33 #[s2,s3]
theorem RQ.ex {w W W':World} {s0 s1 s2 s3:Value} (h:RQ w s0 s1 s2 s3 W) (hE:al W W'):RQ w s0 s1 s2 s3 W':=⟨h.e.trans hE,h.ba.ext hE,h.bb.ext hE⟩
theorem xw (w:World) (s0 s1 s2 s3:Value):RQ w s0 s1 s2 s3 ((w.alloc (.cells #[s0,s1] 33)).alloc (.cells #[s2,s3] 33)):=by
 refine⟨(O w _).alloc' _,(ai w _ _).alloc _,?_⟩;have:=ai (w.alloc (.cells #[s0,s1] 33)) 33 #[s2,s3];rwa [aQ]at this
theorem uL {a b:List (List UInt8)} (i:Nat) (h:i<a.length) (h':i<b.length) (he:(a[i]==b[i])=false):(a==b)=false:=by
 rw[beq_eq_false_iff_ne]at he⊢;intro e;subst e;exact he rfl
theorem uK {a b:List (List UInt8)} (h:a.length≠b.length):(a==b)=false:=by
 rw[beq_eq_false_iff_ne];intro e;exact h (by rw[e])
theorem ti {a b:List (List UInt8)} (hl:a.length=b.length) (h: ∀i (h:i<a.length) (h':i<b.length),(a[i]==b[i])=true):(a==b)=true:=by
 rw[beq_iff_eq];refine iX hl fun i h1 h2=> ?_;have:=h i h1 h2;rwa [beq_iff_eq]at this
theorem rR {w:World} {P:Nat->Prop} {A:Option Addr} {n c:Nat} {ls:List (List UInt8)} (h:jK w P (.slice A n c) ls) (i:Nat) (hi:i<ls.length):
  ∃b o,A=some ⟨b,o,none⟩/\b<w.heap.size/\w.cell? ⟨b,o+i,none⟩=some (.string (ae ls[i])):=by
 obtain⟨A',c',hv,h⟩:=h;injection hv with h1 h2 h3;rcases h with h|h
 ·subst h;simp at hi
 ·obtain⟨_,_,b,o,ha,_,hb,hc⟩:=h;exact⟨b,o,by rw[h1];exact ha,hb,hc i hi⟩
theorem rk (p q:Pg) (P:Nat->Prop) (w:World) (A B A' B':Option Addr) (n c m d n' c' m' d':Nat) (hV:iT w P (.slice A n c) p.vs) (hF:iU w P (.slice B m d) p.fs) (hV':iT w P (.slice A' n' c') q.vs) (hF':iU w P (.slice B' m' d') q.fs):
  Calls prog 12 #[.agg #[.slice A n c, .slice B m d], .agg #[.slice A' n' c', .slice B' m' d']] w fun e w'=>e= .returned (.bool (jW p q))/\al w w':=by
 obtain⟨vs,fs⟩:=p;obtain⟨vs',fs'⟩:=q;simp only at*;have hnv:n=vs.length:=by obtain⟨_,_,hh,_⟩:=hV;injection hh
 have hnf:m=fs.length:=by obtain⟨_,_,hh,_⟩:=hF;injection hh
 have hnv':n'=vs'.length:=by obtain⟨_,_,hh,_⟩:=hV';injection hh
 have hnf':m'=fs'.length:=by obtain⟨_,_,hh,_⟩:=hF';injection hh
 have hnm:n<=maxLen:=by obtain⟨_,_,hh,h⟩:=hV;injection hh with _ hn _;rcases h with h|⟨h1,h2,_⟩;(rw[hn,h];exact aB _);omega
 have hmm:m<=maxLen:=by obtain⟨_,_,hh,h⟩:=hF;injection hh with _ hn _;rcases h with h|⟨h1,h2,_⟩;(rw[hn,h];exact aB _);omega
 unfold maxLen at hnm hmm;have HR0:=G (xw w (.slice A n c) (.slice B m d) (.slice A' n' c') (.slice B' m' d'));have c0:=HR0.out.ba.cell;have c1:=HR0.out.bb.cell;by_cases hn2:n=n'
 ·subst hn2;by_cases hm2:m=m'
  ·subst hm2;have HNV:=G hnv;have HNF:=G hnf;have HNV':=G hnv';have HNF':=G hnf';have HV:=G hV;have HF:=G hF;have HV':=G hV';have HF':=G hF';clear hnv hnf hnv' hnf' hV hF hV' hF';go_enter func12,ntmps12;go_wp2_with fail
   go_loopw [5] (fun i wr=> ∃j:Nat,j<=n/\i= .int .i64 (j:Int)/\Hid (RQ w (.slice A n c) (.slice B m d) (.slice A' n c') (.slice B' m d') wr)/\Hid (∀i (h:i<vs.length) (h':i<vs'.length),i<j->pG vs[i] vs'[i]=true)) (fun i _=>n-(intOf i).toNat)
   case atStart=>exact⟨0,aB _,rfl,HR0,G (fun _ _ _ h=>absurd h (bK _))⟩
   case round=>
    clear c0 c1 HR0;obtain⟨j,hj,rfl,HR,HT⟩:=hrel;have c0:=HR.out.ba.cell;have c1:=HR.out.bb.cell;by_cases hlt:j<n
    ·have hlt':(j:Int)<n:=by omega
     have hjl:j<vs.length:=by have:=HNV.out;omega
     have hjl2:j<vs'.length:=by have:=HNV'.out;omega
     obtain⟨b1,o1,rfl,hb1,p0,p1⟩:=oN HV.out j hjl;obtain⟨b2,o2,rfl,hb2,q0,q1⟩:=oN HV'.out j hjl2;have pe0:=(HR.out.e.cell b1 _ hb1).trans p0;have pe1:=(HR.out.e.cell b1 _ hb1).trans p1;have qe0:=(HR.out.e.cell b2 _ hb2).trans q0;have qe1:=(HR.out.e.cell b2 _ hb2).trans q1;clear p0 q0 p1 q1;have hl1:b1<wr.heap.size:=an hb1 HR.out.e.size;have hl2:b2<wr.heap.size:=an hb2 HR.out.e.size;have HBad:=G (fun h=>mX (a:=vs) (b:=vs') j hjl hjl2 h)
     have HG:=G (fun(h:pG vs[j] vs'[j]=true)=>(show ∀i (h:i<vs.length) (h':i<vs'.length),i<j+1->pG vs[i] vs'[i]=true from fun i h1 h2 h3=>by
      by_cases h4:i=j
      ·subst h4;exact h
      ·exact HT.out i h1 h2 (by omega)))
     generalize vs[j]=x at*;generalize vs'[j]=y at*;obtain⟨s,x⟩:=x;obtain⟨t,y⟩:=y;simp only at*;by_cases hf0:s=t
     ·subst hf0;by_cases hf1:x=y
      ·subst hf1;have HQ:=G (HG.out (by simp[pG]));clear HG HBad;go_wp2_with fail;clear c0 c1;refine am 11 4 [] mixed (by kernel_rfl) trivial ?_;repeat (refine sx ?_ (fun w1 hU=> ?_) ?_;rotate_left;(focus have k0:=(HR.out.ex hU.un).ba.cell;have k1:=(HR.out.ex hU.un).bb.cell;have f1:=(hU.un.cell b1 _ hl1).trans pe0;have f2:=(hU.un.cell b2 _ hl2).trans qe0;have f3:=(hU.un.cell b1 _ hl1).trans pe1;have f4:=(hU.un.cell b2 _ hl2).trans qe1;clear hU;go_simp<;>with_reducible rfl);simp only[bf,be,bc,a_,a8])
       intro w7 hw7 _;simp only[ab,aC];have HR7:=G (HR.out.ex hw7.un);clear hw7;go_wp2_with fail;go_roundw
       case rel=>exact⟨j+1,by omega,by go_num,HR7,HQ⟩
       case measure=>simp[intOf];omega
      ·have g1:(x==y)=false:=by simpa using hf1
       have n1:(x !=y)=true:=by rw[bne,g1];rfl
       have HQ:=G (HBad.out (by simp[pG,g1]));clear HG HBad hf1;go_wp2_with fail;clear c0 c1;refine am 11 4 [] mixed (by kernel_rfl) trivial ?_;repeat (refine sx ?_ (fun w1 hU=> ?_) ?_;rotate_left;(focus have k0:=(HR.out.ex hU.un).ba.cell;have k1:=(HR.out.ex hU.un).bb.cell;have f1:=(hU.un.cell b1 _ hl1).trans pe0;have f2:=(hU.un.cell b2 _ hl2).trans qe0;have f3:=(hU.un.cell b1 _ hl1).trans pe1;have f4:=(hU.un.cell b2 _ hl2).trans qe1;clear hU;go_simp<;>with_reducible rfl);simp only[bf,be,bc,a_,a8])
       intro w7 hw7 _;simp only[ab,aC];have HR7:=G (HR.out.ex hw7.un);clear hw7;go_wp2_with fail;go_ret;exact⟨eS (by rw[jW,HQ.out];rfl),HR7.out.e⟩
     ·have g1:(s==t)=false:=by simpa using hf0
      have n1:(s !=t)=true:=by rw[bne,g1];rfl
      have HQ:=G (HBad.out (by simp[pG,g1]));clear HG HBad hf0;go_wp2_with fail;clear c0 c1;refine am 11 4 [] mixed (by kernel_rfl) trivial ?_;repeat (refine sx ?_ (fun w1 hU=> ?_) ?_;rotate_left;(focus have k0:=(HR.out.ex hU.un).ba.cell;have k1:=(HR.out.ex hU.un).bb.cell;have f1:=(hU.un.cell b1 _ hl1).trans pe0;have f2:=(hU.un.cell b2 _ hl2).trans qe0;have f3:=(hU.un.cell b1 _ hl1).trans pe1;have f4:=(hU.un.cell b2 _ hl2).trans qe1;clear hU;go_simp<;>with_reducible rfl);simp only[bf,be,bc,a_,a8])
      intro w7 hw7 _;simp only[ab,aC];have HR7:=G (HR.out.ex hw7.un);clear hw7;go_wp2_with fail;go_ret;exact⟨eS (by rw[jW,HQ.out];rfl),HR7.out.e⟩
    ·have hlt': ¬(j:Int)<n:=by omega
     have HQV:=G (j_ (a:=vs) (b:=vs') (by have:=HNV.out;have:=HNV'.out;omega) (fun i h1 h2=>HT.out i h1 h2 (by have:=HNV.out;omega)));clear HT;go_wp2_with fail
     go_loopw [6] (fun i wr=> ∃j:Nat,j<=m/\i= .int .i64 (j:Int)/\Hid (RQ w (.slice A n c) (.slice B m d) (.slice A' n c') (.slice B' m d') wr)/\Hid (∀i (h:i<fs.length) (h':i<fs'.length),i<j->nu fs[i] fs'[i]=true)) (fun i _=>m-(intOf i).toNat)
     case atStart=>exact⟨0,aB _,rfl,HR,G (fun _ _ _ h=>absurd h (bK _))⟩
     case round=>
      clear c0 c1 HR;obtain⟨j,hj,rfl,HR,HT⟩:=hrel;have c0:=HR.out.ba.cell;have c1:=HR.out.bb.cell;by_cases hlt:j<m
      ·have hlt':(j:Int)<m:=by omega
       have hjl:j<fs.length:=by have:=HNF.out;omega
       have hjl2:j<fs'.length:=by have:=HNF'.out;omega
       obtain⟨b1,o1,a1,a2,rfl,hb1,p0,p1,p2,hRa,hSa⟩:=mh HF.out j hjl;obtain⟨b2,o2,e1,e2,rfl,hb2,q0,q1,q2,hRb,hSb⟩:=mh HF'.out j hjl2;have pe0:=(HR.out.e.cell b1 _ hb1).trans p0;have pe1:=(HR.out.e.cell b1 _ hb1).trans p1;have pe2:=(HR.out.e.cell b1 _ hb1).trans p2;have qe0:=(HR.out.e.cell b2 _ hb2).trans q0;have qe1:=(HR.out.e.cell b2 _ hb2).trans q1;have qe2:=(HR.out.e.cell b2 _ hb2).trans q2;clear p0 q0 p1 q1 p2 q2;have hl1:b1<wr.heap.size:=an hb1 HR.out.e.size;have hl2:b2<wr.heap.size:=an hb2 HR.out.e.size;have HBad:=G (fun h=>m7 (a:=fs) (b:=fs') j hjl hjl2 h)
       have HG:=G (fun(h:nu fs[j] fs'[j]=true)=>(show ∀i (h:i<fs.length) (h':i<fs'.length),i<j+1->nu fs[i] fs'[i]=true from fun i h1 h2 h3=>by
        by_cases h4:i=j
        ·subst h4;exact h
        ·exact HT.out i h1 h2 (by omega)))
       generalize fs[j]=x at*;generalize fs'[j]=y at*;have hlp: ∃A' c',a1= .slice A' x.ps.length c':=by obtain⟨A',c',hh,_⟩:=hRa;exact⟨A',c',hh⟩
       have hlq: ∃A' c',e1= .slice A' y.ps.length c':=by obtain⟨A',c',hh,_⟩:=hRb;exact⟨A',c',hh⟩
       have hpm:x.ps.length<=maxLen:=by obtain⟨_,_,hh,h⟩:=hRa;rcases h with h|⟨h1,h2,_⟩;(rw[h];exact aB _);omega
       unfold maxLen at hpm;obtain⟨A1,c1',rfl⟩:=hlp;obtain⟨B1,d1,rfl⟩:=hlq;obtain⟨A2,c2,rfl,_⟩:=hSa.form;obtain⟨B2,d2,rfl,_⟩:=hSb.form;have HNa:=G hRa;have HNb:=G hRb;have HY:=G (fun(W:World) (h:al wr W)=>uj x.body y.body P W _ _ (hSa.keep (.of_ext (HR.out.e.trans h)) (fun _ hb _=>hb)) (hSb.keep (.of_ext (HR.out.e.trans h)) (fun _ hb _=>hb)));clear hRa hRb hSa hSb;go_wp2_with fail;clear c0 c1;refine cJ 12 4 [(10,yc,gM wr 68 #[.string ⟨#[]⟩, .slice none 0 0, .slice none 0 0]),(11,yc,gM wr 68 #[.string ⟨#[]⟩, .slice none 0 0, .slice none 0 0])] [10,11] [5,6,7,8,9] mixed (by kernel_rfl) (by kernel_rfl) (by kernel_rfl) (by rfl)
        ⟨fun _ _ _ h hx=>h.ext hx,fun _ _ _ h hx=>h.ext hx,trivial⟩ (fun i hi=> ?_) ?_
       ·have:i=10\/i=11:=by simpa using hi
        rcases this with rfl|rfl
        ·exact⟨_,_,rfl,gM.old⟩
        ·exact⟨_,_,rfl,gM.old⟩
       repeat (refine sx ?_ (fun w1 hU=> ?_) ?_;rotate_left;(focus have k0:=(HR.out.ex hU.un).ba.cell;have k1:=(HR.out.ex hU.un).bb.cell;have f0:=(hU.un.cell b1 _ hl1).trans pe0;have f1:=(hU.un.cell b1 _ hl1).trans pe1;have f2:=(hU.un.cell b1 _ hl1).trans pe2;have g0:=(hU.un.cell b2 _ hl2).trans qe0;have g1:=(hU.un.cell b2 _ hl2).trans qe1;have g2:=(hU.un.cell b2 _ hl2).trans qe2;clear hU;go_simp<;>with_reducible rfl);simp only[bf,be,bc,a_,a8])
       refine j5 _ _ (by rfl) rfl ⟨_,0,rfl⟩ (by simp) (fun w5 hU hp K hK=> ?_) ?_
       ·have hz:=bJ hU.un;go_simp;exact hK _ _ (O w5 _) ⟨_,rfl⟩ ⟨_,rfl,hz,ai w5 _ _⟩ (s_ rfl)
       rintro _ ⟨g1,rfl⟩;simp only[bf,be,bc,a_,a8];refine j5 _ _ (by rfl) rfl ⟨_,0,rfl⟩ (by simp) (fun w5 hU hp K hK=> ?_) ?_
       ·have hz:=bJ hU.un;go_simp;exact hK _ _ (O w5 _) ⟨_,rfl⟩ ⟨_,rfl,hz,ai w5 _ _⟩ (s_ rfl)
       rintro _ ⟨g2,rfl⟩;simp only[bf,be,bc,a_,a8];intro w2 hw2 hp hpair;have hne:g1≠g2:=oT (hpair 10 11 _ _ _ _ trivial trivial (by omega) (by omega) rfl rfl rfl rfl rfl rfl (by omega) (by rfl) (by rfl));obtain⟨z2,k2⟩:=gM.at_ (hp _ (.head _));obtain⟨z1,k1⟩:=gM.at_ (hp _ (.tail _ (.head _)));clear hp hpair;simp only[ab,ap];have m1:=k1.put3q (.string (ae x.nm)) (.slice A1 x.ps.length c1') (.slice A2 x.body.length c2);have m2:=k2.grown (bG g1 [.string (ae x.nm), .slice A1 x.ps.length c1', .slice A2 x.body.length c2] 0 w2) (fun e=>hne (M e).symm);have r1:=m1.grown (bG g2 [.string (ae y.nm), .slice B1 y.ps.length d1, .slice B2 y.body.length d2] 0 _) (fun e=>hne (M e));have r2:=m2.put3q (.string (ae y.nm)) (.slice B1 y.ps.length d1) (.slice B2 y.body.length d2);have HT1:=G (fl hw2 z1 [.string (ae x.nm), .slice A1 x.ps.length c1', .slice A2 x.body.length c2]);have HT2:=G (fl (fl hw2 z1 [.string (ae x.nm), .slice A1 x.ps.length c1', .slice A2 x.body.length c2]) z2 [.string (ae y.nm), .slice B1 y.ps.length d1, .slice B2 y.body.length d2]);simp only[World.setCells,ak,Nat.reduceAdd]at m1 m2 r1 r2 HT1 HT2;have hcc1:=k1.cell;have hff1:=k1.frozen;have hcc2:=m2.cell;have hff2:=m2.frozen;have HD1:=G r1;have HD2:=G r2;clear k1 k2 m1 m2 r1 r2 hw2;refine aU (by rfl) (by simp) (fun K hK=> ?_);go_simp;refine hK _ _ ?_ ?_
       ·exact HT1.out
       clear hK;refine aU (by rfl) (by simp) (fun K hK=> ?_);go_simp;refine hK _ _ ?_ ?_
       ·exact HT2.out
       clear hK;refine cC ?_;generalize hwe:((((((w2).setCell ⟨g1,0,none⟩ (.string (ae x.nm))).setCell ⟨g1,1,none⟩ (.slice A1 x.ps.length c1')).setCell ⟨g1,2,none⟩ (.slice A2 x.body.length c2)).setCell ⟨g2,0,none⟩ (.string (ae y.nm))).setCell ⟨g2,1,none⟩ (.slice B1 y.ps.length d1)).setCell ⟨g2,2,none⟩ (.slice B2 y.body.length d2)=we at*;have HE2:=G HT2.out.un;have HR2:=G (HR.out.ex HE2.out);have hc1:=HD1.out.cell;have hc2:=HD2.out.cell;clear hwe hcc1 hff1 hcc2 hff2 HT1 HT2 hne z1 z2 pe0 pe1 pe2 qe0 qe1 qe2;have HC:=G (fun(W:World) (h:al we W)=>HY.out W (HE2.out.trans h));clear HY;obtain⟨s,ax,bx⟩:=x;obtain⟨s',ay,by'⟩:=y;simp only at*;generalize hrr:nr bx by'=r at HC
       have HS:=G hrr;clear hrr;generalize bx.length=lbx at*;generalize by'.length=lby at*
       obtain⟨u,hu⟩: ∃u,ax.length=u:=⟨_,rfl⟩
       obtain⟨u',hu'⟩: ∃u,ay.length=u:=⟨_,rfl⟩
       rw[hu]at HNa HD1 hc1 hpm;rw[hu']at HNb HD2 hc2;have HU:=G hu;have HU':=G hu';simp only[hu,hu'];clear hu hu';by_cases hs:s=s'
       ·subst hs;by_cases hk:u=u'
        ·subst hk
         cases r with
         |false=>
          have HQ:=G (HBad.out (by rw[nu,HS.out];simp));clear HBad HG;go_wp2_with (go_at_call 35;refine(HC.out _ (aG _)).mono ?_;rintro e w3 ⟨rfl,hE⟩;have HR3:=G (HR2.out.ex hE);clear hE HC);go_ret;exact⟨eS (by rw[jW,HQ.out];simp),HR3.out.e⟩
         |true=>
          go_wp2_with (go_at_call 35;refine(HC.out _ (aG _)).mono ?_;rintro e w3 ⟨rfl,hE⟩;have HR3:=G (HR2.out.ex hE);have HZ3:=G hE;clear hc1 hc2;have hc1:=(HD1.out.ext hE).cell;have hc2:=(HD2.out.ext hE).cell;clear hE HC)
          go_loopw [9] (fun i wz=> ∃k:Nat,k<=u/\i= .int .i64 (k:Int)/\Hid (al w3 wz)/\Hid (∀i (h:i<ax.length) (h':i<ay.length),i<k->(ax[i]==ay[i])=true)) (fun i _=>u-(intOf i).toNat)
          case atStart=>exact⟨0,aB _,rfl,G (aG w3),G (fun _ _ _ h=>absurd h (bK _))⟩
          case round=>
           clear hc1 hc2;obtain⟨k,hk,rfl,HZ,HTk⟩:=hrel;have HZ4:=G (HZ3.out.trans HZ.out);have hc1:=(HD1.out.ext HZ4.out).cell;have hc2:=(HD2.out.ext HZ4.out).cell;by_cases hlk:k<u
           ·have hlk':(k:Int)<u:=by omega
            have hkl:k<ax.length:=by have:=HU.out;omega
            have hkl2:k<ay.length:=by have:=HU'.out;omega
            obtain⟨b3,o3,rfl,hb3,p0⟩:=rR HNa.out k hkl;obtain⟨b4,o4,rfl,hb4,q0⟩:=rR HNb.out k hkl2;have HEz:=G (HR2.out.e.trans HZ4.out);have hl3:b3<wr.heap.size:=an hb3 HEz.out.size;have hl4:b4<wr.heap.size:=an hb4 HEz.out.size;have pe0:=(HEz.out.cell b3 _ hb3).trans p0;have qe0:=(HEz.out.cell b4 _ hb4).trans q0;clear p0 q0;have HBk:=G (fun h=>uL (a:=ax) (b:=ay) k hkl hkl2 h)
            have HGk:=G (fun(h:(ax[k]==ay[k])=true)=>(show ∀i (h:i<ax.length) (h':i<ay.length),i<k+1->(ax[i]==ay[i])=true from fun i h1 h2 h3=>by
             by_cases h4:i=k
             ·subst h4;exact h
             ·exact HTk.out i h1 h2 (by omega)))
            generalize ax[k]=ux at*;generalize ay[k]=uy at*;by_cases hf0:ux=uy
            ·subst hf0;have HQ:=G (HGk.out (by simp));clear HGk HBk;go_wp2_with fail;clear hc1 hc2;refine am 11 4 [] mixed (by kernel_rfl) trivial ?_;repeat (refine sx ?_ (fun w1 hU=> ?_) ?_;rotate_left;(focus have k0:=(HD1.out.ext (HZ4.out.trans hU.un)).cell;have k1:=(HD2.out.ext (HZ4.out.trans hU.un)).cell;have f1:=(hU.un.cell b3 _ hl3).trans pe0;have f2:=(hU.un.cell b4 _ hl4).trans qe0;clear hU;go_simp<;>with_reducible rfl);simp only[bf,be,bc,a_,a8])
             intro w7 hw7 _;simp only[ab,aC];have HZ7:=G (HZ.out.trans hw7.un);clear hw7;go_wp2_with fail;go_roundw
             case rel=>exact⟨k+1,by omega,by go_num,HZ7,HQ⟩
             case measure=>simp[intOf];omega
            ·have g1:(ux==uy)=false:=by simpa using hf0
             have n1:(ux !=uy)=true:=by rw[bne,g1];rfl
             have HQ:=G (HBad.out (by rw[nu,HBk.out g1];simp));clear HGk HBk HBad HG hf0;go_wp2_with fail;clear hc1 hc2;refine am 11 4 [] mixed (by kernel_rfl) trivial ?_;repeat (refine sx ?_ (fun w1 hU=> ?_) ?_;rotate_left;(focus have k0:=(HD1.out.ext (HZ4.out.trans hU.un)).cell;have k1:=(HD2.out.ext (HZ4.out.trans hU.un)).cell;have f1:=(hU.un.cell b3 _ hl3).trans pe0;have f2:=(hU.un.cell b4 _ hl4).trans qe0;clear hU;go_simp<;>with_reducible rfl);simp only[bf,be,bc,a_,a8])
             intro w7 hw7 _;simp only[ab,aC];have HE7:=G (HEz.out.trans hw7.un);clear hw7;go_wp2_with fail;go_ret;exact⟨eS (by rw[jW,HQ.out];simp),HE7.out⟩
           ·have hlk': ¬(k:Int)<u:=by omega
            have HQ:=G (HG.out (by rw[nu,HS.out,ti (a:=ax) (b:=ay) (by have:=HU.out;have:=HU'.out;omega) (fun i h1 h2=>HTk.out i h1 h2 (by have:=HU.out;omega))];simp));have HR9:=G (HR3.out.ex HZ.out);clear HBad HG HTk;go_wp2_with fail;go_roundw
            case rel=>exact⟨j+1,by omega,by go_num,HR9,HQ⟩
            case measure=>simp[intOf];omega
        ·have kb:((u:Int)==(u':Int))=false:=by simp;omega
         have kc:((u:Int) !=(u':Int))=true:=by simp;omega
         have HQ:=G (HBad.out (by rw[nu,uK (a:=ax) (b:=ay) (by have:=HU.out;have:=HU'.out;omega)];simp));clear HBad HG HC hk;go_wp2_with fail;go_ret;exact⟨eS (by rw[jW,HQ.out];simp),HR2.out.e⟩
       ·have fs1:(s==s')=false:=by simpa using hs
        have fs2:(s !=s')=true:=by rw[bne,fs1];rfl
        have HQ:=G (HBad.out (by simp[nu,fs1]));clear HBad HG HC hs;go_wp2_with fail;go_ret;exact⟨eS (by rw[jW,HQ.out];simp),HR2.out.e⟩
      ·have hlt': ¬(j:Int)<m:=by omega
       have HQ:=G (j' (a:=fs) (b:=fs') (by have:=HNF.out;have:=HNF'.out;omega) (fun i h1 h2=>HT.out i h1 h2 (by have:=HNF.out;omega)));clear HT;go_wp2_with fail;go_ret;exact⟨eS (by rw[jW,HQ.out,HQV.out];rfl),HR.out.e⟩
  ·have h2b:((m:Int)==(m':Int))=false:=by simp;omega
   have h2c:((m:Int) !=(m':Int))=true:=by simp;omega
   have HN:=G (show jW ⟨vs,fs⟩ ⟨vs',fs'⟩=false by rw[jW,m6 (show fs.length≠fs'.length by omega)];simp);clear hm2 hnv hnf hnv' hnf' hV hF hV' hF';go_enter func12,ntmps12;go_wp2_with fail;go_ret;exact⟨eS HN.out.symm,HR0.out.e⟩
 ·have h2b:((n:Int)==(n':Int))=false:=by simp;omega
  have h2c:((n:Int) !=(n':Int))=true:=by simp;omega
  have HN:=G (show jW ⟨vs,fs⟩ ⟨vs',fs'⟩=false by rw[jW,mW (show vs.length≠vs'.length by omega)];rfl);clear hn2 hnv hnf hnv' hnf' hV hF hV' hF';go_enter func12,ntmps12;go_wp2_with fail;go_ret;exact⟨eS HN.out.symm,HR0.out.e⟩
end
section
inductive RS where
 |live (r:List bB)
 |dead (p e:Int)
def RS.hd:RS->bB
 | .live r=>bV r
 | .dead _ _=>zT
def RS.tail:RS->RS
 | .live r=> .live r.tail
 | .dead p e=> .dead p e
def RS.size:RS->Nat
 | .live r=>r.length
 | .dead _ _=>0
def RS.isD:RS->Bool
 | .live _=>false
 | .dead _ _=>true
def RS.fail (en n:Int):RS->RS
 | .live r=> .dead (pq en r) n
 | .dead p e=> .dead p e
def RS.is (s:List UInt8) (σ:RS):Bool:=(σ.hd.k==5||σ.hd.k==2)&&σ.hd.t==s
def RS.want (en:Int) (s:List UInt8) (σ:RS):RS:=if σ.is s then σ.tail else σ.fail en 3
def RS.take (en:Int) (k:Int) (σ:RS):bB×RS:=if σ.hd.k=k then(σ.hd,σ.tail)else(zT,σ.fail en 3)
theorem RS.is_live (s:List UInt8) (r:List bB):(RS.live r).is s=b6 s r:=rfl
theorem RS.is_dead (s:List UInt8) (p e:Int):(RS.dead p e).is s=false:=by simp[RS.is,RS.hd,zT]
def x_:Ex:= .mk 0 [] [] [] 0 []
mutual
def br (en:Int):Nat->Int->RS->Ex×RS
 |0,_,σ=>(x_,σ)
 |f+1,n,σ=>gD en f n (cW en f σ).1 (cW en f σ).2
def gD (en:Int):Nat->Int->Ex->RS->Ex×RS
 |0,_,x,σ=>(x,σ)
 |f+1,n,x,σ=>if σ.hd.k=5/\n<=eW σ.hd.t then gD en f n (.mk 7 σ.hd.t [] [] 0 [x,(br en f (eW σ.hd.t+1) σ.tail).1]) (br en f (eW σ.hd.t+1) σ.tail).2 else(x,σ)
def cW (en:Int):Nat->RS->Ex×RS
 |0,σ=>(x_,σ)
 |f+1,σ=>
  if σ.hd.k=3 then(.mk 1 [] [] [] σ.hd.v [],σ.tail)
  else if σ.hd.k=4 then(.mk 2 [] [] σ.hd.t 0 [],σ.tail)
  else if σ.hd.k=1 then gC en f σ.hd.t σ.tail
  else if σ.is fi then((br en f 1 σ.tail).1,(br en f 1 σ.tail).2.want en eg)
  else if σ.is ln||σ.is l8 then(.mk 6 σ.hd.t [] [] 0 [(cW en f σ.tail).1],(cW en f σ.tail).2)
  else(x_,σ.fail en 3)
def gC (en:Int):Nat->List UInt8->RS->Ex×RS
 |0,_,σ=>(x_,σ)
 |f+1,nm,σ=>
  if σ.is jD then(.mk 4 [] nm [] 0 [(br en f 1 σ.tail).1],(br en f 1 σ.tail).2.want en jq)
  else if σ.is fi then(.mk 5 [] nm [] 0 (ef en f σ.tail).1,(ef en f σ.tail).2)
  else(.mk 3 [] nm [] 0 [],σ)
def ef (en:Int):Nat->RS->List Ex×RS
 |0,σ=>([],σ)
 |f+1,σ=>if σ.is eg then([],σ.tail)else fc en f [] σ
def fc (en:Int):Nat->List Ex->RS->List Ex×RS
 |0,acc,σ=>([],σ)
 |f+1,acc,σ=>if σ.isD then([],σ)
  else if(br en f 1 σ).2.is kh then fc en f (acc++[(br en f 1 σ).1]) (br en f 1 σ).2.tail
  else(acc++[(br en f 1 σ).1],(br en f 1 σ).2.want en eg)
end
def gP {α:Type} (en:Int) (r:PR α) (x:α×RS):Prop:=match r with
 | .ok (a,q)=>x=(a, .live q)
 | .error (q,n)=>x.2= .dead (pq en q) n
theorem bF (en:Int) (s:List UInt8) (p e:Int):(RS.dead p e).want en s= .dead p e:=by
 unfold RS.want;rw[RS.is_dead];rfl
theorem lB (en p e:Int): ∀(f:Nat),
  (∀n,(br en f n (.dead p e)).2= .dead p e)/\(∀n x,gD en f n x (.dead p e)=(x, .dead p e))/\(cW en f (.dead p e)).2= .dead p e/\(∀acc,fc en f acc (.dead p e)=([], .dead p e))
 |0=>by
  refine⟨fun n=> ?_,fun n x=> ?_,?_,fun acc=> ?_⟩<;>simp[br,gD,cW,fc]
 |f+1=>by
  obtain⟨h1,h2,h3,h4⟩:=lB en p e f;refine⟨fun n=> ?_,fun n x=> ?_,?_,fun acc=> ?_⟩
  ·rw[br,h3,h2]
  ·rw[gD,if_neg (by simp[RS.hd,zT])]
  ·rw[cW];simp only[RS.is_dead];simp[RS.hd,zT,RS.fail]
  ·rw[fc];rfl
theorem gP.ways {α:Type} {en:Int} {r:PR α} {x:α×RS} (h:gP en r x):(∃a q,r= .ok (a,q)/\x.1=a/\x.2= .live q)\/(∃q n,r= .error (q,n)/\x.2= .dead (pq en q) n):=by
 cases r with
 |ok p=>
  obtain⟨a,q⟩:=p;have h:x=(a, .live q):=h;rw[h];exact .inl ⟨a,q,rfl,rfl,rfl⟩
 |error p=>exact .inr ⟨p.1,p.2,rfl,h⟩
theorem gm {a b:List UInt8} {l:List bB} (h:b6 a l=true) (hab:a≠b):b6 b l=false:=by
 unfold b6 at h⊢;rw[au,beq_iff_eq]at h;have:((bV l).t==b)=false:=by rw[h.2];exact beq_eq_false_iff_ne.2 hab
 rw[this,cH]
theorem rV (en:Int): ∀(f:Nat),
  (∀n l,4*l.length+2<=f->gP en (bT f n l) (br en f n (.live l)))/\(∀n x l,4*l.length+1<=f->gP en (gd f n x l) (gD en f n x (.live l)))/\
  (∀l,4*l.length+1<=f->gP en (cE f l) (cW en f (.live l)))/\(∀nm l,4*l.length+1<=f->gP en (ch f nm l) (gC en f nm (.live l)))/\
  (∀l,4*l.length+4<=f->gP en (eL f l) (ef en f (.live l)))/\(∀acc l,4*l.length+3<=f->gP en (fu f acc l) (fc en f acc (.live l)))
 |0=>⟨fun _ _ h=>by omega,fun _ _ _ h=>by omega,fun _ h=>by omega,fun _ _ h=>by omega,fun _ h=>by omega,fun _ _ h=>by omega⟩
 |f+1=>by
  obtain⟨iE,iL,iP,iN,iA,iB⟩:=rV en f;have dL:=fun p e=>(lB en p e f).2.1;obtain⟨xE,xL,xP,xN,xA,xB⟩:=f7 f;refine⟨fun n l hf=> ?_,fun n x l hf=> ?_,fun l hf=> ?_,fun nm l hf=> ?_,fun l hf=> ?_,fun acc l hf=> ?_⟩
  ·rw[bT,br];rcases(iP l (by omega)).ways with⟨a,q,h1,h2,h3⟩|⟨q,m,h1,h2⟩
   ·rw[h1,h2,h3];have:=xP _ _ _ h1;exact iL n a q (by omega)
   ·rw[h1,h2,dL];exact rfl
  ·rw[gd,gD];show gP en (if(bV l).k=5/\n<=eW (bV l).t then _ else _) (if(bV l).k=5/\n<=eW (bV l).t then _ else _);by_cases hk:(bV l).k=5/\n<=eW (bV l).t
   ·rw[if_pos hk,if_pos hk];have hlt:=fh (l:=l) (by rw[hk.1];decide);show gP en _ (gD en f n (Ex.mk 7 (bV l).t [] [] 0 [x,(br en f (eW (bV l).t+1) (.live l.tail)).1]) (br en f (eW (bV l).t+1) (.live l.tail)).2);rcases(iE (eW (bV l).t+1) l.tail (by omega)).ways with⟨a,q,h1,h2,h3⟩|⟨q,m,h1,h2⟩
    ·rw[h1,h2,h3];have:=xE _ _ _ _ h1;exact iL n _ q (by omega)
    ·rw[h1,h2,dL];exact rfl
   ·rw[if_neg hk,if_neg hk];exact rfl
  ·rw[cE,cW];show gP en (if(bV l).k=3 then _ else if(bV l).k=4 then _ else if(bV l).k=1 then _ else if b6 ln l||b6 l8 l then _ else _) (if(bV l).k=3 then _ else if(bV l).k=4 then _ else if(bV l).k=1 then _ else if b6 fi l then _ else if b6 ln l||b6 l8 l then _ else _);by_cases h3:(bV l).k=3
   ·rw[if_pos h3,if_pos h3];exact rfl
   rw[if_neg h3,if_neg h3];by_cases h4:(bV l).k=4
   ·rw[if_pos h4,if_pos h4];exact rfl
   rw[if_neg h4,if_neg h4];by_cases h1:(bV l).k=1
   ·rw[if_pos h1,if_pos h1];have hlt:=fh (l:=l) (by rw[h1];decide);exact iN _ l.tail (by omega)
   rw[if_neg h1,if_neg h1]
   cases hlp:b6 fi l with
   |true=>
    have hm:=gm hlp (b:=ln) (by decide);have hn:=gm hlp (b:=l8) (by decide);have hlt:=aW hlp;rw[if_neg (by rw[hm,hn];simp),if_pos rfl];unfold bP;rw[if_pos hlp];show gP en ((bT f 1 l.tail).then _) ((br en f 1 (.live l.tail)).1,(br en f 1 (.live l.tail)).2.want en eg);rcases(iE 1 l.tail (by omega)).ways with⟨a,q,h1,h2,h3⟩|⟨q,m,h1,h2⟩
    ·rw[h1,h2,h3];show gP en (PR.then (if b6 eg q then _ else _) _) _;unfold RS.want;rw[RS.is_live]
     cases b6 eg q<;>exact rfl
    ·rw[h1,h2,bF];exact rfl
   |false=>
    rw[if_neg (show ¬(false=true) by simp)]
    cases hs:(b6 ln l||b6 l8 l)with
    |true=>
     have hlt:l.length=l.tail.length+1:=by
      rw[cx]at hs;rcases hs with hs|hs<;>exact aW hs
     rw[if_pos rfl,if_pos rfl];show gP en ((cE f l.tail).then _) (Ex.mk 6 (bV l).t [] [] 0 [(cW en f (.live l.tail)).1],(cW en f (.live l.tail)).2);rcases(iP l.tail (by omega)).ways with⟨a,q,h1,h2,h3⟩|⟨q,m,h1,h2⟩
     ·rw[h1,h2,h3];exact rfl
     ·rw[h1,h2];exact rfl
    |false=>
     rw[if_neg (show ¬(false=true) by simp),if_neg (show ¬(false=true) by simp)];unfold bP;rw[if_neg (by rw[hlp];simp)];exact rfl
  ·rw[ch,gC];show gP en (if b6 jD l then _ else if b6 fi l then _ else _) (if b6 jD l then _ else if b6 fi l then _ else _)
   cases hls:b6 jD l with
   |true=>
    have hlt:=aW hls;rw[if_pos rfl,if_pos rfl];show gP en ((bT f 1 l.tail).then _) (Ex.mk 4 [] nm [] 0 [(br en f 1 (.live l.tail)).1],(br en f 1 (.live l.tail)).2.want en jq);rcases(iE 1 l.tail (by omega)).ways with⟨a,q,h1,h2,h3⟩|⟨q,m,h1,h2⟩
    ·rw[h1,h2,h3];show gP en (PR.then (if b6 jq q then _ else _) _) _;unfold RS.want;rw[RS.is_live]
     cases b6 jq q<;>exact rfl
    ·rw[h1,h2,bF];exact rfl
   |false=>
    rw[if_neg (show ¬(false=true) by simp),if_neg (show ¬(false=true) by simp)]
    cases hlp:b6 fi l with
    |true=>
     have hlt:=aW hlp;rw[if_pos rfl,if_pos rfl];show gP en ((eL f l.tail).then _) (Ex.mk 5 [] nm [] 0 (ef en f (.live l.tail)).1,(ef en f (.live l.tail)).2);rcases(iA l.tail (by omega)).ways with⟨a,q,h1,h2,h3⟩|⟨q,m,h1,h2⟩
     ·rw[h1,h2,h3];exact rfl
     ·rw[h1,h2];exact rfl
    |false=>
     rw[if_neg (show ¬(false=true) by simp),if_neg (show ¬(false=true) by simp)];exact rfl
  ·rw[eL,ef];show gP en (if b6 eg l then _ else _) (if b6 eg l then _ else _)
   cases hrp:b6 eg l with
   |true=>rw[if_pos rfl,if_pos rfl];exact rfl
   |false=>
    rw[if_neg (show ¬(false=true) by simp),if_neg (show ¬(false=true) by simp)];exact iB [] l (by omega)
  ·rw[fu,fc];rw[if_neg (show ¬((RS.live l).isD=true) by simp[RS.isD])];rcases(iE 1 l (by omega)).ways with⟨a,q,h1,h2,h3⟩|⟨q,m,h1,h2⟩
   ·rw[h1,h2,h3];have hx:=xE _ _ _ _ h1;show gP en (if b6 eg q then _ else PR.then (if b6 kh q then _ else _) _) (if b6 kh q then _ else(_,RS.want en eg (.live q)))
    cases hrp:b6 eg q with
    |true=>
     have hc:=gm hrp (b:=kh) (by decide);rw[hc,if_pos rfl,if_neg (show ¬(false=true) by simp)];unfold RS.want;rw[RS.is_live,hrp];exact rfl
    |false=>
     rw[if_neg (show ¬(false=true) by simp)]
     cases hcm:b6 kh q with
     |true=>
      have:=aW hcm;rw[if_pos rfl,if_pos rfl];exact iB _ q.tail (by omega)
     |false=>
      rw[if_neg (show ¬(false=true) by simp),if_neg (show ¬(false=true) by simp)];unfold RS.want;rw[RS.is_live,hrp];exact rfl
   ·rw[h1,h2];show gP en (.error (q,m)) (if(RS.dead (pq en q) m).is kh then _ else(_,RS.want en eg (.dead (pq en q) m)));rw[RS.is_dead,if_neg (show ¬(false=true) by simp),bF];exact rfl
def dw:=@RS.is_live
def dR:=@RS.is_dead
end
end Go.Proofs.YtelplgkppalmfaaGreatDoor
