/-
  Parts of the proof: EqX OwnQ.
-/
import Derived.Test.YtelplgkppalmfaaGreatDoorPs00
import Derived.Test.YtelplgkppalmfaaGreatDoorPs28
import Derived.Test.YtelplgkppalmfaaGreatDoorPs27
set_option maxRecDepth 100000
set_option maxHeartbeats 8000000
set_option linter.unusedVariables false
set_option linter.unusedSimpArgs false
namespace Go.Proofs.YtelplgkppalmfaaGreatDoor
open Go.Proofs.Tryz
section
open Go.RowKit
theorem oP {w:World} {P:Nat->Prop} {A:Option Addr} {n c:Nat} {ls:List Fc} (h:iU w P (.slice A n c) ls) (i:Nat) (hi:i<ls.length):
  ∃b o pv bv,A=some ⟨b,o,none⟩/\b<w.heap.size/\w.cell? ⟨b,o+i*3,none⟩=some (.string (ae ls[i].nm))/\w.cell? ⟨b,o+i*3+1,none⟩=some pv/\w.cell? ⟨b,o+i*3+2,none⟩=some bv/\jK w P pv ls[i].ps/\cP w P bv ls[i].body:=by
 obtain⟨A',c',hv,h⟩:=h;injection hv with h1 h2 h3;rcases h with h|⟨_,_,b,o,ha,_,hb,pv,bv,hc⟩
 ·subst h;simp at hi
 ·obtain⟨q0,q1,q2,q3,q4⟩:=hc i hi;exact⟨b,o,pv i,bv i,by rw[h1];exact ha,hb,q0,q1,q2,q3,q4⟩
theorem oO {w:World} {P:Nat->Prop} {A:Option Addr} {n c:Nat} {ls:List Vr} (h:iT w P (.slice A n c) ls) (i:Nat) (hi:i<ls.length):
  ∃b o,A=some ⟨b,o,none⟩/\b<w.heap.size/\w.cell? ⟨b,o+i*2,none⟩=some (.string (ae ls[i].nm))/\w.cell? ⟨b,o+i*2+1,none⟩=some (.int .i64 ls[i].sz):=by
 obtain⟨A',c',hv,h⟩:=h;injection hv with h1 h2 h3;rcases h with h|⟨_,_,b,o,ha,_,hb,hc⟩
 ·subst h;simp at hi
 ·exact⟨b,o,by rw[h1];exact ha,hb,(hc i hi).1,(hc i hi).2⟩
theorem mg {w:World} {P:Nat->Prop} {A:Option Addr} {n c:Nat} {ls:List Fc} (h:iU w P (.slice A n c) ls):n=ls.length:=by
 obtain⟨A',c',hv,_⟩:=h;injection hv with h1 h2 h3
theorem mf {w:World} {P:Nat->Prop} {A:Option Addr} {n c:Nat} {ls:List Vr} (h:iT w P (.slice A n c) ls):n=ls.length:=by
 obtain⟨A',c',hv,_⟩:=h;injection hv with h1 h2 h3
theorem i' {w:World} {P:Nat->Prop} {v:Value} {ls:List (List UInt8)} (h:jK w P v ls): ∃A c,v= .slice A ls.length c:=by
 obtain⟨A,c,hv,_⟩:=h;exact⟨A,c,hv⟩
def wS (a b:List (List UInt8)):Bool:=a==b
theorem wy {a b:List (List UInt8)} (h:a.length≠b.length):wS a b=false:=by
 unfold wS;rw[beq_eq_false_iff_ne];intro e;exact h (by rw[e])
theorem wA {a b:List (List UInt8)} (i:Nat) (h:i<a.length) (h':i<b.length) (he:(a[i]==b[i])=false):wS a b=false:=by
 unfold wS;rw[beq_eq_false_iff_ne]at he⊢;intro e;subst e;exact he rfl
theorem vg {a b:List (List UInt8)} (hl:a.length=b.length) (h: ∀i (h:i<a.length) (h':i<b.length),(a[i]==b[i])=true):wS a b=true:=by
 unfold wS;rw[beq_iff_eq];refine iX hl fun i h1 h2=> ?_;have:=h i h1 h2;rwa [beq_iff_eq]at this
theorem ww (xs ys:List (List UInt8)) (P:Nat->Prop) (w:World) (A B:Option Addr) (n m c d:Nat) (hA:jK w P (.slice A n c) xs) (hB:jK w P (.slice B m d) ys):
  Calls prog 52 #[.slice A n c, .slice B m d] w fun e w'=>e= .returned (.bool (wS xs ys))/\al w w':=by
 have hnl:=jK.len hA;have hml:=jK.len hB;have hnm:n<=maxLen:=by obtain⟨A',c',hv,h⟩:=hA;injection hv with _ hn _;rcases h with h|⟨h1,h2,_⟩;(rw[hn,h];exact aB _);omega
 unfold maxLen at hnm;have HNL:=G hnl;have HML:=G hml;have HA:=G hA;have HB:=G hB;clear hA hB hnl hml;by_cases h2:n=m
 ·have h2b:((n:Int)==(m:Int))=true:=by simp[h2]
  have h2c:((n:Int) !=(m:Int))=false:=by simp[h2]
  have H2:=G h2;clear h2;go_enter func52,ntmps52;go_wp2_with fail
  go_loopw [13] (fun i wr=> ∃j:Nat,j<=n/\i= .int .i64 (j:Int)/\Hid (al w wr)/\Hid (∀i (h:i<xs.length) (h':i<ys.length),i<j->(xs[i]==ys[i])=true)) (fun i _=>n-(intOf i).toNat)
  case atStart=>exact⟨0,aB _,rfl,G (aG w),G (fun _ _ _ h=>absurd h (bK _))⟩
  case round=>
   obtain⟨j,hj,rfl,HX,HT⟩:=hrel;clear h2b h2c;by_cases hlt:j<n
   ·have hlt':(j:Int)<n:=by omega
    have hlt2:j<m:=by have:=H2.out;omega
    have hlt2':(j:Int)<m:=by omega
    have hjl:j<xs.length:=by have:=HNL.out;omega
    have hjl2:j<ys.length:=by have:=HML.out;omega
    obtain⟨b1,o1,rfl,hb1,p0⟩:=mD HA.out j hjl;obtain⟨b2,o2,rfl,hb2,q0⟩:=mD HB.out j hjl2;have pe0:=(HX.out.cell b1 _ hb1).trans p0;have qe0:=(HX.out.cell b2 _ hb2).trans q0;clear p0 q0;have hl1:b1<wr.heap.size:=an hb1 HX.out.size;have hl2:b2<wr.heap.size:=an hb2 HX.out.size;have HBad:=G (fun h=>wA (a:=xs) (b:=ys) j hjl hjl2 h)
    have HG:=G (fun(h:(xs[j]==ys[j])=true)=>(show ∀i (h:i<xs.length) (h':i<ys.length),i<j+1->(xs[i]==ys[i])=true from fun i h1 h2 h3=>by
     by_cases h4:i=j
     ·subst h4;exact h
     ·exact HT.out i h1 h2 (by omega)))
    generalize xs[j]=x at*;generalize ys[j]=y at*;by_cases hf0:x=y
    ·subst hf0;have HQ:=G (HG.out (by simp));clear HG HBad;go_wp2_with fail;refine am 9 1 [] mixed (by kernel_rfl) trivial ?_;repeat (refine sx ?_ (fun w1 hU=> ?_) ?_;rotate_left;(focus have f1:=(hU.un.cell b1 _ hl1).trans pe0;have f2:=(hU.un.cell b2 _ hl2).trans qe0;clear hU;go_simp<;>with_reducible rfl);simp only[bf,be,bc,a_,a8])
     intro w7 hw7 _;simp only[ab,aC];have HK:=G (HX.out.trans hw7.un);clear hw7;go_wp2_with fail;go_roundw
     case rel=>exact⟨j+1,by omega,by go_num,HK,HQ⟩
     case measure=>simp[intOf];omega
    ·have g0:(x==y)=false:=by simpa using hf0
     have n0:(x !=y)=true:=by rw[bne,g0];rfl
     clear hf0;have HQ:=G (HBad.out (g0));clear HG HBad HA HB;go_wp2_with fail;refine am 9 1 [] mixed (by kernel_rfl) trivial ?_;repeat (refine sx ?_ (fun w1 hU=> ?_) ?_;rotate_left;(focus have f1:=(hU.un.cell b1 _ hl1).trans pe0;have f2:=(hU.un.cell b2 _ hl2).trans qe0;clear hU;go_simp<;>with_reducible rfl);simp only[bf,be,bc,a_,a8])
     intro w7 hw7 _;simp only[ab,aC];have HK:=G (HX.out.trans hw7.un);clear hw7;go_wp2_with fail;go_ret;exact⟨dI HQ.out.symm,HK.out⟩
   ·have hlt': ¬(j:Int)<n:=by omega
    have hjj:j=n:=by omega
    have HQ:=G (vg (a:=xs) (b:=ys) (by have:=HNL.out;have:=HML.out;have:=H2.out;omega) (fun i h1 h2=>HT.out i h1 h2 (by have:=HNL.out;omega)));clear HT;go_wp2_with fail;go_ret;exact⟨dI HQ.out.symm,HX.out⟩
 ·have h2b:((n:Int)==(m:Int))=false:=by simp;omega
  have h2c:((n:Int) !=(m:Int))=true:=by simp;omega
  have HN:=G (wy (a:=xs) (b:=ys) (by have:=HNL.out;have:=HML.out;omega));clear h2;go_enter func52,ntmps52;go_wp2_with fail;go_ret;exact⟨dI HN.out.symm,aG w⟩
theorem wu (xs ys:List Vr) (P:Nat->Prop) (w:World) (A B:Option Addr) (n m c d:Nat) (hA:iT w P (.slice A n c) xs) (hB:iT w P (.slice B m d) ys):
  Calls prog 49 #[.slice A n c, .slice B m d] w fun e w'=>e= .returned (.bool (ma xs ys))/\al w w':=by
 have hnl:=mf hA;have hml:=mf hB;have hnm:n<=maxLen:=by obtain⟨A',c',hv,h⟩:=hA;injection hv with _ hn _;rcases h with h|⟨h1,h2,_⟩;(rw[hn,h];exact aB _);omega
 unfold maxLen at hnm;have HNL:=G hnl;have HML:=G hml;have HA:=G hA;have HB:=G hB;clear hA hB hnl hml;by_cases h2:n=m
 ·have h2b:((n:Int)==(m:Int))=true:=by simp[h2]
  have h2c:((n:Int) !=(m:Int))=false:=by simp[h2]
  have H2:=G h2;clear h2;go_enter func49,ntmps49;go_wp2_with fail
  go_loopw [13] (fun i wr=> ∃j:Nat,j<=n/\i= .int .i64 (j:Int)/\Hid (al w wr)/\Hid (∀i (h:i<xs.length) (h':i<ys.length),i<j->pG xs[i] ys[i]=true)) (fun i _=>n-(intOf i).toNat)
  case atStart=>exact⟨0,aB _,rfl,G (aG w),G (fun _ _ _ h=>absurd h (bK _))⟩
  case round=>
   obtain⟨j,hj,rfl,HX,HT⟩:=hrel;clear h2b h2c;by_cases hlt:j<n
   ·have hlt':(j:Int)<n:=by omega
    have hlt2:j<m:=by have:=H2.out;omega
    have hlt2':(j:Int)<m:=by omega
    have hjl:j<xs.length:=by have:=HNL.out;omega
    have hjl2:j<ys.length:=by have:=HML.out;omega
    obtain⟨b1,o1,rfl,hb1,p0,p1⟩:=oO HA.out j hjl;obtain⟨b2,o2,rfl,hb2,q0,q1⟩:=oO HB.out j hjl2;have pe0:=(HX.out.cell b1 _ hb1).trans p0;have pe1:=(HX.out.cell b1 _ hb1).trans p1;have qe0:=(HX.out.cell b2 _ hb2).trans q0;have qe1:=(HX.out.cell b2 _ hb2).trans q1;clear p0 q0 p1 q1;have hl1:b1<wr.heap.size:=an hb1 HX.out.size;have hl2:b2<wr.heap.size:=an hb2 HX.out.size;have HBad:=G (fun h=>mX (a:=xs) (b:=ys) j hjl hjl2 h)
    have HG:=G (fun(h:pG xs[j] ys[j]=true)=>(show ∀i (h:i<xs.length) (h':i<ys.length),i<j+1->pG xs[i] ys[i]=true from fun i h1 h2 h3=>by
     by_cases h4:i=j
     ·subst h4;exact h
     ·exact HT.out i h1 h2 (by omega)))
    generalize xs[j]=x at*;generalize ys[j]=y at*;obtain⟨s,x⟩:=x;obtain⟨t,y⟩:=y;simp only at*;by_cases hf0:s=t
    ·subst hf0;by_cases hf1:x=y
     ·subst hf1;have HQ:=G (HG.out (by simp[pG]));clear HG HBad;go_wp2_with fail;refine am 9 1 [] mixed (by kernel_rfl) trivial ?_;repeat (refine sx ?_ (fun w1 hU=> ?_) ?_;rotate_left;(focus have f1:=(hU.un.cell b1 _ hl1).trans pe0;have f2:=(hU.un.cell b2 _ hl2).trans qe0;have f3:=(hU.un.cell b1 _ hl1).trans pe1;have f4:=(hU.un.cell b2 _ hl2).trans qe1;clear hU;go_simp<;>with_reducible rfl);simp only[bf,be,bc,a_,a8])
      intro w7 hw7 _;simp only[ab,aC];have HK:=G (HX.out.trans hw7.un);clear hw7;go_wp2_with fail;go_roundw
      case rel=>exact⟨j+1,by omega,by go_num,HK,HQ⟩
      case measure=>simp[intOf];omega
     ·have g1:(x==y)=false:=by simpa using hf1
      have n1:(x !=y)=true:=by rw[bne,g1];rfl
      clear hf1;have HQ:=G (HBad.out (by simp[pG,g1]));clear HG HBad HA HB;go_wp2_with fail;refine am 9 1 [] mixed (by kernel_rfl) trivial ?_;repeat (refine sx ?_ (fun w1 hU=> ?_) ?_;rotate_left;(focus have f1:=(hU.un.cell b1 _ hl1).trans pe0;have f2:=(hU.un.cell b2 _ hl2).trans qe0;have f3:=(hU.un.cell b1 _ hl1).trans pe1;have f4:=(hU.un.cell b2 _ hl2).trans qe1;clear hU;go_simp<;>with_reducible rfl);simp only[bf,be,bc,a_,a8])
      intro w7 hw7 _;simp only[ab,aC];have HK:=G (HX.out.trans hw7.un);clear hw7;go_wp2_with fail;go_ret;exact⟨dI HQ.out.symm,HK.out⟩
    ·have g0:(s==t)=false:=by simpa using hf0
     have n0:(s !=t)=true:=by rw[bne,g0];rfl
     clear hf0;have HQ:=G (HBad.out (by simp[pG,g0]));clear HG HBad HA HB;go_wp2_with fail;refine am 9 1 [] mixed (by kernel_rfl) trivial ?_;repeat (refine sx ?_ (fun w1 hU=> ?_) ?_;rotate_left;(focus have f1:=(hU.un.cell b1 _ hl1).trans pe0;have f2:=(hU.un.cell b2 _ hl2).trans qe0;have f3:=(hU.un.cell b1 _ hl1).trans pe1;have f4:=(hU.un.cell b2 _ hl2).trans qe1;clear hU;go_simp<;>with_reducible rfl);simp only[bf,be,bc,a_,a8])
     intro w7 hw7 _;simp only[ab,aC];have HK:=G (HX.out.trans hw7.un);clear hw7;go_wp2_with fail;go_ret;exact⟨dI HQ.out.symm,HK.out⟩
   ·have hlt': ¬(j:Int)<n:=by omega
    have hjj:j=n:=by omega
    have HQ:=G (j_ (a:=xs) (b:=ys) (by have:=HNL.out;have:=HML.out;have:=H2.out;omega) (fun i h1 h2=>HT.out i h1 h2 (by have:=HNL.out;omega)));clear HT;go_wp2_with fail;go_ret;exact⟨dI HQ.out.symm,HX.out⟩
 ·have h2b:((n:Int)==(m:Int))=false:=by simp;omega
  have h2c:((n:Int) !=(m:Int))=true:=by simp;omega
  have HN:=G (mW (a:=xs) (b:=ys) (by have:=HNL.out;have:=HML.out;omega));clear h2;go_enter func49,ntmps49;go_wp2_with fail;go_ret;exact⟨dI HN.out.symm,aG w⟩
theorem ve (x y:Fc) (P:Nat->Prop) (a a1 b b1:Value) (w:World) (ha:jK w P a x.ps) (hb:jK w P b y.ps) (ha1:cP w P a1 x.body) (hb1:cP w P b1 y.body):
  Calls prog 51 #[.agg #[.string (ae x.nm),a,a1], .agg #[.string (ae y.nm),b,b1]] w fun e w'=>e= .returned (.bool (nu x y))/\al w w':=by
 obtain⟨A,c,rfl⟩:=i' ha;obtain⟨B,d,rfl⟩:=i' hb;have HC:=G (fun(W:World) (h:al w W)=>ww _ _ P W _ _ _ _ _ _ (ha.keep (.of_ext h) (Q:=P) (fun _ hb _=>hb)) (hb.keep (.of_ext h) (Q:=P) (fun _ hb _=>hb)));have HC1:=G (fun(W:World) (h:al w W)=>wn _ _ P W a1 b1 (ha1.keep (.of_ext h) (fun _ hb _=>hb)) (hb1.keep (.of_ext h) (fun _ hb _=>hb)));obtain⟨A1,c1,rfl,_⟩:=ha1.form;obtain⟨B1,d1,rfl,_⟩:=hb1.form;clear ha hb ha1 hb1;obtain⟨o,ax,ax1⟩:=x;obtain⟨o',bx,bx1⟩:=y;simp only at*;generalize hrr:wS ax bx=r at HC;generalize hrr1:nr ax1 bx1=r1 at HC1;have HR:=G hrr;have HR1:=G hrr1;clear hrr hrr1;generalize ax.length=la at*;generalize bx.length=lb at*;generalize ax1.length=la1 at*;generalize bx1.length=lb1 at*;have HX0:=G (show al w ((w.alloc (.cells #[.string (ae o), .slice A la c, .slice A1 la1 c1] 73)).alloc (.cells #[.string (ae o'), .slice B lb d, .slice B1 lb1 d1] 73))from(O w _).alloc' _);have HU:=G (show aT ((w.alloc (.cells #[.string (ae o), .slice A la c, .slice A1 la1 c1] 73)).alloc (.cells #[.string (ae o'), .slice B lb d, .slice B1 lb1 d1] 73)) w.heap.size 73 #[.string (ae o), .slice A la c, .slice A1 la1 c1]from(ai w _ _).alloc _);have HV:=G (show aT ((w.alloc (.cells #[.string (ae o), .slice A la c, .slice A1 la1 c1] 73)).alloc (.cells #[.string (ae o'), .slice B lb d, .slice B1 lb1 d1] 73)) (w.heap.size+1) 73 #[.string (ae o'), .slice B lb d, .slice B1 lb1 d1]from by have:=ai (w.alloc (.cells #[.string (ae o), .slice A la c, .slice A1 la1 c1] 73)) 73 #[.string (ae o'), .slice B lb d, .slice B1 lb1 d1];rwa [aQ]at this);by_cases ho:o=o'
 ·subst ho
  cases r with
  |false=>
   clear HC1;go_enter func51,ntmps51;go_wp2_with (first|(go_at_call 52;refine(HC.out _ ((O _ _).alloc' _)).mono ?_;rintro e w1 ⟨rfl,hE⟩;have f1:=(HU.out.ext hE).cell;have f2:=(HV.out.ext hE).cell;have HX1:=G (HX0.out.trans hE);clear hE HC HU HV HX0));go_ret;exact⟨dI (by rw[nu,show(ax==bx)=_ from HR.out];simp),HX1.out⟩
  |true=>
   go_enter func51,ntmps51;go_wp2_with (first|(go_at_call 52;refine(HC.out _ ((O _ _).alloc' _)).mono ?_;rintro e w1 ⟨rfl,hE⟩;have f1:=(HU.out.ext hE).cell;have f2:=(HV.out.ext hE).cell;have HX1:=G (HX0.out.trans hE);clear hE HC HU HV HX0)|(go_at_call 53;refine(HC1.out _ HX1.out).mono ?_;rintro e w2 ⟨rfl,hE⟩;clear f1 f2;have HX2:=G (HX1.out.trans hE);clear hE HC1 HX1));go_ret;exact⟨dI (by rw[nu,show(ax==bx)=_ from HR.out,HR1.out];simp),HX2.out⟩
 ·have fo:(o==o')=false:=by simpa using ho
  clear ho HC HC1 HU HV;go_enter func51,ntmps51;go_wp2_with fail;go_ret;exact⟨dI (by simp[nu,fo]),HX0.out⟩
theorem u_ (xs ys:List Fc) (P:Nat->Prop) (w:World) (A B:Option Addr) (n m c d:Nat) (hA:iU w P (.slice A n c) xs) (hB:iU w P (.slice B m d) ys) (hIH: ∀x,x∈xs-> ∀y:Fc,True):
  Calls prog 50 #[.slice A n c, .slice B m d, .func (.func 51) #[] #[]] w fun e w'=>e= .returned (.bool (mb xs ys))/\al w w':=by
 have hnl:=mg hA;have hml:=mg hB;have hnm:n<=maxLen:=by obtain⟨A',c',hv,h⟩:=hA;injection hv with _ hn _;rcases h with h|⟨h1,h2,_⟩;(rw[hn,h];exact aB _);omega
 unfold maxLen at hnm;have HNL:=G hnl;have HML:=G hml;have HA:=G hA;have HB:=G hB;have HI:=G hIH;clear hA hB hIH hnl hml;by_cases h2:n=m
 ·have h2b:((n:Int)==(m:Int))=true:=by simp[h2]
  have h2c:((n:Int) !=(m:Int))=false:=by simp[h2]
  have H2:=G h2;clear h2;go_enter func50,ntmps50;go_wp2_with fail
  go_loopw [17] (fun i wr=> ∃j:Nat,j<=n/\i= .int .i64 (j:Int)/\Hid (al w wr)/\Hid (∀i (h:i<xs.length) (h':i<ys.length),i<j->nu xs[i] ys[i]=true)) (fun i _=>n-(intOf i).toNat)
  case atStart=>exact⟨0,aB _,rfl,G (aG w),G (fun _ _ _ h=>absurd h (bK _))⟩
  case round=>
   obtain⟨j,hj,rfl,HX,HT⟩:=hrel;clear h2b h2c;by_cases hlt:j<n
   ·have hlt':(j:Int)<n:=by omega
    have hlt2:j<m:=by have:=H2.out;omega
    have hlt2':(j:Int)<m:=by omega
    have hjl:j<xs.length:=by have:=HNL.out;omega
    have hjl2:j<ys.length:=by have:=HML.out;omega
    obtain⟨b1,o1,a1,a2,rfl,hb1,p0,p1,p2,hRa,hSa⟩:=oP HA.out j hjl;obtain⟨b2,o2,g1,g2,rfl,hb2,q0,q1,q2,hRb,hSb⟩:=oP HB.out j hjl2;have pe0:=(HX.out.cell b1 _ hb1).trans p0;have pe1:=(HX.out.cell b1 _ hb1).trans p1;have pe2:=(HX.out.cell b1 _ hb1).trans p2;clear p0 p1 p2;have qe0:=(HX.out.cell b2 _ hb2).trans q0;have qe1:=(HX.out.cell b2 _ hb2).trans q1;have qe2:=(HX.out.cell b2 _ hb2).trans q2;clear q0 q1 q2;have hl1:b1<wr.heap.size:=an hb1 HX.out.size;have hl2:b2<wr.heap.size:=an hb2 HX.out.size;have HBad:=G (fun h=>m7 (a:=xs) (b:=ys) j hjl hjl2 h)
    have HG:=G (fun(h:nu xs[j] ys[j]=true)=>(show ∀i (h:i<xs.length) (h':i<ys.length),i<j+1->nu xs[i] ys[i]=true from fun i h1 h2 h3=>by
     by_cases h4:i=j
     ·subst h4;exact h
     ·exact HT.out i h1 h2 (by omega)))
    have hih:=HI.out xs[j] (aE hjl) ys[j];generalize xs[j]=x at*;generalize ys[j]=y at*;obtain⟨A1,c1,rfl⟩:=i' hRa;obtain⟨B1,d1,rfl⟩:=i' hRb;obtain⟨A2,c2,rfl,_⟩:=hSa.form;obtain⟨B2,d2,rfl,_⟩:=hSb.form;have HY:=G (fun(W:World) (h:al wr W)=>ve x y P _ _ _ _ W (hRa.keep (.of_ext (HX.out.trans h)) (fun _ hb _=>hb)) (hRb.keep (.of_ext (HX.out.trans h)) (fun _ hb _=>hb)) (hSa.keep (.of_ext (HX.out.trans h)) (fun _ hb _=>hb)) (hSb.keep (.of_ext (HX.out.trans h)) (fun _ hb _=>hb)));clear hRa hRb hSa hSb;generalize hpe:nu x y=pe at*;have HPE:=G hpe;clear hpe hih
    cases pe with
    |false=>
     have HQ:=G (HBad.out rfl);clear HG HBad;go_wp2_with (go_at_call 51;refine(HY.out _ ((O _ _).alloc' _)).mono ?_;rintro e w1 ⟨rfl,hE⟩;have HE:=G (((O _ _).alloc' _).trans hE);clear hE HY);go_ret;exact⟨dI HQ.out.symm,HX.out.trans HE.out⟩
    |true=>
     have HQ:=G (HG.out rfl);clear HG HBad;go_wp2_with (go_at_call 51;refine(HY.out _ ((O _ _).alloc' _)).mono ?_;rintro e w1 ⟨rfl,hE⟩;have HE:=G (((O _ _).alloc' _).trans hE);clear hE HY);go_roundw
     case rel=>exact⟨j+1,by omega,by go_num,G (HX.out.trans HE.out),HQ⟩
     case measure=>simp[intOf];omega
   ·have hlt': ¬(j:Int)<n:=by omega
    have hjj:j=n:=by omega
    have HQ:=G (j' (a:=xs) (b:=ys) (by have:=HNL.out;have:=HML.out;have:=H2.out;omega) (fun i h1 h2=>HT.out i h1 h2 (by have:=HNL.out;omega)));clear HT;go_wp2_with fail;go_ret;exact⟨dI HQ.out.symm,HX.out⟩
 ·have h2b:((n:Int)==(m:Int))=false:=by simp;omega
  have h2c:((n:Int) !=(m:Int))=true:=by simp;omega
  have HN:=G (m6 (a:=xs) (b:=ys) (by have:=HNL.out;have:=HML.out;omega));clear h2;go_enter func50,ntmps50;go_wp2_with fail;go_ret;exact⟨dI HN.out.symm,aG w⟩
theorem rp (p q:Pg) (P:Nat->Prop) (w:World) (A B A' B':Option Addr) (n c m d n' c' m' d':Nat) (hV:iT w P (.slice A n c) p.vs) (hF:iU w P (.slice B m d) p.fs) (hV':iT w P (.slice A' n' c') q.vs) (hF':iU w P (.slice B' m' d') q.fs):
  Calls prog 20 #[.agg #[.slice A n c, .slice B m d], .agg #[.slice A' n' c', .slice B' m' d']] w fun e w'=>e= .returned (.bool (jW p q))/\al w w':=by
 have HC:=G (fun(W:World) (h:al w W)=>wu p.vs q.vs P W _ _ _ _ _ _ (hV.keep (.of_ext h) (Q:=P) (fun _ hb _=>hb)) (hV'.keep (.of_ext h) (Q:=P) (fun _ hb _=>hb)));have HC1:=G (fun(W:World) (h:al w W)=>u_ p.fs q.fs P W _ _ _ _ _ _ (hF.keep (.of_ext h) (Q:=P) (fun _ hb _=>hb)) (hF'.keep (.of_ext h) (Q:=P) (fun _ hb _=>hb)) (fun _ _ _=>trivial));clear hV hF hV' hF';generalize hrr:ma p.vs q.vs=r at HC;generalize hrr1:mb p.fs q.fs=r1 at HC1;have HR:=G (show jW p q=(r&&r1) by rw[jW,hrr,hrr1]);clear hrr hrr1;have HX0:=G (show al w ((w.alloc (.cells #[.slice A n c, .slice B m d] 26)).alloc (.cells #[.slice A' n' c', .slice B' m' d'] 26))from(O w _).alloc' _);have HU:=G (show aT ((w.alloc (.cells #[.slice A n c, .slice B m d] 26)).alloc (.cells #[.slice A' n' c', .slice B' m' d'] 26)) w.heap.size 26 #[.slice A n c, .slice B m d]from(ai w _ _).alloc _);have HV:=G (show aT ((w.alloc (.cells #[.slice A n c, .slice B m d] 26)).alloc (.cells #[.slice A' n' c', .slice B' m' d'] 26)) (w.heap.size+1) 26 #[.slice A' n' c', .slice B' m' d']from by have:=ai (w.alloc (.cells #[.slice A n c, .slice B m d] 26)) 26 #[.slice A' n' c', .slice B' m' d'];rwa [aQ]at this)
 cases r with
 |false=>
  clear HC1;go_enter func20,ntmps20;go_wp2_with (go_at_call 49;refine(HC.out _ ((O _ _).alloc' _)).mono ?_;rintro e w1 ⟨rfl,hE⟩;have HX1:=G (HX0.out.trans hE);clear hE HC HU HV HX0);go_ret;exact⟨dI (by rw[HR.out];rfl),HX1.out⟩
 |true=>
  go_enter func20,ntmps20;go_wp2_with (first|(go_at_call 49;refine(HC.out _ ((O _ _).alloc' _)).mono ?_;rintro e w1 ⟨rfl,hE⟩;have f1:=(HU.out.ext hE).cell;have f2:=(HV.out.ext hE).cell;have HX1:=G (HX0.out.trans hE);clear hE HC HU HV HX0)|(go_at_call 50;refine(HC1.out _ HX1.out).mono ?_;rintro e w2 ⟨rfl,hE⟩;clear f1 f2;have HX2:=G (HX1.out.trans hE);clear hE HC1 HX1));go_ret;exact⟨dI (by rw[HR.out];rfl),HX2.out⟩
end
section
open Go.RowKit
def gN (tv tf:TypeId) (Q:Nat->Prop) (w:World) (base:Nat) (vv fv:Value) (vs:List Vr) (fs:List FV):Prop:=
 w.ownsRow base tv 2 vv vs.length (fM vs)/\w.ownsRow base tf 3 fv fs.length (fO fs)/\(∀k,vv.ownBlock=some k->fv.ownBlock≠some k)/\ ∀p,p∈fs->p.ok w (fun b=>Q b/\some b≠vv.ownBlock/\some b≠fv.ownBlock)
theorem gN.nil_ (tv tf:TypeId) (Q:Nat->Prop) (w:World) (base:Nat):gN tv tf Q w base (.slice none 0 0) (.slice none 0 0) [] []:=⟨b7 _ _ _ _,b7 _ _ _ _,fun k hk=>(by cases hk),fun p hp=>(by cases hp)⟩
theorem gN.keepW {tv tf:TypeId} {Q:Nat->Prop} {w w':World} {base:Nat} {vv fv:Value} {vs:List Vr} {fs:List FV} (h:gN tv tf Q w base vv fv vs fs) (hz:w.heap.size<=w'.heap.size) (hk: ∀b,(base<=b\/Q b)->b<w.heap.size->w'.heap[b]? =w.heap[b]?):gN tv tf Q w' base vv fv vs fs:=
 ⟨gB h.1 (fun b h1 h2 _=>hk b (.inl h1) h2),gB h.2.1 (fun b h1 h2 _=>hk b (.inl h1) h2),h.2.2.1,fun p hp=>(h.2.2.2 p hp).keep ⟨hz,fun b hb hlt=>hk b (.inr hb.1) hlt⟩ (fun b hb _=>hb)⟩
theorem gN.ext {tv tf:TypeId} {Q:Nat->Prop} {w w':World} {base:Nat} {vv fv:Value} {vs:List Vr} {fs:List FV} (h:gN tv tf Q w base vv fv vs fs) (he:al w w'):gN tv tf Q w' base vv fv vs fs:=h.keepW he.size fun b _ hb=>he.obj hb
theorem gN.snocV {tv tf:TypeId} {Q:Nat->Prop} {w w':World} {base:Nat} {vv fv:Value} {vs:List Vr} {fs:List FV} {v:Vr} {A n cap:Nat} (h:gN tv tf Q w base vv fv vs fs) (hl:vs.length=n) (hn:w'.ownsRow base tv 2 (.slice (some ⟨A,0,none⟩) (n+1) cap) (n+1) (fM vs++qH v))
  (hg:w.grownBy w' vv.ownBlock) (hA:some A=vv.ownBlock\/w.heap.size<=A):gN tv tf Q w' base (.slice (some ⟨A,0,none⟩) (n+1) cap) fv (vs++[v]) fs:=by
 subst hl;obtain⟨h1,h2,h3,h4⟩:=h;have hl2:=aJ h2;refine⟨by rw[aa,nH];simpa[fM]using hn,gB h2 (fun b _ hb hv=>hg.block b hb (fun e=>h3 b e.symm hv)),fun k hk e=> ?_,fun p hp=>(h4 p hp).keep (.of_grown hg fun b hb=>hb.2.1) fun b hb hlt=>⟨hb.1,fun e=> ?_,hb.2.2⟩⟩
 ·have hk:A=k:=M hk;subst hk;rcases hA with hA|hA
  ·exact h3 A hA.symm e
  ·have:=(hl2 A e).2;omega
 ·have e:b=A:=M e;subst e;rcases hA with hA|hA
  ·exact hb.2.1 hA
  ·omega
theorem gN.snocF {tv tf:TypeId} {Q:Nat->Prop} {w w':World} {base:Nat} {vv fv:Value} {vs:List Vr} {fs:List FV} {p:FV} {A n cap:Nat} (h:gN tv tf Q w base vv fv vs fs) (hp:p.ok w' (fun b=>Q b/\some b≠vv.ownBlock/\b≠A)) (hl:fs.length=n) (hn:w'.ownsRow base tf 3 (.slice (some ⟨A,0,none⟩) (n+1) cap) (n+1) (fO fs++qJ p))
  (hg:w.grownBy w' fv.ownBlock) (hA:some A=fv.ownBlock\/w.heap.size<=A):gN tv tf Q w' base vv (.slice (some ⟨A,0,none⟩) (n+1) cap) vs (fs++[p]):=by
 subst hl;obtain⟨h1,h2,h3,h4⟩:=h;have hl1:=aJ h1
 have hq: ∀b,(Q b/\some b≠vv.ownBlock/\some b≠fv.ownBlock)->b<w.heap.size->(Q b/\some b≠vv.ownBlock/\some b≠Value.ownBlock (.slice (some ⟨A,0,none⟩) (fs.length+1) cap)):=fun b hb hlt=>⟨hb.1,hb.2.1,fun e=>by
  have e:b=A:=M e;subst e;rcases hA with hA|hA
  ·exact hb.2.2 hA
  ·omega⟩
 refine⟨gB h1 (fun b _ hb hv=>hg.block b hb (fun e=>h3 b hv e.symm)),by rw[aa,oe];simpa[fO]using hn,fun k hk e=> ?_,fun q hq'=> ?_⟩
 ·have e:A=k:=M e;subst e;rcases hA with hA|hA
  ·exact h3 A hk hA.symm
  ·have:=(hl1 A hk).2;omega
 ·rcases List.mem_append.1 hq' with hq'|hq'
  ·exact(h4 q hq').keep (.of_grown hg fun b hb=>hb.2.2) hq
  ·rw[cS]at hq';subst hq';exact hp.keep (w':=w') ⟨ag _,fun _ _ _=>rfl⟩ (fun b hb _=>⟨hb.1,hb.2.1,fun e=>hb.2.2 (M e)⟩)
theorem gN.rd {tv tf:TypeId} {Q:Nat->Prop} {w:World} {base:Nat} {vv fv:Value} {vs:List Vr} {fs:List FV} (h:gN tv tf Q w base vv fv vs fs) (hQ: ∀b,base<=b->Q b):iT w Q vv vs/\iU w Q fv (fs.map (·.c)):=by
 obtain⟨h1,h2,_,h4⟩:=h;constructor
 ·rcases h1.2 with⟨rfl,h0⟩|⟨g,cap,cur,rfl,hb,hg,hnc,hcm,hcs,ht⟩
  ·have:vs=[]:=aV h0;subst this;exact⟨none,0,rfl, .inl rfl⟩
  ·have cell: ∀j y,(fM vs)[j]? =some y->w.cell? ⟨g,j,none⟩=some y:=fun j y hy=>by
    rw[cell_of_row w g j cur tv (0,0) hg];rw[<-ht,cr]at hy;split at hy
    ·simpa using hy
    ·cases hy
   exact⟨_,cap,rfl, .inr ⟨hnc,hcm,g,0,rfl,hQ g hb,(Array.getElem?_eq_some_iff.1 hg).1,fun i hi=>by
    rw[ak]
    exact⟨cell _ _ (iY vs i hi 0 (by omega)),cell _ _ (iY vs i hi 1 (by omega))⟩⟩⟩
 ·rcases h2.2 with⟨rfl,h0⟩|⟨g,cap,cur,rfl,hb,hg,hnc,hcm,hcs,ht⟩
  ·have:fs=[]:=aV h0;subst this;exact⟨none,0,rfl, .inl rfl⟩
  ·have cell: ∀j y,(fO fs)[j]? =some y->w.cell? ⟨g,j,none⟩=some y:=fun j y hy=>by
    rw[cell_of_row w g j cur tf (0,0) hg];rw[<-ht,cr]at hy;split at hy
    ·simpa using hy
    ·cases hy
   refine⟨some ⟨g,0,none⟩,cap,by simp, .inr ⟨by simpa using hnc,hcm,g,0,rfl,hQ g hb,(Array.getElem?_eq_some_iff.1 hg).1,fun i=>if h:i<fs.length then fs[i].p else .slice none 0 0,fun i=>if h:i<fs.length then fs[i].b else .slice none 0 0,fun i hi=> ?_⟩⟩;have hi':i<fs.length:=by simpa using hi
   have e0:(fs.map (·.c))[i]=fs[i].c:=by simp
   have hm:=(h4 fs[i] (aE hi')).keep (P:=fun b=>Q b/\some b≠vv.ownBlock/\some b≠Value.ownBlock (.slice (some ⟨g,0,none⟩) fs.length cap)) (w':=w) ⟨ag _,fun _ _ _=>rfl⟩ (Q:=Q) (fun b hb _=>hb.1);rw[e0];simp only[ak,dif_pos hi'];exact⟨cell _ _ (gl fs i hi' 0 (by omega)),cell _ _ (gl fs i hi' 1 (by omega)),cell _ _ (gl fs i hi' 2 (by omega)),hm.1,hm.2⟩
theorem vL (v:Vr): ∀u∈qH v,u.oneCell'=true:=by
 intro u hu;simp only[qH,dH,cU,or_false]at hu;rcases hu with rfl|rfl<;>rfl
theorem wm (f:Fc) (A B:Option Addr) (n m c d:Nat): ∀u∈qJ ⟨f, .slice A n c, .slice B m d⟩,u.oneCell'=true:=by
 intro u hu;simp only[qJ,dH,cU,or_false]at hu;rcases hu with rfl|rfl|rfl<;>rfl
structure PO (ts td:TypeId) (w:World) (s0 s1 vv fv:Value) (W:World):Prop where
 e:al w W
 bs:aT W w.heap.size ts #[s0,s1]
 bz:aT W (w.heap.size+1) td #[.slice none 0 0, .slice none 0 0]
 bo:aT W (w.heap.size+1+1) td #[vv,fv]
section
variable {ts td:TypeId} {w W W':World} {s0 s1 vv fv:Value}
theorem xF (ts td:TypeId) (w:World) (s0 s1:Value):PO ts td w s0 s1 (.slice none 0 0) (.slice none 0 0) (((w.alloc (.cells #[s0,s1] ts)).alloc (.cells #[.slice none 0 0, .slice none 0 0] td)).alloc (.cells #[.slice none 0 0, .slice none 0 0] td)):=by
 refine⟨((O w _).alloc' _).alloc' _,((ai w _ _).alloc _).alloc _,?_,?_⟩
 ·have:=(ai (w.alloc (.cells #[s0,s1] ts)) td #[.slice none 0 0, .slice none 0 0]).alloc (.cells #[.slice none 0 0, .slice none 0 0] td);rwa [aQ]at this
 ·have:=ai ((w.alloc (.cells #[s0,s1] ts)).alloc (.cells #[.slice none 0 0, .slice none 0 0] td)) td #[.slice none 0 0, .slice none 0 0];rwa [aQ,aQ]at this
theorem PO.lt (h:PO ts td w s0 s1 vv fv W):w.heap.size+1+1<W.heap.size:=h.bo.lt
theorem PO.ex (h:PO ts td w s0 s1 vv fv W) (hE:al W W'):PO ts td w s0 s1 vv fv W':=⟨h.e.trans hE,h.bs.ext hE,h.bz.ext hE,h.bo.ext hE⟩
theorem PO.grown {row:Option Nat} (h:PO ts td w s0 s1 vv fv W) (hg:W.grownBy W' row) (hk: ∀k,row=some k->w.heap.size+3<=k):PO ts td w s0 s1 vv fv W':=
 ⟨h.e.grown hg (fun k e=>by have:=hk k e;omega),h.bs.grown hg (fun e=>by have:=hk _ e.symm;omega),h.bz.grown hg (fun e=>by have:=hk _ e.symm;omega),h.bo.grown hg (fun e=>by have:=hk _ e.symm;omega)⟩
theorem PO.putV (h:PO ts td w s0 s1 vv fv W) (q:Value):PO ts td w s0 s1 q fv (W.setCell ⟨w.heap.size+1+1,0,none⟩ q):=by
 refine⟨h.e.set (by show w.heap.size<=w.heap.size+1+1;omega) _,h.bs.far (p:=⟨w.heap.size+1+1,0,none⟩) (by show _≠w.heap.size+1+1;omega) _,h.bz.far (p:=⟨w.heap.size+1+1,0,none⟩) (by show _≠w.heap.size+1+1;omega) _,?_⟩;have:=h.bo.set 0 q;simpa using this
theorem PO.putF (h:PO ts td w s0 s1 vv fv W) (q:Value):PO ts td w s0 s1 vv q (W.setCell ⟨w.heap.size+1+1,1,none⟩ q):=by
 refine⟨h.e.set (by show w.heap.size<=w.heap.size+1+1;omega) _,h.bs.far (p:=⟨w.heap.size+1+1,1,none⟩) (by show _≠w.heap.size+1+1;omega) _,h.bz.far (p:=⟨w.heap.size+1+1,1,none⟩) (by show _≠w.heap.size+1+1;omega) _,?_⟩;have:=h.bo.set 1 q;simpa using this
end
theorem mh {w:World} {P:Nat->Prop} {A:Option Addr} {n c:Nat} {ls:List Fc} (h:iU w P (.slice A n c) ls) (i:Nat) (hi:i<ls.length):
  ∃b o pv bv,A=some ⟨b,o,none⟩/\b<w.heap.size/\w.cell? ⟨b,o+i*3,none⟩=some (.string (ae ls[i].nm))/\w.cell? ⟨b,o+i*3+1,none⟩=some pv/\w.cell? ⟨b,o+i*3+2,none⟩=some bv/\jK w P pv ls[i].ps/\cP w P bv ls[i].body:=by
 obtain⟨A',c',hv,h⟩:=h;injection hv with h1 h2 h3;rcases h with h|⟨_,_,b,o,ha,_,hb,pv,bv,hc⟩
 ·subst h;simp at hi
 ·obtain⟨q0,q1,q2,q3,q4⟩:=hc i hi;exact⟨b,o,pv i,bv i,by rw[h1];exact ha,hb,q0,q1,q2,q3,q4⟩
theorem oN {w:World} {P:Nat->Prop} {A:Option Addr} {n c:Nat} {ls:List Vr} (h:iT w P (.slice A n c) ls) (i:Nat) (hi:i<ls.length):
  ∃b o,A=some ⟨b,o,none⟩/\b<w.heap.size/\w.cell? ⟨b,o+i*2,none⟩=some (.string (ae ls[i].nm))/\w.cell? ⟨b,o+i*2+1,none⟩=some (.int .i64 ls[i].sz):=by
 obtain⟨A',c',hv,h⟩:=h;injection hv with h1 h2 h3;rcases h with h|⟨_,_,b,o,ha,_,hb,hc⟩
 ·subst h;simp at hi
 ·exact⟨b,o,by rw[h1];exact ha,hb,(hc i hi).1,(hc i hi).2⟩
def QO (w:World) (P:Nat->Prop) (b:Nat):Prop:=(P b/\b<w.heap.size)\/w.heap.size+3<=b
theorem gN.far {tv tf:TypeId} {P:Nat->Prop} {w W:World} {vv fv:Value} {vs:List Vr} {fs:List FV} {b i:Nat} (h:gN tv tf (QO w P) W (w.heap.size+3) vv fv vs fs) (hb:w.heap.size<=b) (hb2:b<w.heap.size+3) (v:Value):gN tv tf (QO w P) (W.setCell ⟨b,i,none⟩ v) (w.heap.size+3) vv fv vs fs:=
 h.keepW (by simp[World.setCell]) fun k hk hlt=>Below.heap_setCell W ⟨b,i,none⟩ v k (by
  show k≠b
  rcases hk with hk|hk|hk<;>omega)
theorem uN {P:Nat->Prop} {a b c:World} (h:cV P a b) (k:cV P b c):cV P a c:=⟨aS h.1 k.1,fun x hP hx=>(k.2 x hP (an hx h.1)).trans (h.2 x hP hx)⟩
theorem um {P:Nat->Prop} {w W:World} {b i:Nat} (v:Value) (hb:w.heap.size<=b) (hb2:b<w.heap.size+3):cV (QO w P) W (W.setCell ⟨b,i,none⟩ v):=
 ⟨by simp[World.setCell],fun k hk _=>Below.heap_setCell W ⟨b,i,none⟩ v k (by
  show k≠b
  rcases hk with hk|hk<;>omega)⟩
end
end Go.Proofs.YtelplgkppalmfaaGreatDoor
