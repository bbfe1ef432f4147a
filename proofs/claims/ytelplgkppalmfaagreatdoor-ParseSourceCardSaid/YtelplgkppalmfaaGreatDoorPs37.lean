/-
  Parts of the proof: VrA VrB VrC VrD VaLexZf.
-/
import Derived.Test.YtelplgkppalmfaaGreatDoorPs00
import Derived.Test.YtelplgkppalmfaaGreatDoorPs17
import Derived.Test.YtelplgkppalmfaaGreatDoorPs19
import Derived.Test.YtelplgkppalmfaaGreatDoorPs16
import Derived.Test.YtelplgkppalmfaaGreatDoorPs18
import Derived.Test.YtelplgkppalmfaaGreatDoorPs08
import Derived.Test.YtelplgkppalmfaaGreatDoorPs09
import Derived.Test.YtelplgkppalmfaaGreatDoorPs15
import Derived.Test.YtelplgkppalmfaaGreatDoorPs21
set_option maxRecDepth 100000
set_option maxHeartbeats 8000000
set_option linter.unusedVariables false
set_option linter.unusedSimpArgs false
namespace Go.Proofs.YtelplgkppalmfaaGreatDoor
open Go.Proofs.Tryz
section
open Go.RowKit
theorem qg: ∀(m:Nat) (x:Ex),x.wt<=m->x.wt<=1073741824-> ∀(P:Nat->Prop) (w:World) (A:Option Addr) (n c:Nat),bZ w P (.slice A n c) x.args->
  Calls prog 97 #[.agg #[.int .i64 x.k, .string (ae x.op), .string (ae x.nm), .string (ae x.tx), .int .i64 x.v, .slice A n c]] w fun e w'=>e= .returned (.int .i64 (x.dep:Int))/\al w w'
 |0,x,hm,_,_,_,_,_,_,_=>absurd hm (by have:=x.wt_eq;omega)
 |m+1,x,hm,hx,P,w,A,n,c,hR=>by
  have HD:=G (x.dep_eq);have hw:=x.wt_eq;have hmem: ∀y,y∈x.args->y.wt<=m:=fun y hy=>by have:=ei hy;omega
  have hdl:=jv x.args;have hnl:=ed x.args;have HIH:=G (qg m);obtain⟨k,op,nm,tx,v,xs⟩:=x;simp only[Ex.k,Ex.op,Ex.nm,Ex.tx,Ex.v,Ex.args]at*;obtain⟨A',c',hv,hf⟩:=hR.form;injection hv with hv1 hv2 hv3;subst hv1 hv2 hv3;have HR:=G hR;obtain⟨N,hN⟩: ∃N,xs.length=N:=⟨_,rfl⟩
  rw[hN]at HR;have HE0:=G (O w (.cells #[.int .i64 k, .string (ae op), .string (ae nm), .string (ae tx), .int .i64 v, .slice A N c] 49));have HB0:=G (ai w 49 #[.int .i64 k, .string (ae op), .string (ae nm), .string (ae tx), .int .i64 v, .slice A N c]);clear hR hf;rw[hN];have c0:=HB0.out.cell;go_enter func97,ntmps97;go_wp2_with fail
  go_loopw [3,4] (fun vd vi wr=> ∃(j:Nat),vi= .int .i64 (j:Int)/\j<=N/\vd= .int .i64 (eh (xs.take j):Int)/\Hid (al w wr)/\Hid (aT wr w.heap.size 49 #[.int .i64 k, .string (ae op), .string (ae nm), .string (ae tx), .int .i64 v, .slice A N c])) (fun _ vi _=>N-(intOf vi).toNat)
  case atStart=>exact⟨0,rfl,aB _,by simp[eh],HE0,HB0⟩
  case round=>
   clear c0 HE0 HB0;obtain⟨j,rfl,hj,rfl,HX,HB⟩:=hrel;have c0:=HB.out.cell;have hdj:eh (xs.take j)<=1073741824:=by
    have:=jX (xs.take j) (xs.drop j);rw[bN]at this;omega
   by_cases hlt:j<N
   ·have hlt':(j:Int)<N:=by omega
    have hjl:j<xs.length:=by omega
    obtain⟨b,o,a,rfl,hb,hP,h0,h1,h2,h3,h4,h5,hRa⟩:=HR.out.at_ j hjl;have HS:=G (ka hjl);have hyw:=ei (aE hjl);have hym:=hmem _ (aE hjl);generalize xs[j]=y at*;have e0:=(HX.out.cell b _ hb).trans h0;have e1:=(HX.out.cell b _ hb).trans h1;have e2:=(HX.out.cell b _ hb).trans h2;have e3:=(HX.out.cell b _ hb).trans h3;have e4:=(HX.out.cell b _ hb).trans h4;have e5:=(HX.out.cell b _ hb).trans h5;obtain⟨B,d,rfl,_⟩:=hRa.form;have HC:=G (HIH.out y hym (by omega) P wr B _ d (hRa.keep (.of_ext HX.out) (Q:=P) (fun b hb _=>hb)));have hdy:=y.dep_le;clear h0 h1 h2 h3 h4 h5 hRa;go_wp2_with (go_at_call 97;refine HC.out.mono ?_;rintro e w3 ⟨rfl,hE⟩;have HY:=G (HX.out.trans hE);have HB3:=G (HB.out.ext hE);clear hE HC);go_roundw
    case rel=>exact⟨j+1,by go_num,by omega,by rw[HS.out];congr 1;omega,HY,HB3⟩
    case measure=>simp[intOf];omega
   ·have hlt': ¬(j:Int)<N:=by omega
    have hjN:j=N:=by omega
    subst hjN;have HQ:=G (show eh (xs.take j)=eh xs by rw[<-hN,bE]);rw[HQ.out]at hdj⊢;have hwr:IntKind.i64.wrap ((eh xs:Int)+1)=eh xs+1:=by simp[IntKind.wrap,IntKind.signed,IntKind.bits];omega
    clear hN;go_wp2_with fail;go_ret;exact⟨by rw[HD.out];rfl,HX.out⟩
theorem nX: ∀(k:Nat) (xs:List St),fQ xs<k->k<=1000000001-> ∀(P:Nat->Prop) (w:World) (u:Value),cP w P u xs->Calls prog 48 #[u] w fun e w'=>e= .returned (.int .i64 (dU xs:Int))/\al w w'
 |0,xs,h,_,_,_,_,_=>absurd h (bK _)
 |k+1,xs,h,hk,P,w,u,hu=>by
  have HIH:=G (nX k);have HMW:=G (fun(x:St) (hx:x∈xs)=>show gv x.ex+fQ x.body+fQ x.els<k by have:=dC hx;have:=x.wt_eq;omega);have hds:=gX xs;have hnl:=eX xs;obtain⟨A,c,rfl,_⟩:=hu.form;obtain⟨n,hn⟩: ∃n,xs.length=n:=⟨_,rfl⟩
  rw[hn]at hu hnl;rw[hn];have HN:=G hn;have HR:=G hu
  have HDT:=G (fun j=>show dU (xs.take j)<=dU xs by
   have:=jg (xs.take j) (xs.drop j);rw[bN]at this
   omega)
  clear hu hn;go_enter func48,ntmps48;go_wp2_with fail
  go_loopw [3,4] (fun vo vi wr=> ∃(j:Nat),vi= .int .i64 (j:Int)/\vo= .int .i64 (dU (xs.take j):Int)/\j<=n/\Hid (al w wr)) (fun vo vi _=>n-(intOf vi).toNat)
  case atStart=>exact⟨0,rfl,by simp[dU],aB _,G (aG w)⟩
  case round=>
   obtain⟨j,rfl,rfl,hj,HX⟩:=hrel;have hdj:=HDT.out j;by_cases hlt:j<n
   ·have hlt':(j:Int)<n:=by omega
    have hjl:j<xs.length:=by have:=HN.out;omega
    obtain⟨b,o,a,g,z,rfl,hb,hP,h0,h1,h2,h3,h4,hRa,hRb,hRc⟩:=HR.out.at_ j hjl;have hbl:b<wr.heap.size:=an hb HX.out.size;have HS:=G (om hjl);have hmw:=HMW.out _ (aE hjl);have HDE:=G (xs[j].dep_eq);generalize xs[j]=x at*;have e2:=(HX.out.cell b _ hb).trans h2;have e3:=(HX.out.cell b _ hb).trans h3;have e4:=(HX.out.cell b _ hb).trans h4;obtain⟨A2,c2,rfl,_⟩:=hRa.form;obtain⟨B2,d2,rfl,_⟩:=hRb.form;obtain⟨C2,i2,rfl,_⟩:=hRc.form;have HRa:=G hRa;have HC1:=G (fun(W:World) (h:al wr W)=>HIH.out x.body (by omega) (by omega) P W _ (hRb.keep (.of_ext (HX.out.trans h)) (fun b hb _=>hb)));have HC2:=G (fun(W:World) (h:al wr W)=>HIH.out x.els (by omega) (by omega) P W _ (hRc.keep (.of_ext (HX.out.trans h)) (fun b hb _=>hb)));have hd1:=gX x.body;have hd2:=gX x.els;have hd3:=jv x.ex;clear h0 h1 h2 h3 h4 hRa hRb hRc;go_wp2_with fail;refine am 13 12 [(5,fun v=>v= .int .i64 (dU x.body:Int),fun _ _=>True),(11,fun v=>v= .int .i64 (dU x.els:Int),fun _ _=>True)] mixed (by kernel_rfl) ⟨fun _ _ _ _ _=>trivial,fun _ _ _ _ _=>trivial,trivial⟩ ?_;repeat (refine sx ?_ (fun w1 hU=> ?_) ?_;rotate_left;(focus have g3:=(hU.un.cell b _ hbl).trans e3;clear hU;go_simp<;>with_reducible rfl);simp only[bf,be,bc,a_,a8])
    refine so (fun w6 hU hp K hK=> ?_) ?_
    ·have hc:=HC1.out w6 hU.un;clear hp hU;go_simp;refine hc.mono ?_;rintro e w7 ⟨rfl,hE⟩;exact hK _ _ hE rfl trivial
    rintro _ rfl;simp only[bf,be,bc,a_,a8];repeat (refine sx ?_ (fun w1 hU=> ?_) ?_;rotate_left;(focus have g4:=(hU.un.cell b _ hbl).trans e4;clear hU;go_simp<;>with_reducible rfl);simp only[bf,be,bc,a_,a8])
    refine so (fun w6 hU hp K hK=> ?_) ?_
    ·have hc:=HC2.out w6 hU.un;clear hp hU;go_simp;refine hc.mono ?_;rintro e w7 ⟨rfl,hE⟩;exact hK _ _ hE rfl trivial
    rintro _ rfl;simp only[bf,be,bc,a_,a8];repeat (refine sx ?_ (fun w1 hU=> ?_) ?_;rotate_left;(focus go_simp<;>with_reducible rfl);simp only[bf,be,bc,a_,a8])
    intro w8 hw8 hp;clear hp;simp only[ab,ap];have HX8:=G (HX.out.trans hw8.un);have HW8:=G hw8.un;clear hw8;have e2':=(HW8.out.cell b _ hbl).trans e2;obtain⟨q,hq⟩: ∃q,max (dU x.body) (dU x.els)=q:=⟨_,rfl⟩
    have hql:q<=1000000001:=by omega
    have hqi:max (dU x.body:Int) (dU x.els:Int)=(q:Int):=by omega
    obtain⟨n2,hn2⟩: ∃n2,x.ex.length=n2:=⟨_,rfl⟩
    have HN2:=G hn2;have hnl2:=ed x.ex;rw[hn2]at hnl2 e2';rw[hqi];have HQ8:=G hq;have HR2:=G (HRa.out.keep (.of_ext HX8.out) (Q:=P) (fun _ hb _=>hb));have HW:=G (fun y (hy:y∈x.ex)=>show y.wt<=gv x.ex by have:=ei hy;omega);have hW0:=HW8;clear hn2 hq e2 hqi HW8;go_wp2_with fail
    go_loopw [5,6] (fun vd vi wr'=> ∃(i:Nat),vi= .int .i64 (i:Int)/\i<=n2/\vd= .int .i64 ((max q (eh (x.ex.take i)):Nat):Int)/\Hid (al w wr')/\Hid (al w8 wr')) (fun _ vi _=>n2-(intOf vi).toNat)
    case atStart=>exact⟨0,rfl,aB _,by simp[eh],HX8,G (aG _)⟩
    case round=>
     obtain⟨i,rfl,hi,rfl,HX2,HZ2⟩:=hrel;have hdi:=oo x.ex i;by_cases hlt2:i<n2
     ·have hlt3:(i:Int)<n2:=by omega
      have hil:i<x.ex.length:=by have:=HN2.out;omega
      obtain⟨b2,o2,a2,hA,hb2,hP2,p0,p1,p2,p3,p4,p5,hRy⟩:=HR2.out.at_ i hil
      cases hA;have hS:=ka hil;have hyw:=HW.out _ (aE hil);generalize x.ex[i]=y at*;have HS2:=G hS;have q2:=(HZ2.out.cell b _ (an hbl (bJ hW0.out))).trans e2';have q0:=(HZ2.out.cell b2 _ hb2).trans p0;have q1:=(HZ2.out.cell b2 _ hb2).trans p1;have q2':=(HZ2.out.cell b2 _ hb2).trans p2;have q3:=(HZ2.out.cell b2 _ hb2).trans p3;have q4:=(HZ2.out.cell b2 _ hb2).trans p4;have q5:=(HZ2.out.cell b2 _ hb2).trans p5;obtain⟨D,d,rfl,_⟩:=hRy.form;have HC:=G (qg _ y (ag _) (by omega) P wr D _ d (hRy.keep (.of_ext HZ2.out) (Q:=P) (fun _ hb _=>hb)));have hdy:=y.dep_le;clear hS p0 p1 p2 p3 p4 p5 hRy;go_wp2_with (go_at_call 97;refine HC.out.mono ?_;rintro e w3 ⟨rfl,hE⟩;have HY:=G (HX2.out.trans hE);have HZ:=G (HZ2.out.trans hE);clear hE HC);go_roundw
      case rel=>exact⟨i+1,by go_num,by omega,by rw[HS2.out];congr 1;omega,HY,HZ⟩
      case measure=>simp[intOf];omega
     ·have hlt3: ¬(i:Int)<n2:=by omega
      have HQ2:=G (show eh (x.ex.take i)=eh x.ex by rw[aK (by have:=HN2.out;omega)]);rw[HQ2.out]at hdi⊢;obtain⟨dd,hdd⟩: ∃dd,max q (eh x.ex)=dd:=⟨_,rfl⟩
      have hdn:dd+1=x.dep:=by rw[HDE.out,HQ8.out,<-hdd];omega
      rw[hdd];have hwr:IntKind.i64.wrap ((dd:Int)+1)=dd+1:=by simp[IntKind.wrap,IntKind.signed,IntKind.bits];omega
      have q2:=(HZ2.out.cell b _ (an hbl (bJ hW0.out))).trans e2';have HDN:=G hdn;clear hdd hdn;go_wp2_with fail;go_roundw
      case rel=>exact⟨j+1,by go_num,by rw[HS.out,<-HDN.out];congr 1;omega,by omega,HX2⟩
      case measure=>simp[intOf];omega
   ·have hlt': ¬(j:Int)<n:=by omega
    have HQ:=G (show dU (xs.take j)=dU xs by rw[aK (by have:=HN.out;omega)]);go_wp2_with fail;go_ret;exact⟨by rw[HQ.out];rfl,HX.out⟩
end
section
open Go.RowKit
theorem oM (l:List UInt8) (hl:l.length<=1073741824) (w:World):Calls prog 132 #[.string (ae l)] w fun e w'=>e= .returned (.bool (kA l))/\al w w':=by
 have hsz:(ae l).size=l.length:=aM l;have HE0:=G (aG w);go_enter func132,ntmps132;go_wp2_with fail
 go_loopw [3] (fun vi wr=> ∃j:Nat,vi= .int .i64 (j:Int)/\j<=l.length/\Hid ((l.take j).all rs=true)/\Hid (al w wr)) (fun vi _=>l.length-(intOf vi).toNat)
 case atStart=>exact⟨0,rfl,aB _,G (by simp),HE0⟩
 case round=>
  obtain⟨j,rfl,hj,HA,HX⟩:=hrel;by_cases hlt:j<l.length
  ·have hjs:j<(ae l).size:=by rw[aM];exact hlt
   have hg:=fC l j hjs;have hlt':(j:Int)<l.length:=by omega
   have HS:=G (gp rs hlt);have HBad:=G (fun h=>rY hlt h);generalize l[j]'hlt=c at*;have HC:=G (r5 c);have hc256:(c.toNat:Int)<256:=by have:=c.toNat_lt;omega
   have HJ:=G (fun(h:rs c=true)=>show(l.take (j+1)).all rs=true by rw[HS.out,HA.out,h];rfl);clear HS HA;by_cases h32:32<=(c.toNat:Int)/\(c.toNat:Int)<=126
   ·obtain⟨a1,a2⟩:=h32;have HJ2:=G (HJ.out (by rw[HC.out,decide_eq_true a1,decide_eq_true a2];rfl));clear HJ HC;go_wp2_with fail;go_roundw
    case rel=>exact⟨j+1,by go_num,by omega,HJ2,HX⟩
    case measure=>simp[intOf];omega
   ·cases h10:((c.toNat:Int)==10)with
    |true=>
     have HJ2:=G (HJ.out (by rw[HC.out,h10];simp));have h10n:((c.toNat:Int) !=10)=false:=by rw[bne,h10];rfl
     have hn:(c.toNat:Int)<32:=by rw[beq_iff_eq]at h10;omega
     clear HJ HC h32;go_wp2_with fail;go_roundw
     case rel=>exact⟨j+1,by go_num,by omega,HJ2,HX⟩
     case measure=>simp[intOf];omega
    |false=>
     have h10n:((c.toNat:Int) !=10)=true:=by rw[bne,h10];rfl
     cases h9:((c.toNat:Int)==9)with
     |true=>
      have HJ2:=G (HJ.out (by rw[HC.out,h9];simp));have h9n:((c.toNat:Int) !=9)=false:=by rw[bne,h9];rfl
      have hn:(c.toNat:Int)<32:=by rw[beq_iff_eq]at h9;omega
      clear HJ HC h32;go_wp2_with fail;go_roundw
      case rel=>exact⟨j+1,by go_num,by omega,HJ2,HX⟩
      case measure=>simp[intOf];omega
     |false=>
      have h9n:((c.toNat:Int) !=9)=true:=by rw[bne,h9];rfl
      cases h0:((c.toNat:Int)==0)with
      |true=>
       have HJ2:=G (HJ.out (by rw[HC.out,h0];simp));have h0n:((c.toNat:Int) !=0)=false:=by rw[bne,h0];rfl
       have hn:(c.toNat:Int)<32:=by rw[beq_iff_eq]at h0;omega
       clear HJ HC h32;go_wp2_with fail;go_roundw
       case rel=>exact⟨j+1,by go_num,by omega,HJ2,HX⟩
       case measure=>simp[intOf];omega
      |false=>
       have h0n:((c.toNat:Int) !=0)=true:=by rw[bne,h0];rfl
       have HF:=G (HBad.out (by rw[HC.out,h10,h9,h0,<-jz,decide_eq_false h32];rfl));clear HJ HC;by_cases hn:(c.toNat:Int)<32
       ·clear h32;go_wp2_with fail;go_ret;exact⟨by rw[HF.out];rfl,HX.out⟩
       ·have hn2:126<(c.toNat:Int):=by omega
        clear h32;go_wp2_with fail;go_ret;exact⟨by rw[HF.out];rfl,HX.out⟩
  ·have hlt': ¬(j:Int)<l.length:=by omega
   have hj':j=l.length:=by omega
   subst hj';have HQ:=G (show l.all rs=true by have:=HA.out;rwa [bE]at this);clear HA;by_cases h128:l.length<=128
   ·have h128':(l.length:Int)<=128:=by omega
    go_wp2_with fail;go_ret;exact⟨by unfold kA;rw[HQ.out,decide_eq_true h128];rfl,HX.out⟩
   ·have h128': ¬(l.length:Int)<=128:=by omega
    go_wp2_with fail;go_ret;exact⟨by unfold kA;rw[decide_eq_false h128,cH];rfl,HX.out⟩
end
section
open Go.RowKit
def ec:Code->List Code
 | .seq a b=>ec a++ec b
 | .block _ a=>ec a
 | .cond _ a b=>ec a++ec b
 | .loop a=>[.loop a]
 | _=>[]
def jI (xs:List Ex):Prop:= ∀y,y∈xs-> ∀(P:Nat->Prop) (w:World) (A:Option Addr) (n c:Nat),bZ w P (.slice A n c) y.args->
  Calls prog 96 #[.agg #[.int .i64 y.k, .string (ae y.op), .string (ae y.nm), .string (ae y.tx), .int .i64 y.v, .slice A n c]] w fun e w'=>e= .returned (.bool y.ok)/\al w w'
theorem iQ {l:List Ex} {j:Nat} (h:j<l.length):iR (l.take (j+1))=(iR (l.take j)&&l[j].ok):=by
 rw[iH,iH,aF h,dV,fy,kM,cL]
theorem oZ {l:List Ex} {j:Nat} (h:iR (l.take j)=false):iR l=false:=by
 rw[iH]at*;rw[<-bN j l,dV,h,eq]
theorem ic (px pw:Nat) (k v wv lo hi:Int) (op nm tx wop wnm wtx:List UInt8) (A:Option Addr) (n c:Nat) (b:Bool) (w W:World) (P:Nat->Prop) (xs:List Ex) (hI:jI xs) (hE:al w W) (hne:px≠pw) (hn:n<=1073741824) (hB:aT W px 49 #[.int .i64 k, .string (ae op), .string (ae nm), .string (ae tx), .int .i64 v, .slice A n c]) (hW:aT W pw 49 #[.int .i64 k, .string (ae wop), .string (ae wnm), .string (ae wtx), .int .i64 wv, .slice none 0 0]) (hR:bZ W P (.slice A n c) xs)
  (R:Bool) (hQ:(b&&iR xs&&(op==wop&&nm==wnm&&tx==wtx&&v==wv)&&(decide (lo<=n)&&decide ((n:Int)<=hi)))=R) (K:Act->World->Prop)
  (hK: ∀a w',Code.wp prog (mn 31 (Tryz.f96.body.getD .skip)) (bodyPost prog Tryz.f96 fun e w'=>e= .returned (.bool R)/\al w w') a w'->K a w') (u0 u2 u8 u9 u10 u11 u12 u13 u14 u15 u16 u17 u18 u19 u20 u21 u22 u23 u24 u25 u26 u27 u28 u29 u30 u31 u32 u33 u34 u35 u36 u37 u38 u39 u40 u41 u42 u43 u44 u45 u46 u47 u48 u49 u50 u51 u52 u53 u54 u55 u56 u57 u58 u59 u60 u61 u62 u63 u64 u65 u66 u67 u68 u69 u70 u71 u72 u73 u74 u75 u76 u77 u78 u79 u80 u81 u82 u83 u84 u85 u86 u87 u88 u89 u90 u91 u92 u93 u94 u95 u96 u97 u98 u99 u100 u101 u102 u103 u104 u105 u106 u107 u108 u109 u110 u111 u112 u113 u114 u115 u116 u117 u118 u119 u120 u121 u122 u123 u124 u125 u126 u127 u128 u129 u130:Value):
  Code.wp prog ((ec (Tryz.f96.body.getD .skip)).getD 0 .skip) (Exit.inBlock 1 (Exit.then K (bodyPost prog Tryz.f96 fun e w'=>e= .returned (.bool R)/\al w w'))) {tmps:= #[u0, .pointer (some ⟨px,0,none⟩),u2, .pointer (some ⟨pw,0,none⟩), .int .i64 lo, .int .i64 hi, .bool b, .int .i64 0,u8,u9,u10,u11,u12,u13,u14,u15,u16,u17,u18,u19,u20,u21,u22,u23,u24,u25,u26,u27,u28,u29,u30,u31,u32,u33,u34,u35,u36,u37,u38,u39,u40,u41,u42,u43,u44,u45,u46,u47,u48,u49,u50,u51,u52,u53,u54,u55,u56,u57,u58,u59,u60,u61,u62,u63,u64,u65,u66,u67,u68,u69,u70,u71,u72,u73,u74,u75,u76,u77,u78,u79,u80,u81,u82,u83,u84,u85,u86,u87,u88,u89,u90,u91,u92,u93,u94,u95,u96,u97,u98,u99,u100,u101,u102,u103,u104,u105,u106,u107,u108,u109,u110,u111,u112,u113,u114,u115,u116,u117,u118,u119,u120,u121,u122,u123,u124,u125,u126,u127,u128,u129,u130],defers:=[]} W:=by
 have hnl:=hR.len;have HX:=G hE;have HN:=G hnl;have HR:=G hR;have HI:=G hI;have HQ:=G hQ;have HB:=G hB;have HW:=G hW;clear hE hnl hR hI hQ hB hW
 conv=>arg 2;whnf
 conv=>arg 4;zeta
 go_loopw [6,7] (fun vb vi wr=> ∃(j:Nat) (q:Bool),vi= .int .i64 (j:Int)/\vb= .bool q/\j<=n/\Hid ((b&&iR (xs.take j))=q)/\Hid (al W wr)) (fun _ vi _=>n-(intOf vi).toNat)
 case atStart=>exact⟨0,b,rfl,rfl,aB _,G (by simp[iR]),G (aG W)⟩
 case round=>
  obtain⟨j,q,rfl,rfl,hj,HA,HZ⟩:=hrel;have f1:=(HB.out.ext HZ.out).cell;by_cases hlt:j<n
  ·have hlt':(j:Int)<n:=by omega
   cases q with
   |true=>
    have hjl:j<xs.length:=by have:=HN.out;omega
    obtain⟨g,o,a,rfl,hg,hP,h0,h1,h2,h3,h4,h5,hRa⟩:=HR.out.at_ j hjl;have HS:=G (iQ hjl);have HIx:=HI.out _ (aE hjl);generalize xs[j]=y at*;have e0:=(HZ.out.cell g _ hg).trans h0;have e1:=(HZ.out.cell g _ hg).trans h1;have e2:=(HZ.out.cell g _ hg).trans h2;have e3:=(HZ.out.cell g _ hg).trans h3;have e4:=(HZ.out.cell g _ hg).trans h4;have e5:=(HZ.out.cell g _ hg).trans h5;obtain⟨D,d,rfl,_⟩:=hRa.form;have HC:=G (HIx P wr D _ d (hRa.keep (.of_ext HZ.out) (Q:=P) (fun _ hb _=>hb)));have HY:=G (show(b&&iR (xs.take (j+1)))=y.ok by rw[HS.out,<-Bool.and_assoc,HA.out,cK]);generalize y.ok=yo at*;clear h0 h1 h2 h3 h4 h5 hRa HIx HS;go_wp2_with (go_at_call 96;refine HC.out.mono ?_;rintro e w3 ⟨rfl,hE⟩;have HZ3:=G (HZ.out.trans hE);clear hE HC);go_roundw
    case rel=>exact⟨j+1,_,by go_num,rfl,by omega,HY,HZ3⟩
    case measure=>simp[intOf];omega
   |false=>
    have e0:R=false:=by
     rw[<-HQ.out];have:=HA.out
     cases b with
     |false=>simp
     |true=>rw[oZ (by simpa using this)];simp
    clear HQ;go_wp2_with fail
    conv=>arg 2;whnf
    go_wp2_with fail;go_ret;exact⟨by first|rfl|(rw[e0];rfl)|(exact(congrArg (fun q=>Ending.returned (.bool q)) (decide_eq_true h6)).trans (by rw[e0]))|(exact(congrArg (fun q=>Ending.returned (.bool q)) (decide_eq_false (by omega))).trans (by rw[e0]))|(exact(congrArg (fun q=>Ending.returned (.bool q)) (decide_eq_false (by omega)))),(HX.out.trans HZ.out)⟩
  ·have hlt': ¬(j:Int)<n:=by omega
   have hq:(b&&iR xs)=q:=by
    have:=HA.out;rwa [aK (by have:=HN.out;omega)]at this
   rw[hq]at HQ;have f3:=(HW.out.ext HZ.out).cell;clear HA hq
   cases q with
   |false=>
    have e0:R=false:=by rw[<-HQ.out];simp
    clear HQ;go_wp2_with fail
    conv=>arg 2;whnf
    go_wp2_with fail;go_ret;exact⟨by first|rfl|(rw[e0];rfl)|(exact(congrArg (fun q=>Ending.returned (.bool q)) (decide_eq_true h6)).trans (by rw[e0]))|(exact(congrArg (fun q=>Ending.returned (.bool q)) (decide_eq_false (by omega))).trans (by rw[e0]))|(exact(congrArg (fun q=>Ending.returned (.bool q)) (decide_eq_false (by omega)))),(HX.out.trans HZ.out)⟩
   |true=>
    cases h1:(op==wop)with
    |false=>(have e0:R=false:=(by rw[<-HQ.out,h1];simp);go_wp2_with fail;(conv=>arg 2;whnf);go_wp2_with fail;go_ret;exact⟨by first|rfl|(rw[e0];rfl)|(exact(congrArg (fun q=>Ending.returned (.bool q)) (decide_eq_true h6)).trans (by rw[e0]))|(exact(congrArg (fun q=>Ending.returned (.bool q)) (decide_eq_false (by omega))).trans (by rw[e0]))|(exact(congrArg (fun q=>Ending.returned (.bool q)) (decide_eq_false (by omega)))),(HX.out.trans HZ.out)⟩)
    |true=>
    cases h2:(nm==wnm)with
    |false=>(have e0:R=false:=(by rw[<-HQ.out,h1,h2];simp);go_wp2_with fail;(conv=>arg 2;whnf);go_wp2_with fail;go_ret;exact⟨by first|rfl|(rw[e0];rfl)|(exact(congrArg (fun q=>Ending.returned (.bool q)) (decide_eq_true h6)).trans (by rw[e0]))|(exact(congrArg (fun q=>Ending.returned (.bool q)) (decide_eq_false (by omega))).trans (by rw[e0]))|(exact(congrArg (fun q=>Ending.returned (.bool q)) (decide_eq_false (by omega)))),(HX.out.trans HZ.out)⟩)
    |true=>
    cases h3:(tx==wtx)with
    |false=>(have e0:R=false:=(by rw[<-HQ.out,h1,h2,h3];simp);go_wp2_with fail;(conv=>arg 2;whnf);go_wp2_with fail;go_ret;exact⟨by first|rfl|(rw[e0];rfl)|(exact(congrArg (fun q=>Ending.returned (.bool q)) (decide_eq_true h6)).trans (by rw[e0]))|(exact(congrArg (fun q=>Ending.returned (.bool q)) (decide_eq_false (by omega))).trans (by rw[e0]))|(exact(congrArg (fun q=>Ending.returned (.bool q)) (decide_eq_false (by omega)))),(HX.out.trans HZ.out)⟩)
    |true=>
    cases h4:(v==wv)with
    |false=>(have e0:R=false:=(by rw[<-HQ.out,h1,h2,h3,h4];simp);go_wp2_with fail;(conv=>arg 2;whnf);go_wp2_with fail;go_ret;exact⟨by first|rfl|(rw[e0];rfl)|(exact(congrArg (fun q=>Ending.returned (.bool q)) (decide_eq_true h6)).trans (by rw[e0]))|(exact(congrArg (fun q=>Ending.returned (.bool q)) (decide_eq_false (by omega))).trans (by rw[e0]))|(exact(congrArg (fun q=>Ending.returned (.bool q)) (decide_eq_false (by omega)))),(HX.out.trans HZ.out)⟩)
    |true=>
    by_cases h5:lo<=n
    ·by_cases h6:(n:Int)<=hi
     ·have e0:R=true:=by rw[<-HQ.out,h1,h2,h3,h4,decide_eq_true h5,decide_eq_true h6];rfl
      clear HQ;go_wp2_with fail
      conv=>arg 2;whnf
      go_wp2_with fail;go_ret;exact⟨by first|rfl|(rw[e0];rfl)|(exact(congrArg (fun q=>Ending.returned (.bool q)) (decide_eq_true h6)).trans (by rw[e0]))|(exact(congrArg (fun q=>Ending.returned (.bool q)) (decide_eq_false (by omega))).trans (by rw[e0]))|(exact(congrArg (fun q=>Ending.returned (.bool q)) (decide_eq_false (by omega)))),(HX.out.trans HZ.out)⟩
     ·have e0:R=false:=by rw[<-HQ.out,decide_eq_false h6];simp
      clear HQ;go_wp2_with fail
      conv=>arg 2;whnf
      go_wp2_with fail;go_ret;exact⟨by first|rfl|(rw[e0];rfl)|(exact(congrArg (fun q=>Ending.returned (.bool q)) (decide_eq_true h6)).trans (by rw[e0]))|(exact(congrArg (fun q=>Ending.returned (.bool q)) (decide_eq_false (by omega))).trans (by rw[e0]))|(exact(congrArg (fun q=>Ending.returned (.bool q)) (decide_eq_false (by omega)))),(HX.out.trans HZ.out)⟩
    ·have e0:R=false:=by rw[<-HQ.out,decide_eq_false h5];simp
     clear HQ;go_wp2_with fail
     conv=>arg 2;whnf
     go_wp2_with fail;go_ret;exact⟨by first|rfl|(rw[e0];rfl)|(exact(congrArg (fun q=>Ending.returned (.bool q)) (decide_eq_true h6)).trans (by rw[e0]))|(exact(congrArg (fun q=>Ending.returned (.bool q)) (decide_eq_false (by omega))).trans (by rw[e0]))|(exact(congrArg (fun q=>Ending.returned (.bool q)) (decide_eq_false (by omega)))),(HX.out.trans HZ.out)⟩
end
section
open Go.RowKit
theorem ze (n:Nat):(decide (0<=(n:Int))&&decide ((n:Int)<=0))=(n==0):=by rw[db];simp
theorem zd (n:Nat):(decide (1<=(n:Int))&&decide ((n:Int)<=1))=(n==1):=by rw[db];simp;omega
theorem zc (n:Nat):(decide (2<=(n:Int))&&decide ((n:Int)<=2))=(n==2):=by rw[db];simp;omega
theorem za (n:Nat):(decide (0<=(n:Int))&&decide ((n:Int)<=4))=decide (n<=4):=by rw[db];simp;omega
theorem zl (op nm tx:List UInt8) (v:Int) (w:World) (A:Option Addr) (n c:Nat) (hn:n<=1073741824) (P:Nat->Prop) (xs:List Ex) (hI:jI xs) (hRd:bZ w P (.slice A n c) xs) (R:Bool)
  (hQ:((decide (0<=v)&&decide (v<=2147483647))&&iR xs&&(op==[]&&nm==[]&&tx==[]&&v==v)&&(decide (0<=(n:Int))&&decide ((n:Int)<=0)))=R):
  Calls prog 96 #[.agg #[.int .i64 1, .string (ae op), .string (ae nm), .string (ae tx), .int .i64 v, .slice A n c]] w fun e w'=>e= .returned (.bool R)/\al w w':=by
 have hne:w.heap.size≠w.heap.size+1:=by omega
 have HB:=G ((ai w 49 #[.int .i64 1, .string (ae op), .string (ae nm), .string (ae tx), .int .i64 v, .slice A n c]).ext (O _ (.cells #[.int .i64 1, .string ⟨#[]⟩, .string ⟨#[]⟩, .string ⟨#[]⟩, .int .i64 v, .slice none 0 0] 49)));have HW:=G (jj w (.cells #[.int .i64 1, .string (ae op), .string (ae nm), .string (ae tx), .int .i64 v, .slice A n c] 49) 49 #[.int .i64 1, .string ⟨#[]⟩, .string ⟨#[]⟩, .string ⟨#[]⟩, .int .i64 v, .slice none 0 0]);have HX:=G ((O w (.cells #[.int .i64 1, .string (ae op), .string (ae nm), .string (ae tx), .int .i64 v, .slice A n c] 49)).trans (O _ (.cells #[.int .i64 1, .string ⟨#[]⟩, .string ⟨#[]⟩, .string ⟨#[]⟩, .int .i64 v, .slice none 0 0] 49)));have HR:=G (hRd.keep (.of_ext HX.out) (Q:=P) (fun _ hb _=>hb));have HI:=G hI;clear hI hRd;by_cases h1:0<=v
 ·by_cases h2:v<=2147483647
  ·rw[show(decide (0<=v)&&decide (v<=2147483647))=true by simp[h1,h2]]at hQ;have HQ:=G hQ;clear hQ;go_enter func96,ntmps96;go_wp2_with fail;exact ic _ _ 1 v v 0 0 op nm tx [] [] [] A n c true _ _ P xs HI.out HX.out hne hn HB.out HW.out HR.out R HQ.out _ (by assumption) _ _ _ _ _ _ _ _ _ _ _ _ _ _ _ _ _ _ _ _ _ _ _ _ _ _ _ _ _ _ _ _ _ _ _ _ _ _ _ _ _ _ _ _ _ _ _ _ _ _ _ _ _ _ _ _ _ _ _ _ _ _ _ _ _ _ _ _ _ _ _ _ _ _ _ _ _ _ _ _ _ _ _ _ _ _ _ _ _ _ _ _ _ _ _ _ _ _ _ _ _ _ _ _ _ _ _ _ _ _ _ _ _ _ _ _ _ _ _ _ _ _ _ _ _
  ·rw[show(decide (0<=v)&&decide (v<=2147483647))=false by simp[h1,h2]]at hQ;have HQ:=G hQ;clear hQ;go_enter func96,ntmps96;go_wp2_with fail;exact ic _ _ 1 v v 0 0 op nm tx [] [] [] A n c false _ _ P xs HI.out HX.out hne hn HB.out HW.out HR.out R HQ.out _ (by assumption) _ _ _ _ _ _ _ _ _ _ _ _ _ _ _ _ _ _ _ _ _ _ _ _ _ _ _ _ _ _ _ _ _ _ _ _ _ _ _ _ _ _ _ _ _ _ _ _ _ _ _ _ _ _ _ _ _ _ _ _ _ _ _ _ _ _ _ _ _ _ _ _ _ _ _ _ _ _ _ _ _ _ _ _ _ _ _ _ _ _ _ _ _ _ _ _ _ _ _ _ _ _ _ _ _ _ _ _ _ _ _ _ _ _ _ _ _ _ _ _ _ _ _ _ _
 ·rw[show(decide (0<=v)&&decide (v<=2147483647))=false by simp[h1]]at hQ;have HQ:=G hQ;clear hQ;go_enter func96,ntmps96;go_wp2_with fail;exact ic _ _ 1 v v 0 0 op nm tx [] [] [] A n c false _ _ P xs HI.out HX.out hne hn HB.out HW.out HR.out R HQ.out _ (by assumption) _ _ _ _ _ _ _ _ _ _ _ _ _ _ _ _ _ _ _ _ _ _ _ _ _ _ _ _ _ _ _ _ _ _ _ _ _ _ _ _ _ _ _ _ _ _ _ _ _ _ _ _ _ _ _ _ _ _ _ _ _ _ _ _ _ _ _ _ _ _ _ _ _ _ _ _ _ _ _ _ _ _ _ _ _ _ _ _ _ _ _ _ _ _ _ _ _ _ _ _ _ _ _ _ _ _ _ _ _ _ _ _ _ _ _ _ _ _ _ _ _ _ _ _ _
theorem zk (op nm tx:List UInt8) (v:Int) (w:World) (A:Option Addr) (n c:Nat) (hn:n<=1073741824) (P:Nat->Prop) (xs:List Ex) (hI:jI xs) (hRd:bZ w P (.slice A n c) xs) (hl:tx.length<=1073741824) (R:Bool)
  (hQ:(kA tx&&iR xs&&(op==[]&&nm==[]&&tx==tx&&v==0)&&(decide (0<=(n:Int))&&decide ((n:Int)<=0)))=R):
  Calls prog 96 #[.agg #[.int .i64 2, .string (ae op), .string (ae nm), .string (ae tx), .int .i64 v, .slice A n c]] w fun e w'=>e= .returned (.bool R)/\al w w':=by
 have hne:w.heap.size≠w.heap.size+1:=by omega
 have HB:=G ((ai w 49 #[.int .i64 2, .string (ae op), .string (ae nm), .string (ae tx), .int .i64 v, .slice A n c]).ext (O _ (.cells #[.int .i64 2, .string ⟨#[]⟩, .string ⟨#[]⟩, .string (ae tx), .int .i64 0, .slice none 0 0] 49)));have HW:=G (jj w (.cells #[.int .i64 2, .string (ae op), .string (ae nm), .string (ae tx), .int .i64 v, .slice A n c] 49) 49 #[.int .i64 2, .string ⟨#[]⟩, .string ⟨#[]⟩, .string (ae tx), .int .i64 0, .slice none 0 0]);have HX:=G ((O w (.cells #[.int .i64 2, .string (ae op), .string (ae nm), .string (ae tx), .int .i64 v, .slice A n c] 49)).trans (O _ (.cells #[.int .i64 2, .string ⟨#[]⟩, .string ⟨#[]⟩, .string (ae tx), .int .i64 0, .slice none 0 0] 49)));have HR:=G (hRd.keep (.of_ext HX.out) (Q:=P) (fun _ hb _=>hb));have HI:=G hI;clear hI hRd;have HC:=G (oM tx hl);generalize kA tx=b at*;have HQ:=G hQ;clear hQ;go_enter func96,ntmps96;go_wp2_with (go_at_call 132;refine(HC.out _).mono ?_;rintro e w3 ⟨rfl,hE⟩;have HX3:=G (HX.out.trans hE);have HB3:=G (HB.out.ext hE);have HW3:=G (HW.out.ext hE);have HR3:=G (HR.out.keep (.of_ext hE) (Q:=P) (fun _ hb _=>hb));clear hE HC HX HB HW HR;have f3:=HB3.out.cell);exact ic _ _ 2 v 0 0 0 op nm tx [] [] tx A n c b _ _ P xs HI.out HX3.out hne hn HB3.out HW3.out HR3.out R HQ.out _ (by assumption) _ _ _ _ _ _ _ _ _ _ _ _ _ _ _ _ _ _ _ _ _ _ _ _ _ _ _ _ _ _ _ _ _ _ _ _ _ _ _ _ _ _ _ _ _ _ _ _ _ _ _ _ _ _ _ _ _ _ _ _ _ _ _ _ _ _ _ _ _ _ _ _ _ _ _ _ _ _ _ _ _ _ _ _ _ _ _ _ _ _ _ _ _ _ _ _ _ _ _ _ _ _ _ _ _ _ _ _ _ _ _ _ _ _ _ _ _ _ _ _ _ _ _ _ _
theorem zj (op nm tx:List UInt8) (v:Int) (w:World) (A:Option Addr) (n c:Nat) (hn:n<=1073741824) (P:Nat->Prop) (xs:List Ex) (hI:jI xs) (hRd:bZ w P (.slice A n c) xs) (hl:nm.length<=1073741824) (R:Bool)
  (hQ:(cn nm&&iR xs&&(op==[]&&nm==nm&&tx==[]&&v==0)&&(decide (0<=(n:Int))&&decide ((n:Int)<=0)))=R):
  Calls prog 96 #[.agg #[.int .i64 3, .string (ae op), .string (ae nm), .string (ae tx), .int .i64 v, .slice A n c]] w fun e w'=>e= .returned (.bool R)/\al w w':=by
 have hne:w.heap.size≠w.heap.size+1:=by omega
 have HB:=G ((ai w 49 #[.int .i64 3, .string (ae op), .string (ae nm), .string (ae tx), .int .i64 v, .slice A n c]).ext (O _ (.cells #[.int .i64 3, .string ⟨#[]⟩, .string (ae nm), .string ⟨#[]⟩, .int .i64 0, .slice none 0 0] 49)));have HW:=G (jj w (.cells #[.int .i64 3, .string (ae op), .string (ae nm), .string (ae tx), .int .i64 v, .slice A n c] 49) 49 #[.int .i64 3, .string ⟨#[]⟩, .string (ae nm), .string ⟨#[]⟩, .int .i64 0, .slice none 0 0]);have HX:=G ((O w (.cells #[.int .i64 3, .string (ae op), .string (ae nm), .string (ae tx), .int .i64 v, .slice A n c] 49)).trans (O _ (.cells #[.int .i64 3, .string ⟨#[]⟩, .string (ae nm), .string ⟨#[]⟩, .int .i64 0, .slice none 0 0] 49)));have HR:=G (hRd.keep (.of_ext HX.out) (Q:=P) (fun _ hb _=>hb));have HI:=G hI;clear hI hRd;have HC:=G (d7 nm hl);generalize cn nm=b at*;have HQ:=G hQ;clear hQ;go_enter func96,ntmps96;go_wp2_with (go_at_call 46;refine(HC.out _).mono ?_;rintro e w3 ⟨rfl,hE⟩;have HX3:=G (HX.out.trans hE);have HB3:=G (HB.out.ext hE);have HW3:=G (HW.out.ext hE);have HR3:=G (HR.out.keep (.of_ext hE) (Q:=P) (fun _ hb _=>hb));clear hE HC HX HB HW HR;have f3:=HB3.out.cell);exact ic _ _ 3 v 0 0 0 op nm tx [] nm [] A n c b _ _ P xs HI.out HX3.out hne hn HB3.out HW3.out HR3.out R HQ.out _ (by assumption) _ _ _ _ _ _ _ _ _ _ _ _ _ _ _ _ _ _ _ _ _ _ _ _ _ _ _ _ _ _ _ _ _ _ _ _ _ _ _ _ _ _ _ _ _ _ _ _ _ _ _ _ _ _ _ _ _ _ _ _ _ _ _ _ _ _ _ _ _ _ _ _ _ _ _ _ _ _ _ _ _ _ _ _ _ _ _ _ _ _ _ _ _ _ _ _ _ _ _ _ _ _ _ _ _ _ _ _ _ _ _ _ _ _ _ _ _ _ _ _ _ _ _ _ _
theorem zi (op nm tx:List UInt8) (v:Int) (w:World) (A:Option Addr) (n c:Nat) (hn:n<=1073741824) (P:Nat->Prop) (xs:List Ex) (hI:jI xs) (hRd:bZ w P (.slice A n c) xs) (hl:nm.length<=1073741824) (R:Bool)
  (hQ:(cn nm&&iR xs&&(op==[]&&nm==nm&&tx==[]&&v==0)&&(decide (1<=(n:Int))&&decide ((n:Int)<=1)))=R):
  Calls prog 96 #[.agg #[.int .i64 4, .string (ae op), .string (ae nm), .string (ae tx), .int .i64 v, .slice A n c]] w fun e w'=>e= .returned (.bool R)/\al w w':=by
 have hne:w.heap.size≠w.heap.size+1:=by omega
 have HB:=G ((ai w 49 #[.int .i64 4, .string (ae op), .string (ae nm), .string (ae tx), .int .i64 v, .slice A n c]).ext (O _ (.cells #[.int .i64 4, .string ⟨#[]⟩, .string (ae nm), .string ⟨#[]⟩, .int .i64 0, .slice none 0 0] 49)));have HW:=G (jj w (.cells #[.int .i64 4, .string (ae op), .string (ae nm), .string (ae tx), .int .i64 v, .slice A n c] 49) 49 #[.int .i64 4, .string ⟨#[]⟩, .string (ae nm), .string ⟨#[]⟩, .int .i64 0, .slice none 0 0]);have HX:=G ((O w (.cells #[.int .i64 4, .string (ae op), .string (ae nm), .string (ae tx), .int .i64 v, .slice A n c] 49)).trans (O _ (.cells #[.int .i64 4, .string ⟨#[]⟩, .string (ae nm), .string ⟨#[]⟩, .int .i64 0, .slice none 0 0] 49)));have HR:=G (hRd.keep (.of_ext HX.out) (Q:=P) (fun _ hb _=>hb));have HI:=G hI;clear hI hRd;have HC:=G (d7 nm hl);generalize cn nm=b at*;have HQ:=G hQ;clear hQ;go_enter func96,ntmps96;go_wp2_with (go_at_call 46;refine(HC.out _).mono ?_;rintro e w3 ⟨rfl,hE⟩;have HX3:=G (HX.out.trans hE);have HB3:=G (HB.out.ext hE);have HW3:=G (HW.out.ext hE);have HR3:=G (HR.out.keep (.of_ext hE) (Q:=P) (fun _ hb _=>hb));clear hE HC HX HB HW HR;have f3:=HB3.out.cell);exact ic _ _ 4 v 0 1 1 op nm tx [] nm [] A n c b _ _ P xs HI.out HX3.out hne hn HB3.out HW3.out HR3.out R HQ.out _ (by assumption) _ _ _ _ _ _ _ _ _ _ _ _ _ _ _ _ _ _ _ _ _ _ _ _ _ _ _ _ _ _ _ _ _ _ _ _ _ _ _ _ _ _ _ _ _ _ _ _ _ _ _ _ _ _ _ _ _ _ _ _ _ _ _ _ _ _ _ _ _ _ _ _ _ _ _ _ _ _ _ _ _ _ _ _ _ _ _ _ _ _ _ _ _ _ _ _ _ _ _ _ _ _ _ _ _ _ _ _ _ _ _ _ _ _ _ _ _ _ _ _ _ _ _ _ _
theorem zh (op nm tx:List UInt8) (v:Int) (w:World) (A:Option Addr) (n c:Nat) (hn:n<=1073741824) (P:Nat->Prop) (xs:List Ex) (hI:jI xs) (hRd:bZ w P (.slice A n c) xs) (hl:nm.length<=1073741824) (R:Bool)
  (hQ:(cn nm&&iR xs&&(op==[]&&nm==nm&&tx==[]&&v==0)&&(decide (0<=(n:Int))&&decide ((n:Int)<=4)))=R):
  Calls prog 96 #[.agg #[.int .i64 5, .string (ae op), .string (ae nm), .string (ae tx), .int .i64 v, .slice A n c]] w fun e w'=>e= .returned (.bool R)/\al w w':=by
 have hne:w.heap.size≠w.heap.size+1:=by omega
 have HB:=G ((ai w 49 #[.int .i64 5, .string (ae op), .string (ae nm), .string (ae tx), .int .i64 v, .slice A n c]).ext (O _ (.cells #[.int .i64 5, .string ⟨#[]⟩, .string (ae nm), .string ⟨#[]⟩, .int .i64 0, .slice none 0 0] 49)));have HW:=G (jj w (.cells #[.int .i64 5, .string (ae op), .string (ae nm), .string (ae tx), .int .i64 v, .slice A n c] 49) 49 #[.int .i64 5, .string ⟨#[]⟩, .string (ae nm), .string ⟨#[]⟩, .int .i64 0, .slice none 0 0]);have HX:=G ((O w (.cells #[.int .i64 5, .string (ae op), .string (ae nm), .string (ae tx), .int .i64 v, .slice A n c] 49)).trans (O _ (.cells #[.int .i64 5, .string ⟨#[]⟩, .string (ae nm), .string ⟨#[]⟩, .int .i64 0, .slice none 0 0] 49)));have HR:=G (hRd.keep (.of_ext HX.out) (Q:=P) (fun _ hb _=>hb));have HI:=G hI;clear hI hRd;have HC:=G (d7 nm hl);generalize cn nm=b at*;have HQ:=G hQ;clear hQ;go_enter func96,ntmps96;go_wp2_with (go_at_call 46;refine(HC.out _).mono ?_;rintro e w3 ⟨rfl,hE⟩;have HX3:=G (HX.out.trans hE);have HB3:=G (HB.out.ext hE);have HW3:=G (HW.out.ext hE);have HR3:=G (HR.out.keep (.of_ext hE) (Q:=P) (fun _ hb _=>hb));clear hE HC HX HB HW HR;have f3:=HB3.out.cell);exact ic _ _ 5 v 0 0 4 op nm tx [] nm [] A n c b _ _ P xs HI.out HX3.out hne hn HB3.out HW3.out HR3.out R HQ.out _ (by assumption) _ _ _ _ _ _ _ _ _ _ _ _ _ _ _ _ _ _ _ _ _ _ _ _ _ _ _ _ _ _ _ _ _ _ _ _ _ _ _ _ _ _ _ _ _ _ _ _ _ _ _ _ _ _ _ _ _ _ _ _ _ _ _ _ _ _ _ _ _ _ _ _ _ _ _ _ _ _ _ _ _ _ _ _ _ _ _ _ _ _ _ _ _ _ _ _ _ _ _ _ _ _ _ _ _ _ _ _ _ _ _ _ _ _ _ _ _ _ _ _ _ _ _ _ _
theorem zg (op nm tx:List UInt8) (v:Int) (w:World) (A:Option Addr) (n c:Nat) (hn:n<=1073741824) (P:Nat->Prop) (xs:List Ex) (hI:jI xs) (hRd:bZ w P (.slice A n c) xs) (R:Bool)
  (hQ:((op==[45]||op==[33])&&iR xs&&(op==op&&nm==[]&&tx==[]&&v==0)&&(decide (1<=(n:Int))&&decide ((n:Int)<=1)))=R):
  Calls prog 96 #[.agg #[.int .i64 6, .string (ae op), .string (ae nm), .string (ae tx), .int .i64 v, .slice A n c]] w fun e w'=>e= .returned (.bool R)/\al w w':=by
 have hne:w.heap.size≠w.heap.size+1:=by omega
 have HB:=G ((ai w 49 #[.int .i64 6, .string (ae op), .string (ae nm), .string (ae tx), .int .i64 v, .slice A n c]).ext (O _ (.cells #[.int .i64 6, .string (ae op), .string ⟨#[]⟩, .string ⟨#[]⟩, .int .i64 0, .slice none 0 0] 49)));have HW:=G (jj w (.cells #[.int .i64 6, .string (ae op), .string (ae nm), .string (ae tx), .int .i64 v, .slice A n c] 49) 49 #[.int .i64 6, .string (ae op), .string ⟨#[]⟩, .string ⟨#[]⟩, .int .i64 0, .slice none 0 0]);have HX:=G ((O w (.cells #[.int .i64 6, .string (ae op), .string (ae nm), .string (ae tx), .int .i64 v, .slice A n c] 49)).trans (O _ (.cells #[.int .i64 6, .string (ae op), .string ⟨#[]⟩, .string ⟨#[]⟩, .int .i64 0, .slice none 0 0] 49)));have HR:=G (hRd.keep (.of_ext HX.out) (Q:=P) (fun _ hb _=>hb));have HI:=G hI;clear hI hRd
 cases h1:(op==[45])with
 |true=>
  rw[show(op==[45]||op==[33])=true by rw[h1];rfl]at hQ;have HQ:=G hQ;clear hQ;go_enter func96,ntmps96;go_wp2_with fail;exact ic _ _ 6 v 0 1 1 op nm tx op [] [] A n c true _ _ P xs HI.out HX.out hne hn HB.out HW.out HR.out R HQ.out _ (by assumption) _ _ _ _ _ _ _ _ _ _ _ _ _ _ _ _ _ _ _ _ _ _ _ _ _ _ _ _ _ _ _ _ _ _ _ _ _ _ _ _ _ _ _ _ _ _ _ _ _ _ _ _ _ _ _ _ _ _ _ _ _ _ _ _ _ _ _ _ _ _ _ _ _ _ _ _ _ _ _ _ _ _ _ _ _ _ _ _ _ _ _ _ _ _ _ _ _ _ _ _ _ _ _ _ _ _ _ _ _ _ _ _ _ _ _ _ _ _ _ _ _ _ _ _ _
 |false=>
  cases h2:(op==[33])with
  |true=>
   rw[show(op==[45]||op==[33])=true by rw[h1,h2];rfl]at hQ;have HQ:=G hQ;clear hQ;go_enter func96,ntmps96;go_wp2_with fail;exact ic _ _ 6 v 0 1 1 op nm tx op [] [] A n c true _ _ P xs HI.out HX.out hne hn HB.out HW.out HR.out R HQ.out _ (by assumption) _ _ _ _ _ _ _ _ _ _ _ _ _ _ _ _ _ _ _ _ _ _ _ _ _ _ _ _ _ _ _ _ _ _ _ _ _ _ _ _ _ _ _ _ _ _ _ _ _ _ _ _ _ _ _ _ _ _ _ _ _ _ _ _ _ _ _ _ _ _ _ _ _ _ _ _ _ _ _ _ _ _ _ _ _ _ _ _ _ _ _ _ _ _ _ _ _ _ _ _ _ _ _ _ _ _ _ _ _ _ _ _ _ _ _ _ _ _ _ _ _ _ _ _ _
  |false=>
   rw[show(op==[45]||op==[33])=false by rw[h1,h2];rfl]at hQ;have HQ:=G hQ;clear hQ;go_enter func96,ntmps96;go_wp2_with fail;exact ic _ _ 6 v 0 1 1 op nm tx op [] [] A n c false _ _ P xs HI.out HX.out hne hn HB.out HW.out HR.out R HQ.out _ (by assumption) _ _ _ _ _ _ _ _ _ _ _ _ _ _ _ _ _ _ _ _ _ _ _ _ _ _ _ _ _ _ _ _ _ _ _ _ _ _ _ _ _ _ _ _ _ _ _ _ _ _ _ _ _ _ _ _ _ _ _ _ _ _ _ _ _ _ _ _ _ _ _ _ _ _ _ _ _ _ _ _ _ _ _ _ _ _ _ _ _ _ _ _ _ _ _ _ _ _ _ _ _ _ _ _ _ _ _ _ _ _ _ _ _ _ _ _ _ _ _ _ _ _ _ _ _
theorem zf (op nm tx:List UInt8) (v:Int) (w:World) (A:Option Addr) (n c:Nat) (hn:n<=1073741824) (P:Nat->Prop) (xs:List Ex) (hI:jI xs) (hRd:bZ w P (.slice A n c) xs) (R:Bool)
  (hQ:(decide (0<eW op)&&iR xs&&(op==op&&nm==[]&&tx==[]&&v==0)&&(decide (2<=(n:Int))&&decide ((n:Int)<=2)))=R):
  Calls prog 96 #[.agg #[.int .i64 7, .string (ae op), .string (ae nm), .string (ae tx), .int .i64 v, .slice A n c]] w fun e w'=>e= .returned (.bool R)/\al w w':=by
 have hne:w.heap.size≠w.heap.size+1:=by omega
 have HB:=G ((ai w 49 #[.int .i64 7, .string (ae op), .string (ae nm), .string (ae tx), .int .i64 v, .slice A n c]).ext (O _ (.cells #[.int .i64 7, .string (ae op), .string ⟨#[]⟩, .string ⟨#[]⟩, .int .i64 0, .slice none 0 0] 49)));have HW:=G (jj w (.cells #[.int .i64 7, .string (ae op), .string (ae nm), .string (ae tx), .int .i64 v, .slice A n c] 49) 49 #[.int .i64 7, .string (ae op), .string ⟨#[]⟩, .string ⟨#[]⟩, .int .i64 0, .slice none 0 0]);have HX:=G ((O w (.cells #[.int .i64 7, .string (ae op), .string (ae nm), .string (ae tx), .int .i64 v, .slice A n c] 49)).trans (O _ (.cells #[.int .i64 7, .string (ae op), .string ⟨#[]⟩, .string ⟨#[]⟩, .int .i64 0, .slice none 0 0] 49)));have HR:=G (hRd.keep (.of_ext HX.out) (Q:=P) (fun _ hb _=>hb));have HI:=G hI;clear hI hRd;have HC:=G (i8 op);have HQ:=G hQ;clear hQ;generalize eW op=z at*;go_enter func96,ntmps96;go_wp2_with (go_at_call 23;refine(HC.out _).mono ?_;rintro e w3 ⟨rfl,rfl⟩;clear HC);exact ic _ _ 7 v 0 2 2 op nm tx op [] [] A n c (decide (0<z)) _ _ P xs HI.out HX.out hne hn HB.out HW.out HR.out R HQ.out _ (by assumption) _ _ _ _ _ _ _ _ _ _ _ _ _ _ _ _ _ _ _ _ _ _ _ _ _ _ _ _ _ _ _ _ _ _ _ _ _ _ _ _ _ _ _ _ _ _ _ _ _ _ _ _ _ _ _ _ _ _ _ _ _ _ _ _ _ _ _ _ _ _ _ _ _ _ _ _ _ _ _ _ _ _ _ _ _ _ _ _ _ _ _ _ _ _ _ _ _ _ _ _ _ _ _ _ _ _ _ _ _ _ _ _ _ _ _ _ _ _ _ _ _ _ _ _ _
theorem zm (k:Int) (hk: ∀i:Int,1<=i->i<=7->k≠i) (op nm tx:List UInt8) (v:Int) (w:World) (A:Option Addr) (n c:Nat):
  Calls prog 96 #[.agg #[.int .i64 k, .string (ae op), .string (ae nm), .string (ae tx), .int .i64 v, .slice A n c]] w fun e w'=>e= .returned (.bool false)/\al w w':=by
 have e1:(k==1)=false:=beq_eq_false_iff_ne.2 (hk 1 (by decide) (by decide));have e2:(k==2)=false:=beq_eq_false_iff_ne.2 (hk 2 (by decide) (by decide));have e3:(k==3)=false:=beq_eq_false_iff_ne.2 (hk 3 (by decide) (by decide));have e4:(k==4)=false:=beq_eq_false_iff_ne.2 (hk 4 (by decide) (by decide));have e5:(k==5)=false:=beq_eq_false_iff_ne.2 (hk 5 (by decide) (by decide));have e6:(k==6)=false:=beq_eq_false_iff_ne.2 (hk 6 (by decide) (by decide));have e7:(k==7)=false:=beq_eq_false_iff_ne.2 (hk 7 (by decide) (by decide));have HE:=G ((O w (.cells #[.int .i64 k, .string (ae op), .string (ae nm), .string (ae tx), .int .i64 v, .slice A n c] 49)).trans (O _ (.cells #[.int .i64 k, .string ⟨#[]⟩, .string ⟨#[]⟩, .string ⟨#[]⟩, .int .i64 0, .slice none 0 0] 49)));clear hk;go_enter func96,ntmps96;go_wp2_with fail;go_ret;exact⟨rfl,HE.out⟩
theorem mB: ∀(m:Nat) (x:Ex),x.wt<=m->x.wt<=1073741824-> ∀(P:Nat->Prop) (w:World) (A:Option Addr) (n c:Nat),bZ w P (.slice A n c) x.args->
  Calls prog 96 #[.agg #[.int .i64 x.k, .string (ae x.op), .string (ae x.nm), .string (ae x.tx), .int .i64 x.v, .slice A n c]] w fun e w'=>e= .returned (.bool x.ok)/\al w w'
 |0,x,hm,_,_,_,_,_,_,_=>absurd hm (by have:=x.wt_eq;omega)
 |m+1,x,hm,hx,P,w,A,n,c,hR=>by
  have hw:=x.wt_eq;have hnl:=ed x.args;have hlen:=hR.len;have hI:jI x.args:=fun y hy P2 w2 A2 n2 c2 hR2=>by
   have hyw:=ei hy;exact mB m y (by omega) (by omega) P2 w2 A2 n2 c2 hR2
  have hn:n<=1073741824:=by omega
  obtain⟨k,op,nm,tx,v,xs⟩:=x;simp only[Ex.k,Ex.op,Ex.nm,Ex.tx,Ex.v,Ex.args]at*;rw[Ex.ok,<-hlen];have s0:=ze n;have s1:=zd n;have s2:=zc n;have s4:=za n;by_cases h1:k=1
  ·subst h1;refine zl op nm tx v w A n c hn P xs hI hR _ ?_;rw[if_pos rfl,s0];simp only[beq_self_eq_true,cK,cL]
   ac_rfl
  by_cases h2:k=2
  ·subst h2;refine zk op nm tx v w A n c hn P xs hI hR (by omega) _ ?_;rw[if_neg h1,if_pos rfl,s0];simp only[beq_self_eq_true,cK,cL]
   ac_rfl
  by_cases h3:k=3
  ·subst h3;refine zj op nm tx v w A n c hn P xs hI hR (by omega) _ ?_;rw[if_neg h1,if_neg h2,if_pos rfl,s0];simp only[beq_self_eq_true,cK,cL]
   ac_rfl
  by_cases h4:k=4
  ·subst h4;refine zi op nm tx v w A n c hn P xs hI hR (by omega) _ ?_;rw[if_neg h1,if_neg h2,if_neg h3,if_pos rfl,s1];simp only[beq_self_eq_true,cK,cL]
   ac_rfl
  by_cases h5:k=5
  ·subst h5;refine zh op nm tx v w A n c hn P xs hI hR (by omega) _ ?_;rw[if_neg h1,if_neg h2,if_neg h3,if_neg h4,if_pos rfl,s4];simp only[beq_self_eq_true,cK,cL]
   ac_rfl
  by_cases h6:k=6
  ·subst h6;refine zg op nm tx v w A n c hn P xs hI hR _ ?_;rw[if_neg h1,if_neg h2,if_neg h3,if_neg h4,if_neg h5,if_pos rfl,s1];simp only[beq_self_eq_true,cK,cL]
   ac_rfl
  by_cases h7:k=7
  ·subst h7;refine zf op nm tx v w A n c hn P xs hI hR _ ?_;rw[if_neg h1,if_neg h2,if_neg h3,if_neg h4,if_neg h5,if_neg h6,if_pos rfl,s2];simp only[beq_self_eq_true,cK,cL]
   ac_rfl
  rw[if_neg h1,if_neg h2,if_neg h3,if_neg h4,if_neg h5,if_neg h6,if_neg h7];exact zm k (fun i hi hj=>by omega) op nm tx v w A n c
end
section
open Go.RowKit
theorem pn (d:Nat) (h:d<10):Utf8.encode (48+(d:Int))=ae [UInt8.ofNat (48+d)]:=by
 have hc:d=0\/d=1\/d=2\/d=3\/d=4\/d=5\/d=6\/d=7\/d=8\/d=9:=by omega
 rcases hc with rfl|rfl|rfl|rfl|rfl|rfl|rfl|rfl|rfl|rfl<;>rfl
theorem lU: ∀(k n:Nat) (w:World),n<10^(k+1)->n<=2147483647->Calls prog 56 #[.int .i64 (n:Int)] w fun e w'=>e= .returned (.string (ae (fw n)))/\w=w':=by
 intro k
 induction k with
 |zero=>
  intro n w hn hm;have hn:n<10:=by simpa using hn
  have hn':(n:Int)<10:=by omega
  have he:=pn n hn;have HD:=G (show fw n=[UInt8.ofNat (48+n)] by rw[fw,if_pos hn]);generalize UInt8.ofNat (48+n)=y at*;go_enter func56,ntmps56;go_wp2_with fail;go_ret;exact⟨by rw[HD.out];rfl,rfl⟩
 |succ k ih=>
  intro n w hn hm;by_cases hn10:n<10
  ·have hn':(n:Int)<10:=by omega
   have he:=pn n hn10;have HD:=G (show fw n=[UInt8.ofNat (48+n)] by rw[fw,if_pos hn10]);generalize UInt8.ofNat (48+n)=y at*;clear ih;go_enter func56,ntmps56;go_wp2_with fail;go_ret;exact⟨by rw[HD.out];rfl,rfl⟩
  ·have hn': ¬(n:Int)<10:=by omega
   have HI:=G (ih (n/10) w (by rw[Nat.pow_succ]at hn;omega) (by omega));have hq:((n/10:Nat):Int)=(n:Int)/10:=by omega
   rw[hq]at HI;have he:=pn (n%10) (Nat.mod_lt _ (by omega));have hr:((n%10:Nat):Int)=(n:Int)%10:=by omega
   rw[hr]at he;have HD:=G (show fw n=fw (n/10)++[UInt8.ofNat (48+n%10)] by rw[fw,if_neg hn10]);have hlen:=jY 9 (n/10) (by omega);generalize fw (n/10)=x at*;generalize UInt8.ofNat (48+n%10)=y at*;have hsx:(ae x).size=x.length:=aM x;have hsy:(ae [y]).size=1:=rfl;have hxy:ae x++ae [y]=ae (x++[y]):=cu x [y];clear ih hq hr;go_enter func56,ntmps56;go_wp2_with (go_at_call 56;refine HI.out.mono ?_;rintro e w' ⟨rfl,rfl⟩);go_ret;exact⟨by rw[HD.out];rfl,rfl⟩
end
end Go.Proofs.YtelplgkppalmfaaGreatDoor
