/-
  Parts of the proof: CwA TyOs CwB Cpx.
-/
import Derived.Test.YtoedmpgicdekmaaGreatDoorCq00
import Derived.Test.YtoedmpgicdekmaaGreatDoorCq35
import Derived.Test.YtoedmpgicdekmaaGreatDoorCq41
import Derived.Test.YtoedmpgicdekmaaGreatDoorCq20
import Derived.Test.YtoedmpgicdekmaaGreatDoorCq21
set_option maxRecDepth 100000
set_option maxHeartbeats 8000000
set_option linter.unusedVariables false
set_option linter.unusedSimpArgs false
set_option linter.unusedSectionVars false
namespace Go.Proofs.YtoedmpgicdekmaaGreatDoor
open Go.Proofs.Tryz
section
open Go.RowKit
def EU:List UInt8:=[20,14,0,7,1,0,0,255,9,2,1,0,1,1,0,0,1,3,0,0,1,4,0,0,22,0,0,0,18,0,255,255,3,15,15,224,1,0,11,255,12,0,0,15,7,0,0,0,15,14,15,0,1,0,0,0,1,7,1,44,3,1,7,0,14,14,15,0,3,15,15,32,21,14,0,0,1,1,0,0,14,14,15,0,3,15,15,32,21,14,0,0]
theorem ET:Fm gq=256:=by kernel_rfl
theorem Gi:oI gq=(⟨EU,[],0,0⟩,0):=by kernel_rfl
theorem Gg:fB ⟨EU,[],0,0⟩ [] 400=(⟨1,0,44,0,0,[],0⟩,0):=by kernel_rfl
def G4:List cQ:=[⟨20,14,0,0,0⟩,⟨1,0,0,0,255⟩,⟨9,2,1,0,0⟩,⟨1,1,0,0,0⟩,⟨1,3,0,0,0⟩,⟨1,4,0,0,0⟩,⟨22,0,0,0,0⟩,⟨18,0,0,0,-1⟩,⟨3,15,15,-32,0⟩,⟨1,0,0,0,3071⟩,⟨12,0,0,15,0⟩,⟨7,0,0,0,0⟩,⟨15,14,15,0,0⟩,⟨1,0,0,0,0⟩,⟨1,7,0,0,300⟩,⟨3,1,7,0,0⟩,⟨14,14,15,0,0⟩,⟨3,15,15,32,0⟩,⟨21,14,0,0,0⟩,⟨1,1,0,0,0⟩,⟨14,14,15,0,0⟩,⟨3,15,15,32,0⟩,⟨21,14,0,0,0⟩]
theorem Gh:(fD gq).1.code=G4/\(fD gq).1.calls=[(0,cY)]/\(fD gq).1.dats=[]/\(fD gq).2.1=[(cY,8)]/\(fD gq).2.2=0:=⟨by kernel_rfl,by kernel_rfl,by kernel_rfl,by kernel_rfl,by kernel_rfl⟩
theorem Da:GJ gq:=by
 obtain⟨h1,h2,h3,h4,h5⟩:=Gh;refine⟨fun f hf=> ?_,fun v hv=>(by cases hv),by decide,fun nm=> ?_,fun j=> ?_,by rw[h5];decide,by rw[h1];unfold VB;decide,by rw[h1];decide,fun q hq=> ?_,fun q hq=> ?_⟩
 ·have:f=⟨cY,[],[.mk 6 [] [.mk 1 [] [] [] 300 []] [] []]⟩:=by simpa[gq,nj]using hf
  subst this;exact⟨by decide,fun p hp=>(by cases hp),by decide+kernel,by decide+kernel,by decide+kernel⟩
 ·simp[gq,nj,qm,aN,ge]
 ·rcases j with _|j
  ·show g6.big<=_;decide+kernel
  ·have:gq.fs.take (j+1)=gq.fs:=by simp[gq,nj]
   rw[this];decide+kernel
 ·rw[h2]at hq;rw[h1,h4];obtain rfl:q=(0,cY):=by simpa using hq
  decide
 ·rw[h3]at hq;cases hq
theorem p' (w:World) (hz:EZ w) (ht:dK w w.heap.size) (hB:BT w) (hFT:FT w):Calls prog 8 #[] w fun e w'=>e= .returned (.bool true)/\au w w':=by
 have HT:=G ht;have HB:=G hB;have HFT:=G hFT;have HP1:=G (show Calls prog 22 #[.string ⟨#[102,117,110,99,32,109,97,105,110,40,41,32,123,32,114,101,116,117,114,110,32,51,48,48,59,32,125]⟩] w fun e w'=>au w w'/\ ∃A n c B m d,e= .returned (.tuple #[.agg #[.slice A n c, .slice B m d], .int .i64 0, .int .i64 0])/\nG w' (fun _=>True) (.slice A n c) gq.vs/\oT w' (fun _=>True) (.slice B m d) gq.fs from Dm w hz ht)
 have HC:=G (fun(W:World) (A B:Option Addr) (n c m d:Nat) (hE:au w W) (hV:nG W (fun _=>True) (.slice A n c) gq.vs) (hF:oT W (fun _=>True) (.slice B m d) gq.fs)=>show Calls prog 12 #[.agg #[.slice A n c, .slice B m d]] W fun e w'=>(∃A c B d,e= .returned (.tuple #[.agg #[.slice A 92 c, .slice B 0 d, .int .i64 0, .int .i64 0], .int .i64 0])/\Sl w' A c EU/\Sl w' B d [])/\au W w' from by
  have:=sS gq xY (fun _=>Da) W A B n c m d hV hF (gH ht hE) (hB.ext hE) (hFT.ext hE)
  rw[Gi]at this;exact this)
 have HTr:=G (fun(W:World) (A B:Option Addr) (c d:Nat) (hE:au w W) (h1:Sl W A c EU) (h2:Sl W B d [])=>show Calls prog 18 #[.agg #[.slice A 92 c, .slice B 0 d, .int .i64 0, .int .i64 0], .slice none 0 0, .int .i64 400] W fun e w'=>au W w'/\ ∃A2 c2,e= .returned (.tuple #[.agg #[.int .i64 1, .int .i64 0, .int .i64 44, .int .i64 0, .int .i64 0, .slice A2 0 c2, .int .i64 0], .int .i64 0])from by
  have:=pG ⟨EU,[],0,0⟩ A B c d [] (.slice none 0 0) 400 (by decide) W (hFT.ext hE) h1 h2 (by decide) (by decide) ⟨none,0,rfl, .inl rfl⟩ (by decide);rw[Gg]at this;refine this.mono fun e w' hh=> ?_;obtain⟨q1,A2,c2,q2,_⟩:=hh
  exact⟨q1,A2,c2,q2⟩)
 have HWg:=G (fun(W:World) (A B:Option Addr) (n c m d:Nat) (hE:au w W) (hV:nG W (fun _=>True) (.slice A n c) gq.vs) (hF:oT W (fun _=>True) (.slice B m d) gq.fs)=>show Calls prog 13 #[.agg #[.slice A n c, .slice B m d]] W fun e w'=>e= .returned (.int .i64 256)/\au W w' from by
  have:=rD gq xY (fun f hf=>by
   have:f=⟨cY,[],[.mk 6 [] [.mk 1 [] [] [] 300 []] [] []]⟩:=by simpa[gq,nj]using hf
   subst this
   exact⟨by decide+kernel,by decide⟩) (by decide+kernel) W A B n c m d hV hF (gH ht hE) (hB.ext hE)
  rw[ET]at this;exact this)
 have HQ:=G (fun W=>GI 44 0 0 44 0 0 W);generalize gq.vs=vs at*;generalize gq.fs=fs at*;clear hz ht hB hFT;go_enter func8,ntmps8
 go_upto_region 2 with(go_at_call 22;refine HP1.out.mono ?_;rintro e w1 ⟨hE,A,n,c,B,m,d,rfl,hV,hF⟩;have hE1:=aa w1 (.cells #[.slice A n c, .slice B m d] 31);have HX1:=G (hE.trans hE1);have HB1:=G (aw w1 31 #[.slice A n c, .slice B m d]);have HV1:=G (hV.keep (.of_ext hE1) (Q:=fun _=>True) (fun _ hb _=>hb));have HF1:=G (hF.keep (.of_ext hE1) (Q:=fun _=>True) (fun _ hb _=>hb));clear hE hV hF hE1 HP1)
 generalize w1.alloc (.cells #[.slice A n c, .slice B m d] 31)=W1 at*;have c1:=HB1.out.cell
 go_upto_region 3 with(go_at_call 12;refine(HC.out _ _ _ _ _ _ _ HX1.out HV1.out HF1.out).mono ?_;rintro e w2 ⟨⟨A2,c2,B2,d2,rfl,h1,h2⟩,hE⟩;have hE1:=aa w2 (.cells #[.slice A2 92 c2, .slice B2 0 d2, .int .i64 0, .int .i64 0] 38);have HX2:=G (HX1.out.trans (hE.trans hE1));have HB2:=G (aw w2 38 #[.slice A2 92 c2, .slice B2 0 d2, .int .i64 0, .int .i64 0]);have HS1:=G (h1.ext hE1);have HS2:=G (h2.ext hE1);have HB1a:=G (HB1.out.ext (hE.trans hE1));have HV2:=G (HV1.out.keep (.of_ext (hE.trans hE1)) (Q:=fun _=>True) (fun _ hb _=>hb));have HF2:=G (HF1.out.keep (.of_ext (hE.trans hE1)) (Q:=fun _=>True) (fun _ hb _=>hb));clear hE h1 h2 hE1 HC HB1 HV1 HF1 HX1 c1)
 generalize w2.alloc (.cells #[.slice A2 92 c2, .slice B2 0 d2, .int .i64 0, .int .i64 0] 38)=W2 at*;have c2':=HB2.out.cell
 go_upto_region 4 with(go_at_call 18;refine(HTr.out _ _ _ _ _ HX2.out HS1.out HS2.out).mono ?_;rintro e w3 ⟨hE,A3,c3,rfl⟩;have hE1:=aa w3 (.cells #[.int .i64 1, .int .i64 0, .int .i64 44, .int .i64 0, .int .i64 0, .slice A3 0 c3, .int .i64 0] 49);have HX3:=G (HX2.out.trans (hE.trans hE1));have HB3:=G (aw w3 49 #[.int .i64 1, .int .i64 0, .int .i64 44, .int .i64 0, .int .i64 0, .slice A3 0 c3, .int .i64 0]);have HB1b:=G (HB1a.out.ext (hE.trans hE1));have HV3:=G (HV2.out.keep (.of_ext (hE.trans hE1)) (Q:=fun _=>True) (fun _ hb _=>hb));have HF3:=G (HF2.out.keep (.of_ext (hE.trans hE1)) (Q:=fun _=>True) (fun _ hb _=>hb));clear hE hE1 HTr HB1a HV2 HF2 HX2 c2' HB2 HS1 HS2)
 generalize w3.alloc (.cells #[.int .i64 1, .int .i64 0, .int .i64 44, .int .i64 0, .int .i64 0, .slice A3 0 c3, .int .i64 0] 49)=W3 at*;have c1:=HB1b.out.cell;have c3':=HB3.out.cell;have q:=HQ.out W3;go_wp2_with (go_at_call 13;refine(HWg.out _ _ _ _ _ _ _ HX3.out HV3.out HF3.out).mono ?_;rintro e w4 ⟨rfl,hE⟩;have HX4:=G (HX3.out.trans hE);clear HWg hE c1 c3');go_ret;exact⟨kg (by simp),HX4.out⟩
end
section
open Go.RowKit
theorem GY:mc prog 52 62 2 32 (.agg #[.int .i64 0, .slice none 0 0]):=⟨underlying52,by kernel_rfl,by rfl,by decide⟩
theorem AW (p:RV): ∀u∈tY p,u.oneCell'=true:=by
 intro u hu;simp only[tY,RV.val,bN,aZ,or_false]at hu;rcases hu with rfl|rfl<;>rfl
theorem yU (R:Rs) (hl:R.length<=1000000000) (P:Nat->Prop) (w:World) (v:Value) (hR:iT w P v R):Calls prog 19 #[v] w fun e w'=>au w w'/\ ∃v',e= .returned v'/\iT w' (fun b=>P b\/w.heap.size<=b) v' R:=by
 obtain⟨A,n,c,rfl,hn⟩:=hR.form;rw[hn]at hl;obtain⟨q,hq,hqn,hok,hcell⟩:=hR.rvs;have HQ:=G hq;have HQN:=G hqn;have HOK:=G hok;have HC:=G hcell;clear hR hn hq hqn hok hcell;go_enter func19,ntmps19;go_wp2_with fail
 go_loopw [3,4] (fun vo vi wr=> ∃(j:Nat) (C:Option Addr) (cap:Nat),vi= .int .i64 (j:Int)/\vo= .slice C j cap/\j<=n/\Hid (au w wr)/\Hid (wr.ownsRow w.heap.size 62 2 (.slice C j cap) j (iC (q.take j)))) (fun vo vi _=>n-(intOf vi).toNat)
 case atStart=>exact⟨0,none,0,rfl,rfl,aC _,G (aG w),G (World.ownsRow_nil _ _ _ _)⟩
 case round=>
  obtain⟨j,C,cap,rfl,rfl,hj,HX,HO⟩:=hrel;by_cases hlt:j<n
  ·have hlt':(j:Int)<n:=by omega
   have hjl:j<q.length:=by have:=HQN.out;omega
   rcases HC.out with h0|⟨hnc,hm,b,o,rfl,_,hb,hcc⟩
   ·exact absurd hlt (by omega)
   obtain⟨q0,q1⟩:=hcc j hjl;have e0:=(HX.out.cell b _ hb).trans q0;have e1:=(HX.out.cell b _ hb).trans q1;unfold RV.val at e1;have HT:=G (show q.take (j+1)=q.take j++[q[j]]from aM hjl);have hrow:=World.ownsRow.lt HO.out;have hwl:w.heap.size<=wr.heap.size:=HX.out.size;have hbl:b<wr.heap.size:=aA hb hwl;generalize q[j]=p at*;clear q0 q1 hcc hnc hm;go_wp2_with (refine fd GY rfl _ _ rfl w.heap.size _ j (iC (q.take j)) rfl (World.ownsRow.alloc HO.out _) wr.heap.size (tY p) rfl (aw wr 62 (tY p).toArray) rfl (AW p) (by omega) (by decide) (by rw[World.size_alloc];omega) ?_;intro A' cap' w2 h1 h2 h3;have HX2:=G ((HX.out.alloc' (.cells (tY p).toArray 62)).grown h2 (fun k e=>(hrow k e).1));have HO2:=G h1;clear h1 h2 h3 HX HO)
   have HO3:=G (show w2.ownsRow w.heap.size 62 2 (.slice (some ⟨A',0,none⟩) (j+1) cap') (j+1) (iC (q.take (j+1))) by
    rw[HT.out,wh];have:iC [p]=tY p:=by simp[iC]
    rw[this]
    exact HO2.out)
   clear HO2 hrow;go_roundw
   case rel=>exact⟨j+1,_,_,by go_num,rfl,by omega,HX2,HO3⟩
   case measure=>simp[intOf];omega
  ·have hlt': ¬(j:Int)<n:=by omega
   have hjn:j=n:=by omega
   have HF:=G (show iT wr (fun b=>P b\/w.heap.size<=b) (.slice C j cap) R by
    have h1:=HO.out;rw[bh (by have:=HQN.out;omega)]at h1;have:=iT.of_row (Q:=fun b=>P b\/w.heap.size<=b) h1 (by have:=HQN.out;omega) (fun b hb=> .inr hb) (fun p hp=>⟨(HOK.out p hp).1.ext HX.out,fun b o e hne=> .inl ((HOK.out p hp).2 b o e hne)⟩);rw[HQ.out]at this
    exact this)
   clear HO hjn;go_wp2_with fail;go_ret;exact⟨HX.out,_,rfl,HF.out⟩
end
section
open Go.RowKit
theorem iT.take {w:World} {P:Nat->Prop} {A:Option Addr} {n c:Nat} {R:Rs} (h:iT w P (.slice A n c) R) (k:Nat) (hk:k<=n):iT w P (.slice A k c) (R.take k):=by
 obtain⟨A',c',he,h⟩:=h;injection he with e1 e2 e3;subst e1 e2 e3;refine⟨_,_,by rw[aW,Nat.min_eq_left hk],?_⟩;rcases h with rfl|⟨h1,h2,b,o,ha,hP,hb,da,dc,hc⟩
 ·exact .inl (by simp)
 ·refine .inr ⟨by rw[aW];omega,h2,b,o,ha,hP,hb,da,dc,fun i hi=> ?_⟩;rw[eX];exact hc i (by rw[aW]at hi;omega)
theorem iT.cap {w:World} {P:Nat->Prop} {A:Option Addr} {n c:Nat} {R:Rs} (h:iT w P (.slice A n c) R):n<=c:=by
 obtain⟨A',c',he,h⟩:=h;injection he with e1 e2 e3;subst e1 e2 e3;rcases h with rfl|⟨h1,_⟩
 ·exact aC _
 ·exact h1
theorem iT.xt {w w':World} {v:Value} {R:Rs} {P:Nat->Prop} (h:iT w P v R) (he:au w w'):iT w' P v R:=h.keep (.of_ext he)
theorem FU {w:World} {g:Nat} {t:TypeId} {x0 x1 x2 x3 x4 x5 x6:Value} (h:aP w g t #[x0,x1,x2,x3,x4,x5,x6]) (a b c d e f i:Value):aP (w.setCells g 0 [a,b,c,d,e,f,i]) g t #[a,b,c,d,e,f,i]:=by
 have:=((((((h.set 0 a).set 1 b).set 2 c).set 3 d).set 4 e).set 5 f).set 6 i;simpa[World.setCells]using this
def mN (w0:World) (t:TypeId) (cs:Array Value) (v:Value) (w:World):Prop:= ∃g,v= .pointer (some ⟨g,0,none⟩)/\w0.heap.size<=g/\aP w g t cs
theorem mN.ext {w0:World} {t:TypeId} {cs:Array Value} {v:Value} {w w':World} (h:mN w0 t cs v w) (he:au w w'):mN w0 t cs v w':=let⟨g,h1,h2,h3⟩:=h;⟨g,h1,h2,h3.ext he⟩
theorem mN.old {w0:World} {t:TypeId} {cs:Array Value}: ∀(v:Value) (w:World),mN w0 t cs v w-> ∀g,pB v=some g->g<w.heap.size:=fun v w ⟨g,h1,_,h3⟩ k hk=>by
 subst h1;injection hk with hk;subst hk;exact h3.lt
theorem mN.at_ {w0 w:World} {t:TypeId} {cs:Array Value} {g:Nat} (h:mN w0 t cs (.pointer (some ⟨g,0,none⟩)) w):w0.heap.size<=g/\aP w g t cs:=by
 obtain⟨k,h1,h2,h3⟩:=h;injection h1 with h1;injection h1 with h1;injection h1 with h1;subst h1;exact⟨h2,h3⟩
def GN (v:Value):Prop:= ∃g,v= .pointer (some ⟨g,0,none⟩)
theorem EK {w:World} {n:Nat} (h:w.heap.size=n): ∀g,pB (.pointer (some ⟨n,0,none⟩))=some g->w.heap.size<=g:=fun g hg=>by
 have hg:some n=some g:=hg;injection hg with hg;omega
theorem mB {W w:World} {g:Nat} (h:au W w) (hg:W.heap.size<=g) (vs:List Value):au W (w.setCells g 0 vs):=h.grown (eI g vs 0 w) (fun k e=>by injection e with e;omega)
theorem yY {w W:World} {g:Nat} {t:TypeId} (hE:au W w) (hg:W.heap.size<=g) (h:aP w g t EJ) (a b c d e f i:Value):
  au W (w.setCells g 0 [a,b,c,d,e,f,i])/\aP (w.setCells g 0 [a,b,c,d,e,f,i]) g t #[a,b,c,d,e,f,i]:=⟨mB hE hg _,FU h a b c d e f i⟩
theorem Sl.off {w:World} {A:Option Addr} {c:Nat} {l:List UInt8} {g:Nat} {t:TypeId} (h:Sl w A c l) (hb:aP w g t EJ): ∀b o,A=some ⟨b,o,none⟩->l≠ []->b≠g:=fun b o e hl=>Cp h hb b o e hl
theorem Sl.put7 {w:World} {A:Option Addr} {c:Nat} {l:List UInt8} {g:Nat} {t:TypeId} (h:Sl w A c l) (hb:aP w g t EJ) (vs:List Value):Sl (w.setCells g 0 vs) A c l:=
 h.keepP (P:=fun b=>b≠g) (.of_grown (eI g vs 0 w) (fun b hb e=>hb (by injection e))) (h.off hb)
theorem DE (R:Rs) (hl:R.length<=1000000000) (P:Nat->Prop) (w:World) (v:Value) (hR:iT w P v R):Calls prog 17 #[v] w fun e w'=>(∃b:Bool,e= .returned (.bool b))/\au w w':=zu R hl P w v hR
theorem uU {R:Rs} (hl:R.length<=1000000000) {P:Nat->Prop} {w:World} {v:Value} (hR:iT w P v R):Calls prog 19 #[v] w fun e w'=>au w w'/\ ∃A n c,e= .returned (.slice A n c)/\iT w' (fun _=>True) (.slice A n c) R:=
 (yU R hl P w v hR).mono fun e w' hh=>by
  obtain⟨hE,v',he,h⟩:=hh;have h2:=h.mono (Q:=fun _=>True) (fun _ _ _=>trivial);obtain⟨A,n,c,rfl,_⟩:=h.form;exact⟨hE,A,n,c,he,h2⟩
abbrev E9 (v:Value):Prop:= ∃A n c,v= .slice A n c
def As (R:Rs) (v:Value) (w:World):Prop:= ∀A n c,v= .slice A n c->iT w (fun _=>True) (.slice A n c) R
theorem As.ext {R:Rs} {v:Value} {w w':World} (h:As R v w) (he:au w w'):As R v w':=fun A n c e=>(h A n c e).xt he
abbrev E_ (k d a b c:Int) (q:Nat) (u:Int) (x:Int) (v:Value):Prop:= ∃A2 c2,v= .tuple #[.agg #[.int .i64 k, .int .i64 d, .int .i64 a, .int .i64 b, .int .i64 c, .slice A2 q c2, .int .i64 u], .int .i64 x]
def Eg (l:List UInt8) (v:Value) (w:World):Prop:= ∀k d a b c A2 q c2 u x,v= .tuple #[.agg #[k,d,a,b,c, .slice A2 q c2,u],x]->Sl w A2 c2 l
theorem Eg.ext {l:List UInt8} {v:Value} {w w':World} (h:Eg l v w) (he:au w w'):Eg l v w':=fun k d a b c A2 q c2 u x e=>(h k d a b c A2 q c2 u x e).ext he
theorem zq {l:List UInt8} {w:World} {k d a b c:Value} {A2:Option Addr} {q c2:Nat} {u x:Value} (h:Sl w A2 c2 l):Eg l (.tuple #[.agg #[k,d,a,b,c, .slice A2 q c2,u],x]) w:=fun k d a b c A2 q c2 u x e=>by
 simp only[Value.tuple.injEq,Array.mk.injEq,gO,Value.agg.injEq,Value.slice.injEq]at e;obtain⟨⟨_,_,_,_,_,⟨rfl,_,rfl⟩,_⟩,_⟩:=e;exact h
theorem pX (A B:Option Addr) (n c m d:Nat) (z e:Int) (w:World):Calls prog 16 #[.agg #[.slice A n c, .slice B m d, .int .i64 z, .int .i64 e]] w fun e w'=>e= .returned (.bool (decide (n<=2000)&&decide (m<=2000)))/\au w w':=by
 have hX:=aa w (.cells #[.slice A n c, .slice B m d, .int .i64 z, .int .i64 e] 43);have HX:=G hX;clear hX;obtain⟨rb,hrb⟩: ∃rb,(decide (n<=2000)&&decide (m<=2000))=rb:=⟨_,rfl⟩
 rw[hrb];have HB:=G (show rb=(decide ((n:Int)<=2000)&&decide ((m:Int)<=2000)) by rw[<-hrb];congr 1<;>(apply decide_eq_decide.2;omega));clear hrb;by_cases h1:(n:Int)<=2000<;>by_cases h2:(m:Int)<=2000
 all_goals
  go_enter func16,ntmps16;go_wp2_with fail;go_ret;exact⟨by rw[HB.out];simp[h1,h2],HX.out⟩
theorem Em (f:kN) (R:Rs) (n:Nat) (hn:n<=1000000) {k d a b c x:Int} {l:List UInt8} {u:Nat} (ho:fB f R n=(⟨k,d,a,b,c,l,u⟩,x)) {q:Nat} (hq:l.length=q) (w W:World) (hE:au w W) (A B C:Option Addr) (c1 d1 q1 e1:Nat) (hF:FT w) (hS:Sl w A c1 f.code) (hS2:Sl w B d1 f.data) (hc:f.code.length<=1000000000) (hd:f.data.length<=1000000000) (hl:R.length<=1000000000) (hR:iT W (fun _=>True) (.slice C q1 e1) R):
  Calls prog 18 #[f.val A B c1 d1, .slice C q1 e1, .int .i64 (n:Int)] W fun e w'=>au W w'/\ ∃A2 c2,e= .returned (.tuple #[.agg #[.int .i64 k, .int .i64 d, .int .i64 a, .int .i64 b, .int .i64 c, .slice A2 q c2, .int .i64 (u:Int)], .int .i64 x])/\Sl w' A2 c2 l:=by
 have:=pG f A B c1 d1 R (.slice C q1 e1) n (by omega) W (hF.ext hE) (hS.ext hE) (hS2.ext hE) hc hd hR hl;rw[ho]at this;subst hq;exact this
end
section
open Go.RowKit
theorem C8 (f:kN) (R:Rs) (k n:Nat) (hk:k<=R.length):(fB f (R.take k) n).2=(fB f R n).2/\((fB f (R.take k) n).2=0\/(fB f (R.take k) n).2=1)/\((fB f (R.take k) n).2=0->
  ((fB f (R.take k) n).1.kind≠1->(fB f R n).1=(fB f (R.take k) n).1)/\((fB f (R.take k) n).1.kind=1->(fB f (R.take k) n).1.used=k/\k<=(fB f R n).1.used/\(k<R.length->k<(fB f R n).1.used))):=by
 unfold fB;by_cases hv:fe f=true
 ·rw[if_pos hv,if_pos hv];obtain⟨h1,h2⟩:=uM (sz:=(lT f).toNat) hk n ⟨wF f.code f.data (j7 f.code.length).toNat,qu f.entry,0⟩ (aC _);refine⟨rfl, .inl rfl,fun _=>⟨fun h=>(h1 h).symm,fun h=> ?_⟩⟩;obtain⟨h3,h4⟩:=h2 h;refine⟨h3,?_,fun h5=>h4.resolve_left (by omega)⟩;rcases h4 with h4|h4
  ·rw[bh (by omega)]at h3;exact eh h3.symm
  ·exact aF h4
 ·rw[if_neg hv,if_neg hv];exact⟨rfl, .inr rfl,fun h=>absurd h (by decide)⟩
theorem DK (f:kN) (hc:f.code.length<=2000) (hd:f.data.length<=2000) (R:Rs) (hr:R.length<=1000000000) (x:Nat) (hx:x<256) (P:Nat->Prop) (w:World) (A B C:Option Addr) (c d q cc:Nat) (hS:Sl w A c f.code) (hS2:Sl w B d f.data) (hR:iT w P (.slice C q cc) R) (hz:EZ w) (ht:dK w w.heap.size) (hB:BT w) (hFT:FT w):
  Calls prog 4 #[f.val A B c d, .slice C q cc, .int .u8 (x:Int)] w fun e w'=>e= .returned (.bool true)/\au w w':=by
 have hq:R.length=q:=by obtain⟨_,_,_,e,h⟩:=hR.form;injection e with _ e _;rw[h,e]
 have hq2:q<=1000000000:=by omega
 obtain⟨k,hk⟩: ∃k,x%(q+1)=k:=⟨_,rfl⟩
 have hkq:k<=q:=by have:x%(q+1)<q+1:=Nat.mod_lt x (by omega);omega
 have hkc:k<=cc:=ax hkq hR.cap;have hk1:(k:Int)<=(cc:Int):=by omega
 have hrem:(x:Int)%((q:Int)+1)=(k:Int):=by rw[<-hk];rfl
 have hpre:=C8 f R k 1000 (by omega);obtain⟨⟨⟨k1,d1,a1,b1,c1,l1,u1⟩,x1⟩,ho1⟩: ∃o,fB f (R.take k) 1000=o:=⟨_,rfl⟩
 obtain⟨⟨⟨k2,d2,a2,b2,c2,l2,u2⟩,x2⟩,ho2⟩: ∃o,fB f R 1000=o:=⟨_,rfl⟩
 obtain⟨q1,hq1⟩: ∃z,l1.length=z:=⟨_,rfl⟩
 obtain⟨q2,hq2'⟩: ∃z,l2.length=z:=⟨_,rfl⟩
 rw[ho1,ho2,hq]at hpre;obtain⟨hx12,hx0,hpre⟩:=hpre;simp only at hx12 hx0 hpre;subst hx12;have HP:=G hpre;have HR1:=G (fun W hE A' B' C c1 d1 q1 e1 (h:A'=A/\B'=B/\c1=c/\d1=d) (hR:iT W (fun _=>True) (.slice C q1 e1) (R.take k))=>show Calls prog 18 #[f.val A' B' c1 d1, .slice C q1 e1, .int .i64 1000] W _ from by obtain⟨rfl,rfl,rfl,rfl⟩:=h;exact Em f (R.take k) 1000 (by decide) ho1 hq1 w W hE A' B' C c1 d1 q1 e1 hFT hS hS2 (by omega) (by omega) (by rw[aW];omega) hR);have HR2:=G (fun W hE A' B' C c1 d1 q1 e1 (h:A'=A/\B'=B/\c1=c/\d1=d) (hR:iT W (fun _=>True) (.slice C q1 e1) R)=>show Calls prog 18 #[f.val A' B' c1 d1, .slice C q1 e1, .int .i64 1000] W _ from by obtain⟨rfl,rfl,rfl,rfl⟩:=h;exact Em f R 1000 (by decide) ho2 hq2' w W hE A' B' C c1 d1 q1 e1 hFT hS hS2 (by omega) (by omega) hr hR);unfold kN.val at*;generalize f.code.length=n at*;generalize f.data.length=m at*;generalize f.zero=z at*;generalize f.entry=en at*;have hE0:=aa w (.cells #[.slice A n c, .slice B m d, .int .i64 z, .int .i64 en] 43);have HE0:=G hE0;have HB0:=G (aw w 43 #[.slice A n c, .slice B m d, .int .i64 z, .int .i64 en]);have HAW:=G (p' _ (hz.ext hE0) (gH ht hE0) (hB.ext hE0) (hFT.ext hE0));have HFW:=G (fun(W:World)=>show Calls prog 16 #[.agg #[.slice A n c, .slice B m d, .int .i64 z, .int .i64 en]] W fun e w'=>e= .returned (.bool true)/\au W w' from by have:=pX A B n c m d z en W;rw[decide_eq_true hc,decide_eq_true hd]at this;exact this);have HFR:=G (fun(W:World) (h:au w W)=>DE R hr P W _ (hR.xt h));have HO1:=G (fun(W:World) (h:au w W)=>uU (R:=R.take k) (by rw[aW];omega) ((hR.xt h).take k hkq));have HO2:=G (fun(W:World) (h:au w W)=>uU hr (hR.xt h));have HL1:=G hq1;have HL2:=G hq2';clear hS hS2 hR hz ht hB hFT hr hq hpre ho1 ho2 hE0 hq1 hq2' hk;go_enter func4,ntmps4
 go_upto_region 7 with(first
  |(go_at_call 8;refine HAW.out.mono ?_;rintro e w1 ⟨rfl,hE⟩;have HX1:=G (HE0.out.trans hE);have c0:=(HB0.out.ext hE).cell;have HB1:=G (HB0.out.ext hE);clear hE HAW HE0 HB0)
  |(go_at_call 16;refine(HFW.out _).mono ?_;rintro e w2 ⟨rfl,hE⟩;have HX2:=G (HX1.out.trans hE);clear c0;have c0:=(HB1.out.ext hE).cell;have HB2:=G (HB1.out.ext hE);clear hE HFW HX1 HB1)
  |(go_at_call 17;refine(HFR.out _ HX2.out).mono ?_;rintro e w3 ⟨⟨b2,rfl⟩,hE⟩;have HX3:=G (HX2.out.trans hE);clear c0;have c0:=(HB2.out.ext hE).cell;have HB3:=G (HB2.out.ext hE);clear hE HFR HX2 HB2;cases b2))
 ·go_ret;exact⟨rfl,HX3.out⟩
 simp only[hrem];have hE5:=aa w3 (.cells #[.slice A n c, .slice B m d, .int .i64 z, .int .i64 en] 38);have HB5:=G (aw w3 38 #[.slice A n c, .slice B m d, .int .i64 z, .int .i64 en]);have HX5:=G (HX3.out.trans hE5);clear hE5 HX3 c0 HB3;generalize hg5:w3.heap.size=g5 at*;generalize w3.alloc (.cells #[.slice A n c, .slice B m d, .int .i64 z, .int .i64 en] 38)=w5 at*;clear hg5;refine cG 10 4 [(4,E9,As (R.take k)),(5,E_ k1 d1 a1 b1 c1 q1 u1 x1,Eg l1),(9,GN,mN w5 49 EJ)] [9] [8] mixed (by kernel_rfl) (by kernel_rfl) (by kernel_rfl) (by rfl)
  ⟨fun _ _ _ h hx=>h.ext hx,fun _ _ _ h hx=>h.ext hx,fun _ _ _ h hx=>h.ext hx,trivial⟩ (fun i hi=> ?_) ?_
 ·obtain rfl:i=9:=by simpa using hi
  exact⟨_,_,rfl,mN.old⟩
 repeat (refine sx ?_ (fun w1 hU=> ?_) ?_;rotate_left;(focus have f5:=(HB5.out.ext hU.un).cell;clear hU;go_simp<;>with_reducible rfl);simp only[bH,bG,bF,bE,bD])
 refine fg _ _ (by rfl) rfl ⟨_,none,0,0,rfl⟩ (by simp) (fun w6 hU hp K hK=> ?_) ?_
 ·have hc:=HO1.out w6 (HX5.out.trans hU.un);clear hp hU;go_simp;refine hc.mono ?_;rintro e w7 ⟨hE,A,n,c,rfl,h⟩;exact hK _ _ hE ⟨_,_,_,rfl⟩ (fun A' n' c' e=>by injection e with e1 e2 e3;subst e1 e2 e3;exact h)
 rintro _ ⟨A6,n6,c6,rfl⟩;simp only[bH,bG,bF,bE,bD];refine fg _ _ (by rfl) rfl ⟨_,none,0,rfl⟩ (by simp) (fun w6 hU hp K hK=> ?_) ?_
 ·have h1:=hp _ (.head _) (by kernel_rfl) _ _ _ rfl;have hc:=HR1.out w6 (HX5.out.trans hU.un) _ _ _ _ _ _ _ ⟨rfl,rfl,rfl,rfl⟩ h1;clear hp hU h1;go_simp;refine hc.mono ?_;rintro e w7 ⟨hE,A,c,rfl,h⟩;exact hK _ _ hE ⟨_,_,rfl⟩ (zq h)
 rintro _ ⟨A1,e1,rfl⟩;simp only[bH,bG,bF,bE,bD];repeat (refine sx ?_ (fun w1 hU=> ?_) ?_;rotate_left;(focus go_simp<;>with_reducible rfl);simp only[bH,bG,bF,bE,bD])
 refine uR _ _ (by rfl) rfl ⟨_,0,rfl⟩ (by simp) (fun w6 hU hp K hK=> ?_) ?_
 ·have hz:=fL hU.un;clear hp;go_simp;exact hK _ _ (aa w6 _) ⟨_,rfl⟩ ⟨_,rfl,hz,aw w6 _ _⟩ (EK rfl)
 rintro _ ⟨g9,rfl⟩;simp only[bH,bG,bF,bE,bD];intro w9 hw9 hp _;obtain⟨z9,b9⟩:=mN.at_ (hp _ (.head _));have hs9:=hp _ (.tail _ (.head _)) _ _ _ _ _ _ _ _ _ _ rfl;clear hp;simp only[ac,aq];obtain⟨hx9,hb9⟩:=yY hw9.un z9 b9 (.int .i64 k1) (.int .i64 d1) (.int .i64 a1) (.int .i64 b1) (.int .i64 c1) (.slice A1 q1 e1) (.int .i64 (u1:Int));have HT9:=G (mB hw9 z9 [.int .i64 k1, .int .i64 d1, .int .i64 a1, .int .i64 b1, .int .i64 c1, .slice A1 q1 e1, .int .i64 (u1:Int)]);have HS9:=G (hs9.put7 b9 [.int .i64 k1, .int .i64 d1, .int .i64 a1, .int .i64 b1, .int .i64 c1, .slice A1 q1 e1, .int .i64 (u1:Int)]);simp only[World.setCells,be,Nat.reduceAdd]at hx9 hb9 HT9 HS9;have hcc:=b9.cell;have hff:=b9.frozen;have HX9:=G hx9;have HB9:=G hb9;clear b9 hs9 hw9 hx9 hb9;refine aH (by rfl) (by simp) (fun K hK=> ?_);go_simp;refine hK _ _ HT9.out ?_;clear hK;refine aH (by rfl) (by simp) (fun K hK=> ?_);go_simp;refine hK _ _ HT9.out ?_;clear hK;refine b_ ?_;generalize (((((((w9).setCell ⟨g9,0,none⟩ (.int .i64 k1)).setCell ⟨g9,1,none⟩ (.int .i64 d1)).setCell ⟨g9,2,none⟩ (.int .i64 a1)).setCell ⟨g9,3,none⟩ (.int .i64 b1)).setCell ⟨g9,4,none⟩ (.int .i64 c1)).setCell ⟨g9,5,none⟩ (.slice A1 q1 e1)).setCell ⟨g9,6,none⟩ (.int .i64 (u1:Int))=w10 at*;have HX10:=G (HX5.out.trans HX9.out);have HB10:=G (HB5.out.ext HX9.out);clear hcc hff z9 HT9 HO1 HR1 HX5 HB5
 go_upto_region 8 with fail
 refine cG 8 4 [(2,E9,As R),(3,E_ k2 d2 a2 b2 c2 q2 u2 x1,Eg l2),(7,GN,mN w10 49 EJ)] [7] [6] mixed (by kernel_rfl) (by kernel_rfl) (by kernel_rfl) (by rfl)
  ⟨fun _ _ _ h hx=>h.ext hx,fun _ _ _ h hx=>h.ext hx,fun _ _ _ h hx=>h.ext hx,trivial⟩ (fun i hi=> ?_) ?_
 ·obtain rfl:i=7:=by simpa using hi
  exact⟨_,_,rfl,mN.old⟩
 repeat (refine sx ?_ (fun w1 hU=> ?_) ?_;rotate_left;(focus have f5:=(HB10.out.ext hU.un).cell;clear hU;go_simp<;>with_reducible rfl);simp only[bH,bG,bF,bE,bD])
 refine fg _ _ (by rfl) rfl ⟨_,none,0,0,rfl⟩ (by simp) (fun w6 hU hp K hK=> ?_) ?_
 ·have hc:=HO2.out w6 (HX10.out.trans hU.un);clear hp hU;go_simp;refine hc.mono ?_;rintro e w7 ⟨hE,A,n,c,rfl,h⟩;exact hK _ _ hE ⟨_,_,_,rfl⟩ (fun A' n' c' e=>by injection e with e1 e2 e3;subst e1 e2 e3;exact h)
 rintro _ ⟨A6,n6,c6,rfl⟩;simp only[bH,bG,bF,bE,bD];refine fg _ _ (by rfl) rfl ⟨_,none,0,rfl⟩ (by simp) (fun w6 hU hp K hK=> ?_) ?_
 ·have h1:=hp _ (.head _) (by kernel_rfl) _ _ _ rfl;have hc:=HR2.out w6 (HX10.out.trans hU.un) _ _ _ _ _ _ _ ⟨rfl,rfl,rfl,rfl⟩ h1;clear hp hU h1;go_simp;refine hc.mono ?_;rintro e w7 ⟨hE,A,c,rfl,h⟩;exact hK _ _ hE ⟨_,_,rfl⟩ (zq h)
 rintro _ ⟨A2,e2,rfl⟩;simp only[bH,bG,bF,bE,bD];repeat (refine sx ?_ (fun w1 hU=> ?_) ?_;rotate_left;(focus go_simp<;>with_reducible rfl);simp only[bH,bG,bF,bE,bD])
 refine uR _ _ (by rfl) rfl ⟨_,0,rfl⟩ (by simp) (fun w6 hU hp K hK=> ?_) ?_
 ·have hz:=fL hU.un;clear hp;go_simp;exact hK _ _ (aa w6 _) ⟨_,rfl⟩ ⟨_,rfl,hz,aw w6 _ _⟩ (EK rfl)
 rintro _ ⟨g11,rfl⟩;simp only[bH,bG,bF,bE,bD];intro w11 hw11 hp _;obtain⟨z11,b11⟩:=mN.at_ (hp _ (.head _));have hs11:=hp _ (.tail _ (.head _)) _ _ _ _ _ _ _ _ _ _ rfl;clear hp;simp only[ac,aq];obtain⟨hx11,hb11⟩:=yY hw11.un z11 b11 (.int .i64 k2) (.int .i64 d2) (.int .i64 a2) (.int .i64 b2) (.int .i64 c2) (.slice A2 q2 e2) (.int .i64 (u2:Int));have HT11:=G (mB hw11 z11 [.int .i64 k2, .int .i64 d2, .int .i64 a2, .int .i64 b2, .int .i64 c2, .slice A2 q2 e2, .int .i64 (u2:Int)]);have HS11:=G (hs11.put7 b11 [.int .i64 k2, .int .i64 d2, .int .i64 a2, .int .i64 b2, .int .i64 c2, .slice A2 q2 e2, .int .i64 (u2:Int)]);simp only[World.setCells,be,Nat.reduceAdd]at hx11 hb11 HT11 HS11;have hcc:=b11.cell;have hff:=b11.frozen;have HX11:=G hx11;have HB11:=G hb11;clear b11 hs11 hw11 hx11 hb11;refine aH (by rfl) (by simp) (fun K hK=> ?_);go_simp;refine hK _ _ HT11.out ?_;clear hK;refine aH (by rfl) (by simp) (fun K hK=> ?_);go_simp;refine hK _ _ HT11.out ?_;clear hK;refine b_ ?_;generalize (((((((w11).setCell ⟨g11,0,none⟩ (.int .i64 k2)).setCell ⟨g11,1,none⟩ (.int .i64 d2)).setCell ⟨g11,2,none⟩ (.int .i64 a2)).setCell ⟨g11,3,none⟩ (.int .i64 b2)).setCell ⟨g11,4,none⟩ (.int .i64 c2)).setCell ⟨g11,5,none⟩ (.slice A2 q2 e2)).setCell ⟨g11,6,none⟩ (.int .i64 (u2:Int))=w12 at*;have HX12:=G (HX10.out.trans HX11.out);have HA12:=G (HB9.out.ext HX11.out);have HS12:=G (HS9.out.ext HX11.out);have q9:=HA12.out.cell;have q11:=HB11.out.cell;clear hcc hff z11 HT11 HO2 HR2 HX10 HB10 HX11 HX9 HB9 HS9;by_cases hxz:x1=0
 rotate_left
 ·have hx9:(x1==0)=false:=beq_eq_false_iff_ne.2 hxz;have hx8:(x1 !=0)=true:=by simp[bne,hx9]
  have hx7:(x1==x1)=true:=by simp
  have hx6:(x1 !=x1)=false:=by simp
  clear HP;go_wp2_with fail;go_ret;exact⟨kg (by simp_all),HX12.out⟩
 subst hxz;replace HP:=G (HP.out rfl);by_cases hk1':k1=1
 ·obtain⟨h1,h2,h3⟩:=HP.out.2 hk1';subst hk1' h1;have h2':(u1:Int)<=(u2:Int):=by omega
  clear HP;by_cases hkq':u1=q
  ·have g1:((u1:Int)==(q:Int))=true:=by rw[hkq'];simp
   go_wp2_with fail;all_goals (go_ret;exact⟨kg (by simp_all),HX12.out⟩)
  ·have g1:((u1:Int)==(q:Int))=false:=beq_eq_false_iff_ne.2 (by omega);have g2:(u1:Int)<(u2:Int):=by have:=h3 (by omega);omega
   go_wp2_with fail;all_goals (go_ret;exact⟨kg (by simp_all),HX12.out⟩)
 ·have ho:=HP.out.1 hk1';injection ho with o1 o2 o3 o4 o5 o6 o7;subst o1 o2 o3 o4 o5 o6 o7;have hq12:q1=q2:=by rw[<-HL1.out,<-HL2.out]
  subst hq12;have hk2':(k2==1)=false:=beq_eq_false_iff_ne.2 hk1';have hk3':(k2 !=1)=true:=by simp[bne,hk2']
  have HO1:=G (fun(W:World) (hE:au w12 W)=>show Fb ⟨k2,d2,a2,b2,c2,l2,u2⟩ (.agg #[.int .i64 k2, .int .i64 d2, .int .i64 a2, .int .i64 b2, .int .i64 c2, .slice A1 q1 e1, .int .i64 (u2:Int)]) W from⟨A1,e1,by rw[<-HL1.out];rfl,HS12.out.ext hE⟩);have HO2:=G (fun(W:World) (hE:au w12 W)=>show Fb ⟨k2,d2,a2,b2,c2,l2,u2⟩ (.agg #[.int .i64 k2, .int .i64 d2, .int .i64 a2, .int .i64 b2, .int .i64 c2, .slice A2 q1 e2, .int .i64 (u2:Int)]) W from⟨A2,e2,by rw[<-HL1.out];rfl,HS11.out.ext hE⟩);clear HP HL1 HL2
  go_upto_region 12 with fail
  refine ay 5 2 [(1,fun v=>v= .agg #[.int .i64 k2, .int .i64 d2, .int .i64 a2, .int .i64 b2, .int .i64 c2, .slice A1 q1 e1, .int .i64 (u2:Int)],fun _ _=>True),(3,fun v=>v= .agg #[.int .i64 k2, .int .i64 d2, .int .i64 a2, .int .i64 b2, .int .i64 c2, .slice A2 q1 e2, .int .i64 (u2:Int)],fun _ _=>True),(4,fun v=>v= .bool true,fun _ _=>True)] mixed (by kernel_rfl)
   ⟨fun _ _ _ _ _=>trivial,fun _ _ _ _ _=>trivial,fun _ _ _ _ _=>trivial,trivial⟩ ?_
  repeat (refine sx ?_ (fun w1 hU=> ?_) ?_;rotate_left;(focus have q9:=(HA12.out.ext hU.un).cell;have q11:=(HB11.out.ext hU.un).cell;clear hU;go_simp<;>with_reducible rfl);simp only[bH,bG,bF,bE,bD])
  refine so (fun w6 hU hp K hK=> ?_) ?_
  ·have hc:=nL _ _ w6 (HO1.out w6 hU.un);clear hp hU;go_simp;refine hc.mono ?_;rintro e w7 ⟨rfl,hE⟩;exact hK _ _ hE rfl trivial
  rintro _ rfl;simp only[bH,bG,bF,bE,bD];repeat (refine sx ?_ (fun w1 hU=> ?_) ?_;rotate_left;(focus have q9:=(HA12.out.ext hU.un).cell;have q11:=(HB11.out.ext hU.un).cell;clear hU;go_simp<;>with_reducible rfl);simp only[bH,bG,bF,bE,bD])
  refine so (fun w6 hU hp K hK=> ?_) ?_
  ·have hc:=nL _ _ w6 (HO2.out w6 hU.un);clear hp hU;go_simp;refine hc.mono ?_;rintro e w7 ⟨rfl,hE⟩;exact hK _ _ hE rfl trivial
  rintro _ rfl;simp only[bH,bG,bF,bE,bD];refine so (fun w6 hU hp K hK=> ?_) ?_
  ·have hc:=tX _ _ _ _ w6 (HO1.out w6 hU.un) (HO2.out w6 hU.un);rw[tW]at hc;clear hp hU;go_simp;refine hc.mono ?_;rintro e w7 ⟨rfl,hE⟩;exact hK _ _ hE rfl trivial
  rintro _ rfl;simp only[bH,bG,bF,bE,bD];intro w13 hw13 hp;clear hp;simp only[ac,aq];have HX13:=G (HX12.out.trans hw13.un);clear hw13;go_wp2_with fail;go_ret;exact⟨rfl,HX13.out⟩
theorem DM (f:kN) (hn: ¬(f.code.length<=2000/\f.data.length<=2000)) (x:Nat) (w:World) (A B C:Option Addr) (c d q cc:Nat) (hz:EZ w) (ht:dK w w.heap.size) (hB:BT w) (hFT:FT w):
  Calls prog 4 #[f.val A B c d, .slice C q cc, .int .u8 (x:Int)] w fun e w'=>e= .returned (.bool true)/\au w w':=by
 unfold kN.val at*;generalize f.code.length=n at*;generalize f.data.length=m at*;generalize f.zero=z at*;generalize f.entry=en at*;have hE0:=aa w (.cells #[.slice A n c, .slice B m d, .int .i64 z, .int .i64 en] 43);have HE0:=G hE0;have HB0:=G (aw w 43 #[.slice A n c, .slice B m d, .int .i64 z, .int .i64 en]);have HAW:=G (p' _ (hz.ext hE0) (gH ht hE0) (hB.ext hE0) (hFT.ext hE0))
 have HFW:=G (fun(W:World)=>show Calls prog 16 #[.agg #[.slice A n c, .slice B m d, .int .i64 z, .int .i64 en]] W fun e w'=>e= .returned (.bool false)/\au W w' from by
  have:=pX A B n c m d z en W
  rw[show(decide (n<=2000)&&decide (m<=2000))=false by simp only[jQ,decide_eq_false_iff_not];omega]at this;exact this)
 clear hz ht hB hFT hE0 hn;go_enter func4,ntmps4
 go_wp2_with (first
  |(go_at_call 8;refine HAW.out.mono ?_;rintro e w1 ⟨rfl,hE⟩;have HX1:=G (HE0.out.trans hE);have c0:=(HB0.out.ext hE).cell;clear hE HAW HE0 HB0)
  |(go_at_call 16;refine(HFW.out _).mono ?_;rintro e w2 ⟨rfl,hE⟩;have HX2:=G (HX1.out.trans hE);clear c0 hE HFW HX1))
 go_ret;exact⟨rfl,HX2.out⟩
theorem BU (f:kN) (R:Rs) (hr:R.length<=1000000000) (x:Int) (hx:0<=x/\x<=255) (P:Nat->Prop) (w:World) (A B C:Option Addr) (c d q cc:Nat) (hS:Sl w A c f.code) (hS2:Sl w B d f.data) (hR:iT w P (.slice C q cc) R) (hz:EZ w) (ht:dK w w.heap.size) (hB:BT w) (hFT:FT w):
  Calls prog 4 #[f.val A B c d, .slice C q cc, .int .u8 x] w fun e w'=>e= .returned (.bool true)/\au w w':=by
 obtain⟨y,rfl⟩:=aR hx.1;by_cases hf:f.code.length<=2000/\f.data.length<=2000
 ·exact DK f hf.1 hf.2 R hr y (by omega) P w A B C c d q cc hS hS2 hR hz ht hB hFT
 ·exact DM f hf y w A B C c d q cc hz ht hB hFT
end
end Go.Proofs.YtoedmpgicdekmaaGreatDoor
