/-
  Parts of the proof: TyPx.
-/
import Derived.Test.YtddomeddabfinaaGreatDoorTp00
import Derived.Test.YtddomeddabfinaaGreatDoorTp33
import Derived.Test.YtddomeddabfinaaGreatDoorTp42
import Derived.Test.YtddomeddabfinaaGreatDoorTp26
set_option maxRecDepth 100000
set_option maxHeartbeats 8000000
set_option linter.unusedVariables false
set_option linter.unusedSimpArgs false
set_option linter.unusedSectionVars false
namespace Go.Proofs.YtddomeddabfinaaGreatDoor
open Go.Proofs.Tryz
open Go.RowKit
theorem jA.take {w:World} {P:Nat->Prop} {A:Option Addr} {n c:Nat} {R:Rs} (h:jA w P (.slice A n c) R) (k:Nat) (hk:k<=n):jA w P (.slice A k c) (R.take k):=by
 obtain⟨A',c',he,h⟩:=h;injection he with e1 e2 e3;subst e1 e2 e3;refine⟨_,_,by rw[bm,Nat.min_eq_left hk],?_⟩;rcases h with rfl|⟨h1,h2,b,o,ha,hP,hb,da,dc,hc⟩
 ·exact .inl (by simp)
 ·refine .inr ⟨by rw[bm];omega,h2,b,o,ha,hP,hb,da,dc,fun i hi=> ?_⟩;rw[eW];exact hc i (by rw[bm]at hi;omega)
theorem jA.cap {w:World} {P:Nat->Prop} {A:Option Addr} {n c:Nat} {R:Rs} (h:jA w P (.slice A n c) R):n<=c:=by
 obtain⟨A',c',he,h⟩:=h;injection he with e1 e2 e3;subst e1 e2 e3;rcases h with rfl|⟨h1,_⟩
 ·exact aB _
 ·exact h1
theorem jA.xt {w w':World} {v:Value} {R:Rs} {P:Nat->Prop} (h:jA w P v R) (he:au w w'):jA w' P v R:=h.keep (.of_ext he)
theorem EA {w:World} {g:Nat} {t:TypeId} {x0 x1 x2 x3 x4 x5 x6:Value} (h:aS w g t #[x0,x1,x2,x3,x4,x5,x6]) (a b c d e f i:Value):aS (w.setCells g 0 [a,b,c,d,e,f,i]) g t #[a,b,c,d,e,f,i]:=by
 have:=((((((h.set 0 a).set 1 b).set 2 c).set 3 d).set 4 e).set 5 f).set 6 i;simpa[World.setCells]using this
theorem qx {w W:World} {g:Nat} {t:TypeId} (hE:au W w) (hg:W.heap.size<=g) (h:aS w g t o8) (a b c d e f i:Value):
  au W (w.setCells g 0 [a,b,c,d,e,f,i])/\aS (w.setCells g 0 [a,b,c,d,e,f,i]) g t #[a,b,c,d,e,f,i]:=⟨jw hE hg _,EA h a b c d e f i⟩
theorem Sl.off {w:World} {A:Option Addr} {c:Nat} {l:List UInt8} {g:Nat} {t:TypeId} (h:Sl w A c l) (hb:aS w g t o8): ∀b o,A=some ⟨b,o,none⟩->l≠ []->b≠g:=by
 intro b o hA hl e;subst e;rcases h.rd with h0|⟨b',o',ha,_,hc⟩
 ·exact hl h0
 ·rw[hA]at ha;injection ha with ha;injection ha with ha1 ha2;subst ha1 ha2;have:=hc 0 (List.length_pos_iff.2 hl);rw[hb.cell]at this;rcases o with _|_|_|_|_|_|_|o<;>simp at this
theorem Sl.put7 {w:World} {A:Option Addr} {c:Nat} {l:List UInt8} {g:Nat} {t:TypeId} (h:Sl w A c l) (hb:aS w g t o8) (vs:List Value):Sl (w.setCells g 0 vs) A c l:=
 h.keepP (P:=fun b=>b≠g) (.of_grown (cZ g vs 0 w) (fun b hb e=>hb (by injection e))) (h.off hb)
theorem gT {w w':World} {P:Nat->Prop} {v:Value} {l:List Vr} (h:iO w P v l) (he:au w w'):iO w' P v l:=h.keep (.of_ext he) (fun _ hb _=>hb)
theorem gU {w w':World} {P:Nat->Prop} {v:Value} {l:List Fc} (h:ja w P v l) (he:au w w'):ja w' P v l:=h.keep (.of_ext he) (fun _ hb _=>hb)
theorem yT (R:Rs) (hl:R.length<=1000000000) (P:Nat->Prop) (w:World) (v:Value) (hR:jA w P v R):Calls prog 16 #[v] w fun e w'=>(∃b:Bool,e= .returned (.bool b))/\au w w':=yU R hl P w v hR
theorem nH {R:Rs} (hl:R.length<=1000000000) {P:Nat->Prop} {w:World} {v:Value} (hR:jA w P v R):Calls prog 18 #[v] w fun e w'=>au w w'/\ ∃A n c,e= .returned (.slice A n c)/\jA w' (fun _=>True) (.slice A n c) R:=
 (ye R hl P w v hR).mono fun e w' hh=>by
  obtain⟨hE,v',he,h⟩:=hh;have h2:=h.mono (Q:=fun _=>True) (fun _ _ _=>trivial);obtain⟨A,n,c,rfl,_⟩:=h.form;exact⟨hE,A,n,c,he,h2⟩
theorem BP (p:Pg) (hw:jk p<=6000000) (hc:(gy p).2=0) (R:Rs) (n:Nat) (hn:n<=1000000) {k d a b c:Int} {l:List UInt8} {u:Nat} (ho:ic p R n=⟨k,d,a,b,c,l,u⟩) {q:Nat} (hq:l.length=q) (w W:World) (hE:au w W) (A B C:Option Addr) (n1 c1 m1 d1 q1 e1:Nat) (ht:dw w w.heap.size) (hB:BT w) (hV:iO W (fun _=>True) (.slice A n1 c1) p.vs) (hF:ja W (fun _=>True) (.slice B m1 d1) p.fs) (hR:jA W (fun _=>True) (.slice C q1 e1) R):
  Calls prog 17 #[.agg #[.slice A n1 c1, .slice B m1 d1], .slice C q1 e1, .int .i64 (n:Int)] W fun e w'=>au W w'/\ ∃A2 c2,e= .returned (.tuple #[.agg #[.int .i64 k, .int .i64 d, .int .i64 a, .int .i64 b, .int .i64 c, .slice A2 q c2, .int .i64 (u:Int)], .int .i64 0])/\Sl w' A2 c2 l:=
 (nO p hw _ W A B n1 c1 m1 d1 hV hF (eT ht hE) (hB.ext hE) R _ hR (n:Int) (by omega) (by omega)).mono fun e w' hh=>by
  obtain⟨h1,h2⟩:=hh;rw[if_pos hc]at h2;have e0:(n:Int).toNat=n:=rfl;rw[e0,ho]at h2;obtain⟨A2,c2,h2,h3⟩:=h2;subst hq;exact⟨h1,A2,c2,h2,h3⟩
theorem BO (p:Pg) (hw:jk p<=6000000) (hc:(gy p).2≠0) (R:Rs) (n:Nat) (hn:n<=1000000) (w W:World) (hE:au w W) (A B C:Option Addr) (n1 c1 m1 d1 q1 e1:Nat) (ht:dw w w.heap.size) (hB:BT w) (hV:iO W (fun _=>True) (.slice A n1 c1) p.vs) (hF:ja W (fun _=>True) (.slice B m1 d1) p.fs) (hR:jA W (fun _=>True) (.slice C q1 e1) R):
  Calls prog 17 #[.agg #[.slice A n1 c1, .slice B m1 d1], .slice C q1 e1, .int .i64 (n:Int)] W fun e w'=>au W w'/\e= .returned (.tuple #[.agg o8, .int .i64 1]):=
 (nO p hw _ W A B n1 c1 m1 d1 hV hF (eT ht hE) (hB.ext hE) R _ hR (n:Int) (by omega) (by omega)).mono fun e w' hh=>by
  obtain⟨h1,h2⟩:=hh;rw[if_neg hc]at h2;exact⟨h1,h2⟩
abbrev BD (v:Value):Prop:= ∃A n c,v= .slice A n c
def tN (R:Rs) (v:Value) (w:World):Prop:= ∀A n c,v= .slice A n c->jA w (fun _=>True) (.slice A n c) R
theorem tN.ext {R:Rs} {v:Value} {w w':World} (h:tN R v w) (he:au w w'):tN R v w':=fun A n c e=>(h A n c e).xt he
abbrev D4 (k d a b c:Int) (q:Nat) (u:Int) (x:Int) (v:Value):Prop:= ∃A2 c2,v= .tuple #[.agg #[.int .i64 k, .int .i64 d, .int .i64 a, .int .i64 b, .int .i64 c, .slice A2 q c2, .int .i64 u], .int .i64 x]
def Dj (l:List UInt8) (v:Value) (w:World):Prop:= ∀k d a b c A2 q c2 u x,v= .tuple #[.agg #[k,d,a,b,c, .slice A2 q c2,u],x]->Sl w A2 c2 l
theorem Dj.ext {l:List UInt8} {v:Value} {w w':World} (h:Dj l v w) (he:au w w'):Dj l v w':=fun k d a b c A2 q c2 u x e=>(h k d a b c A2 q c2 u x e).ext he
theorem yQ {l:List UInt8} {w:World} {k d a b c:Value} {A2:Option Addr} {q c2:Nat} {u x:Value} (h:Sl w A2 c2 l):Dj l (.tuple #[.agg #[k,d,a,b,c, .slice A2 q c2,u],x]) w:=fun k d a b c A2 q c2 u x e=>by
 simp only[Value.tuple.injEq,eD,dJ,Value.agg.injEq,dH]at e;obtain⟨⟨_,_,_,_,_,⟨rfl,_,rfl⟩,_⟩,_⟩:=e;exact h
theorem DE (p:Pg) (hp:jk p<=6000000) (hck:(gy p).2=0) (R:Rs) (hr:R.length<=1000000000) (x:Nat) (hx:x<256) (P:Nat->Prop) (w:World) (A B C:Option Addr) (n c m d q cc:Nat) (hV:iO w P (.slice A n c) p.vs) (hF:ja w P (.slice B m d) p.fs) (hR:jA w P (.slice C q cc) R) (hz:EZ w) (ht:dw w w.heap.size) (hB:BT w):
  Calls prog 6 #[.agg #[.slice A n c, .slice B m d], .slice C q cc, .int .u8 (x:Int)] w fun e w'=>e= .returned (.bool true)/\au w w':=by
 have hq:R.length=q:=by obtain⟨_,_,_,e,h⟩:=hR.form;injection e with _ e _;rw[h,e]
 have hq2:q<=1000000000:=by omega
 obtain⟨k,hk⟩: ∃k,x%(q+1)=k:=⟨_,rfl⟩
 have hkq:k<=q:=by have:x%(q+1)<q+1:=Nat.mod_lt x (by omega);omega
 have hkc:k<=cc:=aM hkq hR.cap;have hk1:(k:Int)<=(cc:Int):=by omega
 have hrem:(x:Int)%((q:Int)+1)=(k:Int):=by rw[<-hk];rfl
 have hpre:=Ag (R:=R) (k:=k) (by omega) p 2000;obtain⟨⟨k1,d1,a1,b1,c1,l1,u1⟩,ho1⟩: ∃o,ic p (R.take k) 2000=o:=⟨_,rfl⟩
 obtain⟨⟨k2,d2,a2,b2,c2,l2,u2⟩,ho2⟩: ∃o,ic p R 2000=o:=⟨_,rfl⟩
 obtain⟨q1,hq1⟩: ∃z,l1.length=z:=⟨_,rfl⟩
 obtain⟨q2,hq2'⟩: ∃z,l2.length=z:=⟨_,rfl⟩
 rw[ho1,ho2,hq]at hpre;have HP:=G hpre;have hE0:=O w (.cells #[.slice A n c, .slice B m d] 25);have HE0:=G hE0;have HB0:=G (ap w 25 #[.slice A n c, .slice B m d]);have HAW:=G (ng _ (hz.ext hE0) (eT ht hE0) (hB.ext hE0));have HFW:=G (fun(W:World) (h:au w W)=>BX hp (gT hV h) (gU hF h));have HFR:=G (fun(W:World) (h:au w W)=>yT R hr P W _ (hR.xt h));have HOW:=G (fun(W:World) (h:au w W)=>yf hp (gT hV h) (gU hF h));have HO1:=G (fun(W:World) (h:au w W)=>nH (R:=R.take k) (by rw[bm];omega) ((hR.xt h).take k hkq));have HO2:=G (fun(W:World) (h:au w W)=>nH hr (hR.xt h));have HR1:=G (fun W hE A B C n1 c1 m1 d1 q1 e1 hV hF hR=>BP p hp hck (R.take k) 2000 (by decide) ho1 hq1 w W hE A B C n1 c1 m1 d1 q1 e1 ht hB hV hF hR);have HR2:=G (fun W hE A B C n1 c1 m1 d1 q1 e1 hV hF hR=>BP p hp hck R 2000 (by decide) ho2 hq2' w W hE A B C n1 c1 m1 d1 q1 e1 ht hB hV hF hR);have HL1:=G hq1;have HL2:=G hq2';clear hV hF hR hz ht hB hp hck hr hq hpre ho1 ho2 hE0 hq1 hq2' hk;go_enter func6,ntmps6
 go_upto_region 7 with(first
  |(go_at_call 11;refine HAW.out.mono ?_;rintro e w1 ⟨rfl,hE⟩;have HX1:=G (HE0.out.trans hE);have c0:=(HB0.out.ext hE).cell;have HB1:=G (HB0.out.ext hE);clear hE HAW HE0 HB0)
  |(go_at_call 12;refine(HFW.out _ HX1.out).mono ?_;rintro e w2 ⟨⟨b1,rfl⟩,hE⟩;have HX2:=G (HX1.out.trans hE);clear c0;have c0:=(HB1.out.ext hE).cell;have HB2:=G (HB1.out.ext hE);clear hE HFW HX1 HB1;cases b1)
  |(go_at_call 16;refine(HFR.out _ HX2.out).mono ?_;rintro e w3 ⟨⟨b2,rfl⟩,hE⟩;have HX3:=G (HX2.out.trans hE);clear c0;have c0:=(HB2.out.ext hE).cell;clear hE HFR HX2 HB2;cases b2)
  |(go_at_call 14;refine(HOW.out _ HX3.out).mono ?_;rintro e w4 ⟨hE,A4,n4,c4,B4,m4,d4,rfl,hV4,hF4⟩;have HX4:=G (HX3.out.trans hE);have HV4:=G hV4;have HF4:=G hF4;clear c0 hE HOW HX3 hV4 hF4))
 ·go_ret;exact⟨rfl,HX2.out⟩
 ·go_ret;exact⟨rfl,HX3.out⟩
 have hE5:=O w4 (.cells #[.slice A4 n4 c4, .slice B4 m4 d4] 34);have HB5:=G (ap w4 34 #[.slice A4 n4 c4, .slice B4 m4 d4]);have HX5:=G (HX4.out.trans hE5);have HV5:=G (gT HV4.out hE5);have HF5:=G (gU HF4.out hE5);clear hE5 HX4 HV4 HF4;generalize hg5:w4.heap.size=g5 at*;generalize w4.alloc (.cells #[.slice A4 n4 c4, .slice B4 m4 d4] 34)=w5 at*;clear hg5;refine bZ 10 4 [(4,BD,tN (R.take k)),(5,D4 k1 d1 a1 b1 c1 q1 u1 0,Dj l1),(9,Ed,jV w5 42 o8)] [9] [8] mixed (by kernel_rfl) (by kernel_rfl) (by kernel_rfl) (by rfl)
  ⟨fun _ _ _ h hx=>h.ext hx,fun _ _ _ h hx=>h.ext hx,fun _ _ _ h hx=>h.ext hx,trivial⟩ (fun i hi=> ?_) ?_
 ·obtain rfl:i=9:=by simpa using hi
  exact⟨_,_,rfl,oT⟩
 repeat (refine sx ?_ (fun w1 hU=> ?_) ?_;rotate_left;(focus have f5:=(HB5.out.ext hU.un).cell;clear hU;go_simp<;>with_reducible rfl);simp only[aY,aX,aW,aV,aU])
 refine be _ _ (by rfl) rfl ⟨_,none,0,0,rfl⟩ (by simp) (fun w6 hU hp K hK=> ?_) ?_
 ·have hc:=HO1.out w6 (HX5.out.trans hU.un);clear hp hU;go_simp;refine hc.mono ?_;rintro e w7 ⟨hE,A,n,c,rfl,h⟩;exact hK _ _ hE ⟨_,_,_,rfl⟩ (fun A' n' c' e=>by injection e with e1 e2 e3;subst e1 e2 e3;exact h)
 rintro _ ⟨A6,n6,c6,rfl⟩;simp only[aY,aX,aW,aV,aU];refine be _ _ (by rfl) rfl ⟨_,none,0,rfl⟩ (by simp) (fun w6 hU hp K hK=> ?_) ?_
 ·have h1:=hp _ (.head _) (by kernel_rfl) _ _ _ rfl;have hc:=HR1.out w6 (HX5.out.trans hU.un) _ _ _ _ _ _ _ _ _ (gT HV5.out hU.un) (gU HF5.out hU.un) h1;clear hp hU h1;go_simp;refine hc.mono ?_;rintro e w7 ⟨hE,A,c,rfl,h⟩;exact hK _ _ hE ⟨_,_,rfl⟩ (yQ h)
 rintro _ ⟨A1,e1,rfl⟩;simp only[aY,aX,aW,aV,aU];repeat (refine sx ?_ (fun w1 hU=> ?_) ?_;rotate_left;(focus go_simp<;>with_reducible rfl);simp only[aY,aX,aW,aV,aU])
 refine nC _ _ (by rfl) rfl ⟨_,0,rfl⟩ (by simp) (fun w6 hU hp K hK=> ?_) ?_
 ·have hz:=cT hU.un;clear hp;go_simp;exact hK _ _ (O w6 _) ⟨_,rfl⟩ ⟨_,rfl,hz,ap w6 _ _⟩ (AF rfl)
 rintro _ ⟨g9,rfl⟩;simp only[aY,aX,aW,aV,aU];intro w9 hw9 hp _;obtain⟨z9,b9⟩:=oU (hp _ (.head _));have hs9:=hp _ (.tail _ (.head _)) _ _ _ _ _ _ _ _ _ _ rfl;clear hp;simp only[ac,an];obtain⟨hx9,hb9⟩:=qx hw9.un z9 b9 (.int .i64 k1) (.int .i64 d1) (.int .i64 a1) (.int .i64 b1) (.int .i64 c1) (.slice A1 q1 e1) (.int .i64 (u1:Int));have HT9:=G (jw hw9 z9 [.int .i64 k1, .int .i64 d1, .int .i64 a1, .int .i64 b1, .int .i64 c1, .slice A1 q1 e1, .int .i64 (u1:Int)]);have HS9:=G (hs9.put7 b9 [.int .i64 k1, .int .i64 d1, .int .i64 a1, .int .i64 b1, .int .i64 c1, .slice A1 q1 e1, .int .i64 (u1:Int)]);simp only[World.setCells,aD,Nat.reduceAdd]at hx9 hb9 HT9 HS9;have hcc:=b9.cell;have hff:=b9.frozen;have HX9:=G hx9;have HB9:=G hb9;clear b9 hs9 hw9 hx9 hb9;refine aI (by rfl) (by simp) (fun K hK=> ?_);go_simp;refine hK _ _ HT9.out ?_;clear hK;refine aI (by rfl) (by simp) (fun K hK=> ?_);go_simp;refine hK _ _ HT9.out ?_;clear hK;refine bY ?_;generalize (((((((w9).setCell ⟨g9,0,none⟩ (.int .i64 k1)).setCell ⟨g9,1,none⟩ (.int .i64 d1)).setCell ⟨g9,2,none⟩ (.int .i64 a1)).setCell ⟨g9,3,none⟩ (.int .i64 b1)).setCell ⟨g9,4,none⟩ (.int .i64 c1)).setCell ⟨g9,5,none⟩ (.slice A1 q1 e1)).setCell ⟨g9,6,none⟩ (.int .i64 (u1:Int))=w10 at*;have HX10:=G (HX5.out.trans HX9.out);have HB10:=G (HB5.out.ext HX9.out);have HV10:=G (gT HV5.out HX9.out);have HF10:=G (gU HF5.out HX9.out);clear hcc hff z9 HT9 HO1 HR1 HX5 HB5 HV5 HF5
 go_upto_region 8 with fail
 refine bZ 8 4 [(2,BD,tN R),(3,D4 k2 d2 a2 b2 c2 q2 u2 0,Dj l2),(7,Ed,jV w10 42 o8)] [7] [6] mixed (by kernel_rfl) (by kernel_rfl) (by kernel_rfl) (by rfl)
  ⟨fun _ _ _ h hx=>h.ext hx,fun _ _ _ h hx=>h.ext hx,fun _ _ _ h hx=>h.ext hx,trivial⟩ (fun i hi=> ?_) ?_
 ·obtain rfl:i=7:=by simpa using hi
  exact⟨_,_,rfl,oT⟩
 repeat (refine sx ?_ (fun w1 hU=> ?_) ?_;rotate_left;(focus have f5:=(HB10.out.ext hU.un).cell;clear hU;go_simp<;>with_reducible rfl);simp only[aY,aX,aW,aV,aU])
 refine be _ _ (by rfl) rfl ⟨_,none,0,0,rfl⟩ (by simp) (fun w6 hU hp K hK=> ?_) ?_
 ·have hc:=HO2.out w6 (HX10.out.trans hU.un);clear hp hU;go_simp;refine hc.mono ?_;rintro e w7 ⟨hE,A,n,c,rfl,h⟩;exact hK _ _ hE ⟨_,_,_,rfl⟩ (fun A' n' c' e=>by injection e with e1 e2 e3;subst e1 e2 e3;exact h)
 rintro _ ⟨A6,n6,c6,rfl⟩;simp only[aY,aX,aW,aV,aU];refine be _ _ (by rfl) rfl ⟨_,none,0,rfl⟩ (by simp) (fun w6 hU hp K hK=> ?_) ?_
 ·have h1:=hp _ (.head _) (by kernel_rfl) _ _ _ rfl;have hc:=HR2.out w6 (HX10.out.trans hU.un) _ _ _ _ _ _ _ _ _ (gT HV10.out hU.un) (gU HF10.out hU.un) h1;clear hp hU h1;go_simp;refine hc.mono ?_;rintro e w7 ⟨hE,A,c,rfl,h⟩;exact hK _ _ hE ⟨_,_,rfl⟩ (yQ h)
 rintro _ ⟨A2,e2,rfl⟩;simp only[aY,aX,aW,aV,aU];repeat (refine sx ?_ (fun w1 hU=> ?_) ?_;rotate_left;(focus go_simp<;>with_reducible rfl);simp only[aY,aX,aW,aV,aU])
 refine nC _ _ (by rfl) rfl ⟨_,0,rfl⟩ (by simp) (fun w6 hU hp K hK=> ?_) ?_
 ·have hz:=cT hU.un;clear hp;go_simp;exact hK _ _ (O w6 _) ⟨_,rfl⟩ ⟨_,rfl,hz,ap w6 _ _⟩ (AF rfl)
 rintro _ ⟨g11,rfl⟩;simp only[aY,aX,aW,aV,aU];intro w11 hw11 hp _;obtain⟨z11,b11⟩:=oU (hp _ (.head _));have hs11:=hp _ (.tail _ (.head _)) _ _ _ _ _ _ _ _ _ _ rfl;clear hp;simp only[ac,an];obtain⟨hx11,hb11⟩:=qx hw11.un z11 b11 (.int .i64 k2) (.int .i64 d2) (.int .i64 a2) (.int .i64 b2) (.int .i64 c2) (.slice A2 q2 e2) (.int .i64 (u2:Int));have HT11:=G (jw hw11 z11 [.int .i64 k2, .int .i64 d2, .int .i64 a2, .int .i64 b2, .int .i64 c2, .slice A2 q2 e2, .int .i64 (u2:Int)]);have HS11:=G (hs11.put7 b11 [.int .i64 k2, .int .i64 d2, .int .i64 a2, .int .i64 b2, .int .i64 c2, .slice A2 q2 e2, .int .i64 (u2:Int)]);simp only[World.setCells,aD,Nat.reduceAdd]at hx11 hb11 HT11 HS11;have hcc:=b11.cell;have hff:=b11.frozen;have HX11:=G hx11;have HB11:=G hb11;clear b11 hs11 hw11 hx11 hb11;refine aI (by rfl) (by simp) (fun K hK=> ?_);go_simp;refine hK _ _ HT11.out ?_;clear hK;refine aI (by rfl) (by simp) (fun K hK=> ?_);go_simp;refine hK _ _ HT11.out ?_;clear hK;refine bY ?_;generalize (((((((w11).setCell ⟨g11,0,none⟩ (.int .i64 k2)).setCell ⟨g11,1,none⟩ (.int .i64 d2)).setCell ⟨g11,2,none⟩ (.int .i64 a2)).setCell ⟨g11,3,none⟩ (.int .i64 b2)).setCell ⟨g11,4,none⟩ (.int .i64 c2)).setCell ⟨g11,5,none⟩ (.slice A2 q2 e2)).setCell ⟨g11,6,none⟩ (.int .i64 (u2:Int))=w12 at*;have HX12:=G (HX10.out.trans HX11.out);have HA12:=G (HB9.out.ext HX11.out);have HS12:=G (HS9.out.ext HX11.out);have q9:=HA12.out.cell;have q11:=HB11.out.cell;clear hcc hff z11 HT11 HO2 HR2 HX10 HB10 HV10 HF10 HX11 HX9 HB9 HS9;by_cases hk1':k1=1
 ·obtain⟨h1,h2,h3⟩:=HP.out.2 hk1';subst hk1' h1;have h2':(u1:Int)<=(u2:Int):=by omega
  clear HP;by_cases hkq':u1=q
  ·have g1:((u1:Int)==(q:Int))=true:=by rw[hkq'];simp
   go_wp2_with fail;all_goals (go_ret;exact⟨lp (by simp_all),HX12.out⟩)
  ·have g1:((u1:Int)==(q:Int))=false:=beq_eq_false_iff_ne.2 (by omega);have g2:(u1:Int)<(u2:Int):=by have:=h3 (by omega);omega
   go_wp2_with fail;all_goals (go_ret;exact⟨lp (by simp_all),HX12.out⟩)
 ·have ho:=HP.out.1 hk1';injection ho with o1 o2 o3 o4 o5 o6 o7;subst o1 o2 o3 o4 o5 o6 o7;have hq12:q1=q2:=by rw[<-HL1.out,<-HL2.out]
  subst hq12;have hk2':(k2==1)=false:=beq_eq_false_iff_ne.2 hk1';have hk3':(k2 !=1)=true:=by simp[bne,hk2']
  have HO1:=G (fun(W:World) (hE:au w12 W)=>show D6 ⟨k2,d2,a2,b2,c2,l2,u2⟩ (.agg #[.int .i64 k2, .int .i64 d2, .int .i64 a2, .int .i64 b2, .int .i64 c2, .slice A1 q1 e1, .int .i64 (u2:Int)]) W from⟨A1,e1,by rw[<-HL1.out];rfl,HS12.out.ext hE⟩);have HO2:=G (fun(W:World) (hE:au w12 W)=>show D6 ⟨k2,d2,a2,b2,c2,l2,u2⟩ (.agg #[.int .i64 k2, .int .i64 d2, .int .i64 a2, .int .i64 b2, .int .i64 c2, .slice A2 q1 e2, .int .i64 (u2:Int)]) W from⟨A2,e2,by rw[<-HL1.out];rfl,HS11.out.ext hE⟩);clear HP HL1 HL2
  go_upto_region 12 with fail
  refine az 5 2 [(1,fun v=>v= .agg #[.int .i64 k2, .int .i64 d2, .int .i64 a2, .int .i64 b2, .int .i64 c2, .slice A1 q1 e1, .int .i64 (u2:Int)],fun _ _=>True),(3,fun v=>v= .agg #[.int .i64 k2, .int .i64 d2, .int .i64 a2, .int .i64 b2, .int .i64 c2, .slice A2 q1 e2, .int .i64 (u2:Int)],fun _ _=>True),(4,fun v=>v= .bool true,fun _ _=>True)] mixed (by kernel_rfl)
   ⟨fun _ _ _ _ _=>trivial,fun _ _ _ _ _=>trivial,fun _ _ _ _ _=>trivial,trivial⟩ ?_
  repeat (refine sx ?_ (fun w1 hU=> ?_) ?_;rotate_left;(focus have q9:=(HA12.out.ext hU.un).cell;have q11:=(HB11.out.ext hU.un).cell;clear hU;go_simp<;>with_reducible rfl);simp only[aY,aX,aW,aV,aU])
  refine so (fun w6 hU hp K hK=> ?_) ?_
  ·have hc:=nQ _ _ w6 (HO1.out w6 hU.un);clear hp hU;go_simp;refine hc.mono ?_;rintro e w7 ⟨rfl,hE⟩;exact hK _ _ hE rfl trivial
  rintro _ rfl;simp only[aY,aX,aW,aV,aU];repeat (refine sx ?_ (fun w1 hU=> ?_) ?_;rotate_left;(focus have q9:=(HA12.out.ext hU.un).cell;have q11:=(HB11.out.ext hU.un).cell;clear hU;go_simp<;>with_reducible rfl);simp only[aY,aX,aW,aV,aU])
  refine so (fun w6 hU hp K hK=> ?_) ?_
  ·have hc:=nQ _ _ w6 (HO2.out w6 hU.un);clear hp hU;go_simp;refine hc.mono ?_;rintro e w7 ⟨rfl,hE⟩;exact hK _ _ hE rfl trivial
  rintro _ rfl;simp only[aY,aX,aW,aV,aU];refine so (fun w6 hU hp K hK=> ?_) ?_
  ·have hc:=sV _ _ _ _ w6 (HO1.out w6 hU.un) (HO2.out w6 hU.un);rw[sU]at hc;clear hp hU;go_simp;refine hc.mono ?_;rintro e w7 ⟨rfl,hE⟩;exact hK _ _ hE rfl trivial
  rintro _ rfl;simp only[aY,aX,aW,aV,aU];intro w13 hw13 hp;clear hp;simp only[ac,an];have HX13:=G (HX12.out.trans hw13.un);clear hw13;go_wp2_with fail;go_ret;exact⟨rfl,HX13.out⟩
theorem Cp (p:Pg) (hp:jk p<=6000000) (hck:(gy p).2≠0) (R:Rs) (hr:R.length<=1000000000) (x:Nat) (hx:x<256) (P:Nat->Prop) (w:World) (A B C:Option Addr) (n c m d q cc:Nat) (hV:iO w P (.slice A n c) p.vs) (hF:ja w P (.slice B m d) p.fs) (hR:jA w P (.slice C q cc) R) (hz:EZ w) (ht:dw w w.heap.size) (hB:BT w):
  Calls prog 6 #[.agg #[.slice A n c, .slice B m d], .slice C q cc, .int .u8 (x:Int)] w fun e w'=>e= .returned (.bool true)/\au w w':=by
 have hq:R.length=q:=by obtain⟨_,_,_,e,h⟩:=hR.form;injection e with _ e _;rw[h,e]
 have hq2:q<=1000000000:=by omega
 obtain⟨k,hk⟩: ∃k,x%(q+1)=k:=⟨_,rfl⟩
 have hkq:k<=q:=by have:x%(q+1)<q+1:=Nat.mod_lt x (by omega);omega
 have hkc:k<=cc:=aM hkq hR.cap;have hk1:(k:Int)<=(cc:Int):=by omega
 have hrem:(x:Int)%((q:Int)+1)=(k:Int):=by rw[<-hk];rfl
 have hE0:=O w (.cells #[.slice A n c, .slice B m d] 25);have HE0:=G hE0;have HB0:=G (ap w 25 #[.slice A n c, .slice B m d]);have HAW:=G (ng _ (hz.ext hE0) (eT ht hE0) (hB.ext hE0));have HFW:=G (fun(W:World) (h:au w W)=>BX hp (gT hV h) (gU hF h));have HFR:=G (fun(W:World) (h:au w W)=>yT R hr P W _ (hR.xt h));have HOW:=G (fun(W:World) (h:au w W)=>yf hp (gT hV h) (gU hF h));have HO1:=G (fun(W:World) (h:au w W)=>nH (R:=R.take k) (by rw[bm];omega) ((hR.xt h).take k hkq));have HO2:=G (fun(W:World) (h:au w W)=>nH hr (hR.xt h));have HR1:=G (fun W hE A B C n1 c1 m1 d1 q1 e1 hV hF hR=>BO p hp hck (R.take k) 2000 (by decide) w W hE A B C n1 c1 m1 d1 q1 e1 ht hB hV hF hR);have HR2:=G (fun W hE A B C n1 c1 m1 d1 q1 e1 hV hF hR=>BO p hp hck R 2000 (by decide) w W hE A B C n1 c1 m1 d1 q1 e1 ht hB hV hF hR);clear hV hF hR hz ht hB hp hck hr hq hE0 hk;go_enter func6,ntmps6
 go_upto_region 7 with(first
  |(go_at_call 11;refine HAW.out.mono ?_;rintro e w1 ⟨rfl,hE⟩;have HX1:=G (HE0.out.trans hE);have c0:=(HB0.out.ext hE).cell;have HB1:=G (HB0.out.ext hE);clear hE HAW HE0 HB0)
  |(go_at_call 12;refine(HFW.out _ HX1.out).mono ?_;rintro e w2 ⟨⟨b1,rfl⟩,hE⟩;have HX2:=G (HX1.out.trans hE);clear c0;have c0:=(HB1.out.ext hE).cell;have HB2:=G (HB1.out.ext hE);clear hE HFW HX1 HB1;cases b1)
  |(go_at_call 16;refine(HFR.out _ HX2.out).mono ?_;rintro e w3 ⟨⟨b2,rfl⟩,hE⟩;have HX3:=G (HX2.out.trans hE);clear c0;have c0:=(HB2.out.ext hE).cell;clear hE HFR HX2 HB2;cases b2)
  |(go_at_call 14;refine(HOW.out _ HX3.out).mono ?_;rintro e w4 ⟨hE,A4,n4,c4,B4,m4,d4,rfl,hV4,hF4⟩;have HX4:=G (HX3.out.trans hE);have HV4:=G hV4;have HF4:=G hF4;clear c0 hE HOW HX3 hV4 hF4))
 ·go_ret;exact⟨rfl,HX2.out⟩
 ·go_ret;exact⟨rfl,HX3.out⟩
 have hE5:=O w4 (.cells #[.slice A4 n4 c4, .slice B4 m4 d4] 34);have HB5:=G (ap w4 34 #[.slice A4 n4 c4, .slice B4 m4 d4]);have HX5:=G (HX4.out.trans hE5);have HV5:=G (gT HV4.out hE5);have HF5:=G (gU HF4.out hE5);clear hE5 HX4 HV4 HF4;generalize hg5:w4.heap.size=g5 at*;generalize w4.alloc (.cells #[.slice A4 n4 c4, .slice B4 m4 d4] 34)=w5 at*;clear hg5;refine bZ 10 4 [(4,BD,tN (R.take k)),(5,fun v=>v= .tuple #[.agg o8, .int .i64 1],fun _ _=>True),(9,Ed,jV w5 42 o8)] [9] [8] mixed (by kernel_rfl) (by kernel_rfl) (by kernel_rfl) (by rfl)
  ⟨fun _ _ _ h hx=>h.ext hx,fun _ _ _ _ _=>trivial,fun _ _ _ h hx=>h.ext hx,trivial⟩ (fun i hi=> ?_) ?_
 ·obtain rfl:i=9:=by simpa using hi
  exact⟨_,_,rfl,oT⟩
 repeat (refine sx ?_ (fun w1 hU=> ?_) ?_;rotate_left;(focus have f5:=(HB5.out.ext hU.un).cell;clear hU;go_simp<;>with_reducible rfl);simp only[aY,aX,aW,aV,aU])
 refine be _ _ (by rfl) rfl ⟨_,none,0,0,rfl⟩ (by simp) (fun w6 hU hp K hK=> ?_) ?_
 ·have hc:=HO1.out w6 (HX5.out.trans hU.un);clear hp hU;go_simp;refine hc.mono ?_;rintro e w7 ⟨hE,A,n,c,rfl,h⟩;exact hK _ _ hE ⟨_,_,_,rfl⟩ (fun A' n' c' e=>by injection e with e1 e2 e3;subst e1 e2 e3;exact h)
 rintro _ ⟨A6,n6,c6,rfl⟩;simp only[aY,aX,aW,aV,aU];refine so (fun w6 hU hp K hK=> ?_) ?_
 ·have h1:=hp _ (.head _) (by kernel_rfl) _ _ _ rfl;have hc:=HR1.out w6 (HX5.out.trans hU.un) _ _ _ _ _ _ _ _ _ (gT HV5.out hU.un) (gU HF5.out hU.un) h1;clear hp hU h1;go_simp;refine hc.mono ?_;rintro e w7 ⟨hE,rfl⟩;exact hK _ _ hE rfl trivial
 rintro _ rfl;simp only[aY,aX,aW,aV,aU];repeat (refine sx ?_ (fun w1 hU=> ?_) ?_;rotate_left;(focus go_simp<;>with_reducible rfl);simp only[aY,aX,aW,aV,aU])
 refine nC _ _ (by rfl) rfl ⟨_,0,rfl⟩ (by simp) (fun w6 hU hp K hK=> ?_) ?_
 ·have hz:=cT hU.un;clear hp;go_simp;exact hK _ _ (O w6 _) ⟨_,rfl⟩ ⟨_,rfl,hz,ap w6 _ _⟩ (AF rfl)
 rintro _ ⟨g9,rfl⟩;simp only[aY,aX,aW,aV,aU];intro w9 hw9 hp _;obtain⟨z9,b9⟩:=oU (hp _ (.head _));clear hp;simp only[ac,an];obtain⟨hx9,hb9⟩:=qx hw9.un z9 b9 (.int .i64 0) (.int .i64 0) (.int .i64 0) (.int .i64 0) (.int .i64 0) (.slice none 0 0) (.int .i64 0);have HT9:=G (jw hw9 z9 [.int .i64 0, .int .i64 0, .int .i64 0, .int .i64 0, .int .i64 0, .slice none 0 0, .int .i64 0]);simp only[World.setCells,aD,Nat.reduceAdd]at hx9 hb9 HT9;have hcc:=b9.cell;have hff:=b9.frozen;have HX9:=G hx9;have HB9:=G hb9;clear b9 hw9 hx9 hb9;refine aI (by rfl) (by simp) (fun K hK=> ?_);go_simp;refine hK _ _ HT9.out ?_;clear hK;refine aI (by rfl) (by simp) (fun K hK=> ?_);go_simp;refine hK _ _ HT9.out ?_;clear hK;refine bY ?_;generalize (((((((w9).setCell ⟨g9,0,none⟩ (.int .i64 0)).setCell ⟨g9,1,none⟩ (.int .i64 0)).setCell ⟨g9,2,none⟩ (.int .i64 0)).setCell ⟨g9,3,none⟩ (.int .i64 0)).setCell ⟨g9,4,none⟩ (.int .i64 0)).setCell ⟨g9,5,none⟩ (.slice none 0 0)).setCell ⟨g9,6,none⟩ (.int .i64 0)=w10 at*;have HX10:=G (HX5.out.trans HX9.out);have HB10:=G (HB5.out.ext HX9.out);have HV10:=G (gT HV5.out HX9.out);have HF10:=G (gU HF5.out HX9.out);clear hcc hff z9 HT9 HO1 HR1 HX5 HB5 HV5 HF5
 go_upto_region 8 with fail
 refine bZ 8 4 [(2,BD,tN R),(3,fun v=>v= .tuple #[.agg o8, .int .i64 1],fun _ _=>True),(7,Ed,jV w10 42 o8)] [7] [6] mixed (by kernel_rfl) (by kernel_rfl) (by kernel_rfl) (by rfl)
  ⟨fun _ _ _ h hx=>h.ext hx,fun _ _ _ _ _=>trivial,fun _ _ _ h hx=>h.ext hx,trivial⟩ (fun i hi=> ?_) ?_
 ·obtain rfl:i=7:=by simpa using hi
  exact⟨_,_,rfl,oT⟩
 repeat (refine sx ?_ (fun w1 hU=> ?_) ?_;rotate_left;(focus have f5:=(HB10.out.ext hU.un).cell;clear hU;go_simp<;>with_reducible rfl);simp only[aY,aX,aW,aV,aU])
 refine be _ _ (by rfl) rfl ⟨_,none,0,0,rfl⟩ (by simp) (fun w6 hU hp K hK=> ?_) ?_
 ·have hc:=HO2.out w6 (HX10.out.trans hU.un);clear hp hU;go_simp;refine hc.mono ?_;rintro e w7 ⟨hE,A,n,c,rfl,h⟩;exact hK _ _ hE ⟨_,_,_,rfl⟩ (fun A' n' c' e=>by injection e with e1 e2 e3;subst e1 e2 e3;exact h)
 rintro _ ⟨A6,n6,c6,rfl⟩;simp only[aY,aX,aW,aV,aU];refine so (fun w6 hU hp K hK=> ?_) ?_
 ·have h1:=hp _ (.head _) (by kernel_rfl) _ _ _ rfl;have hc:=HR2.out w6 (HX10.out.trans hU.un) _ _ _ _ _ _ _ _ _ (gT HV10.out hU.un) (gU HF10.out hU.un) h1;clear hp hU h1;go_simp;refine hc.mono ?_;rintro e w7 ⟨hE,rfl⟩;exact hK _ _ hE rfl trivial
 rintro _ rfl;simp only[aY,aX,aW,aV,aU];repeat (refine sx ?_ (fun w1 hU=> ?_) ?_;rotate_left;(focus go_simp<;>with_reducible rfl);simp only[aY,aX,aW,aV,aU])
 refine nC _ _ (by rfl) rfl ⟨_,0,rfl⟩ (by simp) (fun w6 hU hp K hK=> ?_) ?_
 ·have hz:=cT hU.un;clear hp;go_simp;exact hK _ _ (O w6 _) ⟨_,rfl⟩ ⟨_,rfl,hz,ap w6 _ _⟩ (AF rfl)
 rintro _ ⟨g11,rfl⟩;simp only[aY,aX,aW,aV,aU];intro w11 hw11 hp _;obtain⟨z11,b11⟩:=oU (hp _ (.head _));clear hp;simp only[ac,an];obtain⟨hx11,hb11⟩:=qx hw11.un z11 b11 (.int .i64 0) (.int .i64 0) (.int .i64 0) (.int .i64 0) (.int .i64 0) (.slice none 0 0) (.int .i64 0);have HT11:=G (jw hw11 z11 [.int .i64 0, .int .i64 0, .int .i64 0, .int .i64 0, .int .i64 0, .slice none 0 0, .int .i64 0]);simp only[World.setCells,aD,Nat.reduceAdd]at hx11 hb11 HT11;have hcc:=b11.cell;have hff:=b11.frozen;have HX11:=G hx11;have HB11:=G hb11;clear b11 hw11 hx11 hb11;refine aI (by rfl) (by simp) (fun K hK=> ?_);go_simp;refine hK _ _ HT11.out ?_;clear hK;refine aI (by rfl) (by simp) (fun K hK=> ?_);go_simp;refine hK _ _ HT11.out ?_;clear hK;refine bY ?_;generalize (((((((w11).setCell ⟨g11,0,none⟩ (.int .i64 0)).setCell ⟨g11,1,none⟩ (.int .i64 0)).setCell ⟨g11,2,none⟩ (.int .i64 0)).setCell ⟨g11,3,none⟩ (.int .i64 0)).setCell ⟨g11,4,none⟩ (.int .i64 0)).setCell ⟨g11,5,none⟩ (.slice none 0 0)).setCell ⟨g11,6,none⟩ (.int .i64 0)=w12 at*;have HX12:=G (HX10.out.trans HX11.out);have HA12:=G (HB9.out.ext HX11.out);have q9:=HA12.out.cell;have q11:=HB11.out.cell;clear hcc hff z11 HT11 HO2 HR2 HX10 HB10 HV10 HF10 HX11 HX9 HB9;go_wp2_with fail;go_ret;exact⟨rfl,HX12.out⟩
theorem Co (p:Pg) (hp:jk p<=6000000) (R:Rs) (hr:R.length<=1000000000) (x:Int) (hx:0<=x/\x<=255) (P:Nat->Prop) (w:World) (A B C:Option Addr) (n c m d q cc:Nat) (hV:iO w P (.slice A n c) p.vs) (hF:ja w P (.slice B m d) p.fs) (hR:jA w P (.slice C q cc) R) (hz:EZ w) (ht:dw w w.heap.size) (hB:BT w):
  Calls prog 6 #[.agg #[.slice A n c, .slice B m d], .slice C q cc, .int .u8 x] w fun e w'=>e= .returned (.bool true)/\au w w':=by
 obtain⟨y,rfl⟩:=cY hx.1;by_cases hck:(gy p).2=0
 ·exact DE p hp hck R hr y (by omega) P w A B C n c m d q cc hV hF hR hz ht hB
 ·exact Cp p hp hck R hr y (by omega) P w A B C n c m d q cc hV hF hR hz ht hB
end Go.Proofs.YtddomeddabfinaaGreatDoor
