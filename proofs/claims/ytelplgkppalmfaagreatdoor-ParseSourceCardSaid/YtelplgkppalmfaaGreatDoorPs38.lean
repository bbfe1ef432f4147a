/-
  Parts of the proof: VrE.
-/
import Derived.Test.YtelplgkppalmfaaGreatDoorPs00
import Derived.Test.YtelplgkppalmfaaGreatDoorPs37
import Derived.Test.YtelplgkppalmfaaGreatDoorPs22
set_option maxRecDepth 100000
set_option maxHeartbeats 8000000
set_option linter.unusedVariables false
set_option linter.unusedSimpArgs false
namespace Go.Proofs.YtelplgkppalmfaaGreatDoor
open Go.Proofs.Tryz
open Go.RowKit
theorem fZ {z R:List UInt8} (h:z=R):Ending.returned (.string (ae z))= .returned (.string (ae R)):=by rw[h]
theorem ct {A B:ByteArray} (a b:List UInt8) (hA:A=ae a) (hB:B=ae b) (n m:Nat) (hn:a.length=n) (hm:b.length=m) (h:n+m<=8000000000):
  ∃z,Hid (a++b=z)/\A++B=ae z/\(¬9223372036854775807<n+m)/\Hid (z.length=n+m)/\(ae z).size=z.length/\A.size=n/\B.size=m:=by
 subst hA hB hn hm;exact⟨_,G rfl,cu a b,by omega,G aa,aM _,aM _,aM _⟩
def C6 (w:World) (b o:Nat) (x:Ex) (s:Value):Prop:=w.cell? ⟨b,o,none⟩=some (.int .i64 x.k)/\w.cell? ⟨b,o+1,none⟩=some (.string (ae x.op))/\w.cell? ⟨b,o+2,none⟩=some (.string (ae x.nm))/\w.cell? ⟨b,o+3,none⟩=some (.string (ae x.tx))/\w.cell? ⟨b,o+4,none⟩=some (.int .i64 x.v)/\w.cell? ⟨b,o+5,none⟩=some s
theorem C6.ext {w W:World} {b o:Nat} {x:Ex} {s:Value} (h:C6 w b o x s) (hb:b<w.heap.size) (hE:al w W):C6 W b o x s:=
 ⟨(hE.cell b _ hb).trans h.1,(hE.cell b _ hb).trans h.2.1,(hE.cell b _ hb).trans h.2.2.1,(hE.cell b _ hb).trans h.2.2.2.1,(hE.cell b _ hb).trans h.2.2.2.2.1,(hE.cell b _ hb).trans h.2.2.2.2.2⟩
theorem rm {w:World} {P:Nat->Prop} {A:Option Addr} {n c:Nat} {l:List Ex} (hR:bZ w P (.slice A n c) l) (i:Nat) (hi:i<l.length): ∃b o B d,A=some ⟨b,o,none⟩/\b<w.heap.size/\C6 w b (o+i*6) l[i] (.slice B l[i].args.length d)/\bZ w P (.slice B l[i].args.length d) l[i].args:=by
 obtain⟨b,o,a,hA,hb,hP,y0,y1,y2,y3,y4,y5,hRy⟩:=hR.at_ i hi;obtain⟨B,d,rfl,_⟩:=hRy.form;exact⟨b,o,B,d,hA,hb,⟨y0,y1,y2,y3,y4,y5⟩,hRy⟩
theorem gV {w:World} {P:Nat->Prop} {A:Option Addr} {n c:Nat} {y:Ex} (hR:bZ w P (.slice A n c) [y]): ∃b o B d,n=1/\A=some ⟨b,o,none⟩/\b<w.heap.size/\C6 w b o y (.slice B y.args.length d)/\bZ w P (.slice B y.args.length d) y.args:=by
 obtain⟨b,o,B,d,hA,hb,h6,h⟩:=rm hR 0 (by simp);exact⟨b,o,B,d,hR.len,hA,hb,by simpa using h6,h⟩
theorem vR {w:World} {P:Nat->Prop} {A:Option Addr} {n c:Nat} {y z:Ex} (hR:bZ w P (.slice A n c) [y,z]): ∃b o B d B' d',n=2/\A=some ⟨b,o,none⟩/\b<w.heap.size/\C6 w b o y (.slice B y.args.length d)/\C6 w b (o+6) z (.slice B' z.args.length d')/\bZ w P (.slice B y.args.length d) y.args/\bZ w P (.slice B' z.args.length d') z.args:=by
 obtain⟨b,o,B,d,hA,hb,h6,h⟩:=rm hR 0 (by simp);obtain⟨b',o',B',d',hA',hb',h6',h'⟩:=rm hR 1 (by simp);rw[hA]at hA';injection hA' with hA';injection hA' with e1 e2;subst e1 e2;exact⟨b,o,B,d,B',d',hR.len,hA,hb,by simpa using h6,by simpa using h6',h,h'⟩
def iv (x:Ex):Prop:= ∀(P:Nat->Prop) (w:World) (A:Option Addr) (n c:Nat),bZ w P (.slice A n c) x.args->(a7 x).length<=1000000000->
 Calls prog 27 #[.agg #[.int .i64 x.k, .string (ae x.op), .string (ae x.nm), .string (ae x.tx), .int .i64 x.v, .slice A n c]] w fun e w'=>e= .returned (.string (ae (a7 x)))/\al w w'
theorem sO (k:Int) (op nm tx:List UInt8) (v:Int) (w:World) (s:Value):
  Calls prog 106 #[.agg #[.int .i64 k, .string (ae op), .string (ae nm), .string (ae tx), .int .i64 v,s]] w fun e w'=>e= .returned (.int .i64 (if k=7 then eW op else if k=6 then 7 else 8))/\al w w':=by
 have HX:=G (O w (.cells #[.int .i64 k, .string (ae op), .string (ae nm), .string (ae tx), .int .i64 v,s] 49));by_cases h7:k=7
 ·subst h7;have HL:=G (i8 op);rw[if_pos rfl];generalize eW op=z at*;go_enter func106,ntmps106;go_wp2_with (go_at_call 23;refine(HL.out _).mono ?_;rintro e w3 ⟨rfl,rfl⟩;clear HL);go_ret;exact⟨rfl,HX.out⟩
 ·rw[if_neg h7];have e7:(k==7)=false:=beq_eq_false_iff_ne.2 h7;by_cases h6:k=6
  ·subst h6;rw[if_pos rfl];go_enter func106,ntmps106;go_wp2_with fail;go_ret;exact⟨rfl,HX.out⟩
  ·rw[if_neg h6];have e6:(k==6)=false:=beq_eq_false_iff_ne.2 h6;go_enter func106,ntmps106;go_wp2_with fail;go_ret;exact⟨rfl,HX.out⟩
theorem oK (x:Ex) (hx:iv x) (m:Int) (P:Nat->Prop) (w:World) (A:Option Addr) (n c:Nat) (hR:bZ w P (.slice A n c) x.args) (hl:(a7 x).length<=1000000000):
  Calls prog 58 #[.agg #[.int .i64 x.k, .string (ae x.op), .string (ae x.nm), .string (ae x.tx), .int .i64 x.v, .slice A n c], .int .i64 m] w fun e w'=>e= .returned (.string (ae (iF (decide (x.prec<m)) (a7 x))))/\al w w':=by
 have HX:=G hx;clear hx;unfold iv at HX;have HK:=G (sO x.k x.op x.nm x.tx x.v);have hp:x.prec=(if x.k=7 then eW x.op else if x.k=6 then 7 else 8):=rfl;rw[<-hp]at HK;clear hp;generalize x.prec=p at*;generalize a7 x=S at*;generalize hargs:x.args=xs at*;generalize x.k=k at*;generalize x.op=op at*;generalize x.nm=nm at*;generalize x.tx=tx at*;generalize x.v=v at*;have HE:=G (O w (.cells #[.int .i64 k, .string (ae op), .string (ae nm), .string (ae tx), .int .i64 v, .slice A n c] 49));have HB:=G (ai w 49 #[.int .i64 k, .string (ae op), .string (ae nm), .string (ae tx), .int .i64 v, .slice A n c]);have HR:=G (hR.keep (.of_ext HE.out) (Q:=P) (fun _ hb _=>hb));clear hR;by_cases hlt:p<m
 ·rw[decide_eq_true hlt];obtain⟨z1,Hz1,qz1,bz1,Lz1,kz1,kaz1,kbz1⟩:=ct (A:=(⟨#[40]⟩:ByteArray)) (B:=(ae S)) [40] S rfl rfl 1 S.length rfl rfl (by first|omega|(omega));obtain⟨z2,Hz2,qz2,bz2,Lz2,kz2,kaz2,kbz2⟩:=ct (A:=(ae z1)) (B:=(⟨#[41]⟩:ByteArray)) z1 [41] rfl rfl z1.length 1 rfl rfl (by first|omega|(have:=Lz1.out;omega));have HS:=G (show z2=iF true S by rw[<-Hz2.out,<-Hz1.out];simp[iF]);go_enter func58,ntmps58;go_wp2_with (first|(go_at_call 106;refine(HK.out _ _).mono ?_;rintro e w3 ⟨rfl,hE⟩;have HE3:=G (HE.out.trans hE);have HR3:=G (HR.out.keep (.of_ext hE) (Q:=P) (fun _ hb _=>hb));have f3:=(HB.out.ext hE).cell;clear hE HE HR HK HB)|(go_at_call 27;refine(HX.out P _ A n c HR3.out hl).mono ?_;rintro e w4 ⟨rfl,hE⟩;have HE4:=G (HE3.out.trans hE);clear hE HE3 HR3 HX));go_ret;exact⟨fZ HS.out,HE4.out⟩
 ·rw[decide_eq_false hlt];go_enter func58,ntmps58;go_wp2_with (first|(go_at_call 106;refine(HK.out _ _).mono ?_;rintro e w3 ⟨rfl,hE⟩;have HE3:=G (HE.out.trans hE);have HR3:=G (HR.out.keep (.of_ext hE) (Q:=P) (fun _ hb _=>hb));have f3:=(HB.out.ext hE).cell;clear hE HE HR HK HB)|(go_at_call 27;refine(HX.out P _ A n c HR3.out hl).mono ?_;rintro e w4 ⟨rfl,hE⟩;have HE4:=G (HE3.out.trans hE);clear hE HE3 HR3 HX));go_ret;exact⟨rfl,HE4.out⟩
theorem xv (op nm tx:List UInt8) (v:Int) (xs:List Ex) (h0:0<=v) (h1:v<=2147483647) (P:Nat->Prop) (w:World) (A:Option Addr) (n c:Nat) (hR:bZ w P (.slice A n c) xs) (hl:(a7 (.mk 1 op nm tx v xs)).length<=1000000000):
  Calls prog 27 #[.agg #[.int .i64 1, .string (ae op), .string (ae nm), .string (ae tx), .int .i64 v, .slice A n c]] w fun e w'=>e= .returned (.string (ae (a7 (.mk 1 op nm tx v xs))))/\al w w':=by
 rw[show a7 (.mk 1 op nm tx v xs)=fw v.toNat from by rw[a7];exact if_pos rfl];have hmx:max (0:Int) v=(v.toNat:Int):=by omega
 obtain⟨n0,hn0⟩: ∃n0,v.toNat=n0:=⟨_,rfl⟩
 rw[hn0]at hmx;rw[hn0];have HD:=G (fun w=>lU 9 n0 w (by omega) (by omega));clear hl hR;have HE:=G (O w (.cells #[.int .i64 1, .string (ae op), .string (ae nm), .string (ae tx), .int .i64 v, .slice A n c] 49));have HB:=G (ai w 49 #[.int .i64 1, .string (ae op), .string (ae nm), .string (ae tx), .int .i64 v, .slice A n c]);generalize fw n0=D at*;go_enter func27,ntmps27;go_wp2_with (go_at_call 56;refine(HD.out _).mono ?_;rintro e w3 ⟨rfl,rfl⟩;clear HD);go_ret;exact⟨rfl,HE.out⟩
theorem xu (op nm tx:List UInt8) (v:Int) (xs:List Ex) (h0:tx.length<=128) (P:Nat->Prop) (w:World) (A:Option Addr) (n c:Nat) (hR:bZ w P (.slice A n c) xs) (hl:(a7 (.mk 2 op nm tx v xs)).length<=1000000000):
  Calls prog 27 #[.agg #[.int .i64 2, .string (ae op), .string (ae nm), .string (ae tx), .int .i64 v, .slice A n c]] w fun e w'=>e= .returned (.string (ae (a7 (.mk 2 op nm tx v xs))))/\al w w':=by
 rw[show a7 (.mk 2 op nm tx v xs)=ie tx from rfl];have HD:=G (fun w=>q7 tx (by omega) w);clear hl hR;have HE:=G (O w (.cells #[.int .i64 2, .string (ae op), .string (ae nm), .string (ae tx), .int .i64 v, .slice A n c] 49));have HB:=G (ai w 49 #[.int .i64 2, .string (ae op), .string (ae nm), .string (ae tx), .int .i64 v, .slice A n c]);generalize ie tx=D at*;go_enter func27,ntmps27;go_wp2_with (go_at_call 57;refine(HD.out _).mono ?_;rintro e w3 ⟨rfl,hE⟩;have HE3:=G (HE.out.trans hE);clear hE HD HE);go_ret;exact⟨rfl,HE3.out⟩
theorem xt (op nm tx:List UInt8) (v:Int) (xs:List Ex) (P:Nat->Prop) (w:World) (A:Option Addr) (n c:Nat) (hR:bZ w P (.slice A n c) xs) (hl:(a7 (.mk 3 op nm tx v xs)).length<=1000000000):
  Calls prog 27 #[.agg #[.int .i64 3, .string (ae op), .string (ae nm), .string (ae tx), .int .i64 v, .slice A n c]] w fun e w'=>e= .returned (.string (ae (a7 (.mk 3 op nm tx v xs))))/\al w w':=by
 rw[show a7 (.mk 3 op nm tx v xs)=nm from rfl];clear hl hR;have HE:=G (O w (.cells #[.int .i64 3, .string (ae op), .string (ae nm), .string (ae tx), .int .i64 v, .slice A n c] 49));have HB:=G (ai w 49 #[.int .i64 3, .string (ae op), .string (ae nm), .string (ae tx), .int .i64 v, .slice A n c]);go_enter func27,ntmps27;go_wp2_with fail;go_ret;exact⟨rfl,HE.out⟩
theorem xr (op nm tx:List UInt8) (v:Int) (y:Ex) (hy:iv y) (P:Nat->Prop) (w:World) (A:Option Addr) (n c:Nat) (hR:bZ w P (.slice A n c) [y]) (hl:(a7 (.mk 4 op nm tx v [y])).length<=1000000000):
  Calls prog 27 #[.agg #[.int .i64 4, .string (ae op), .string (ae nm), .string (ae tx), .int .i64 v, .slice A n c]] w fun e w'=>e= .returned (.string (ae (a7 (.mk 4 op nm tx v [y]))))/\al w w':=by
 have hn:=hR.len;simp only[ac,af]at hn;obtain rfl:n=1:=hn;have HS0:=G (show nm++[91]++a7 y++[93]=a7 (.mk 4 op nm tx v [y])from rfl);have hlen:nm.length+1+(a7 y).length+1=(a7 (.mk 4 op nm tx v [y])).length:=by rw[<-HS0.out];simp only[aa,ac,af]
 generalize a7 (.mk 4 op nm tx v [y])=R at*;obtain⟨b0,o0,a0,hA0,hb0,hP0,y00,y10,y20,y30,y40,y50,hRy0⟩:=hR.at_ 0 (by simp);simp only[aL,aP,bl,bp,ca]at y00 y10 y20 y30 y40 y50 hRy0;obtain⟨B0,d0,rfl,_⟩:=hRy0.form;have HY0:=G (aq y00 (aq y10 (aq y20 (aq y30 (aq y40 y50)))));have HR0:=G hRy0;clear y00 y10 y20 y30 y40 y50 hRy0;subst hA0;have HE:=G (O w (.cells #[.int .i64 4, .string (ae op), .string (ae nm), .string (ae tx), .int .i64 v, .slice (some ⟨b0,o0,none⟩) 1 c] 49));have HB:=G (ai w 49 #[.int .i64 4, .string (ae op), .string (ae nm), .string (ae tx), .int .i64 v, .slice (some ⟨b0,o0,none⟩) 1 c]);clear hR;have HC:=G (fun W (hW:al w W)=>hy P W B0 _ d0 (HR0.out.keep (.of_ext hW) (Q:=P) (fun _ hb _=>hb)) (by omega));clear hy;generalize a7 y=Y at*;obtain⟨z1,Hz1,qz1,bz1,Lz1,kz1,kaz1,kbz1⟩:=ct (A:=(ae nm)) (B:=(⟨#[91]⟩:ByteArray)) nm [91] rfl rfl nm.length 1 rfl rfl (by first|omega|(omega));obtain⟨z2,Hz2,qz2,bz2,Lz2,kz2,kaz2,kbz2⟩:=ct (A:=(ae z1)) (B:=(ae Y)) z1 Y rfl rfl z1.length Y.length rfl rfl (by first|omega|(have:=Lz1.out;omega));obtain⟨z3,Hz3,qz3,bz3,Lz3,kz3,kaz3,kbz3⟩:=ct (A:=(ae z2)) (B:=(⟨#[93]⟩:ByteArray)) z2 [93] rfl rfl z2.length 1 rfl rfl (by first|omega|(have:=Lz1.out;have:=Lz2.out;omega));have HS:=G (show z3=R by rw[<-Hz3.out,<-Hz2.out,<-Hz1.out,<-HS0.out]);have HL:=G hlen;clear HS0 hlen hl;go_enter func27,ntmps27;go_wp2_with fail;refine am 10 12 [(7,fun v=>v= .string (ae Y),fun _ _=>True)] mixed (by kernel_rfl) ⟨fun _ _ _ _ _=>trivial,trivial⟩ ?_;repeat (refine sx ?_ (fun w1 hU=> ?_) ?_;rotate_left;(focus have hE:=HE.out.trans hU.un;have f1:=(HB.out.ext hU.un).cell;have e00:=(hE.cell b0 _ hb0).trans HY0.out.1;have e10:=(hE.cell b0 _ hb0).trans HY0.out.2.1;have e20:=(hE.cell b0 _ hb0).trans HY0.out.2.2.1;have e30:=(hE.cell b0 _ hb0).trans HY0.out.2.2.2.1;have e40:=(hE.cell b0 _ hb0).trans HY0.out.2.2.2.2.1;have e50:=(hE.cell b0 _ hb0).trans HY0.out.2.2.2.2.2;clear hE hU;go_simp<;>with_reducible rfl);simp only[bf,be,bc,a_,a8])
 refine so (fun w6 hU hp K hK=> ?_) ?_
 ·have hc:=HC.out w6 (HE.out.trans hU.un);clear hp hU;go_simp;refine hc.mono ?_;rintro e w7 ⟨rfl,hE⟩;exact hK _ _ hE rfl trivial
 rintro _ rfl;simp only[bf,be,bc,a_,a8];repeat (refine sx ?_ (fun w1 hU=> ?_) ?_;rotate_left;(focus have hE:=HE.out.trans hU.un;have f1:=(HB.out.ext hU.un).cell;have e00:=(hE.cell b0 _ hb0).trans HY0.out.1;have e10:=(hE.cell b0 _ hb0).trans HY0.out.2.1;have e20:=(hE.cell b0 _ hb0).trans HY0.out.2.2.1;have e30:=(hE.cell b0 _ hb0).trans HY0.out.2.2.2.1;have e40:=(hE.cell b0 _ hb0).trans HY0.out.2.2.2.2.1;have e50:=(hE.cell b0 _ hb0).trans HY0.out.2.2.2.2.2;clear hE hU;go_simp<;>with_reducible rfl);simp only[bf,be,bc,a_,a8])
 intro w8 hw8 hp;clear hp;simp only[ab,ap];have HX8:=G (HE.out.trans hw8.un);clear hw8;go_wp2_with fail;go_ret;exact⟨fZ HS.out,HX8.out⟩
theorem xq (op nm tx:List UInt8) (v:Int) (xs:List Ex) (hx: ∀y,y∈xs->iv y) (hn4:xs.length<=4) (P:Nat->Prop) (w:World) (A:Option Addr) (n c:Nat) (hR:bZ w P (.slice A n c) xs) (hl:(a7 (.mk 5 op nm tx v xs)).length<=1000000000):
  Calls prog 27 #[.agg #[.int .i64 5, .string (ae op), .string (ae nm), .string (ae tx), .int .i64 v, .slice A n c]] w fun e w'=>e= .returned (.string (ae (a7 (.mk 5 op nm tx v xs))))/\al w w':=by
 have hn:=hR.len;have HS0:=G (show nm++[40]++cj [44,32] (c8 xs)++[41]=a7 (.mk 5 op nm tx v xs)from rfl);have hlen:nm.length+1+(cj [44,32] (c8 xs)).length+1=(a7 (.mk 5 op nm tx v xs)).length:=by rw[<-HS0.out];simp only[aa,ac,af]
 generalize a7 (.mk 5 op nm tx v xs)=R at*;have HN:=G hn;have hn5:(n:Int)<=4:=by omega
 have HX:=G hx;have HE:=G (O w (.cells #[.int .i64 5, .string (ae op), .string (ae nm), .string (ae tx), .int .i64 v, .slice A n c] 49));have HB:=G (ai w 49 #[.int .i64 5, .string (ae op), .string (ae nm), .string (ae tx), .int .i64 v, .slice A n c]);have HR:=G (hR.keep (.of_ext HE.out) (Q:=P) (fun _ hb _=>hb));clear hR hn hx hn4;obtain⟨c1,Hc1,qc1,bc1,Lc1,kc1,kac1,kbc1⟩:=ct (A:=(ae nm)) (B:=(⟨#[40]⟩:ByteArray)) nm [40] rfl rfl nm.length 1 rfl rfl (by first|omega|(omega));have Lc:=Lc1.out;go_enter func27,ntmps27;go_wp2_with fail
 go_loopw [4,5] (fun vs vi wr=> ∃(j:Nat) (J:List UInt8),vi= .int .i64 (j:Int)/\vs= .string (ae J)/\j<=n/\Hid (J=c1++cj [44,32] ((c8 xs).take j))/\Hid (al (w.alloc (.cells #[.int .i64 5, .string (ae op), .string (ae nm), .string (ae tx), .int .i64 v, .slice A n c] 49)) wr)) (fun _ vi _=>n-(intOf vi).toNat)
 case atStart=>exact⟨0,c1,rfl,rfl,aB _,G (by simp[cj]),G (aG _)⟩
 case round=>
  obtain⟨j,J,rfl,rfl,hj,HJ,HZ⟩:=hrel;have f1:=(HB.out.ext HZ.out).cell;have sJ:(ae J).size=J.length:=aM J;by_cases hlt:j<n
  ·have hlt':(j:Int)<n:=by omega
   have hjl:j<xs.length:=by have:=HN.out;omega
   obtain⟨bj,oj,aj,rfl,hbj,hPj,y0,y1,y2,y3,y4,y5,hRy⟩:=HR.out.at_ j hjl;have e0:=(HZ.out.cell bj _ hbj).trans y0;have e1:=(HZ.out.cell bj _ hbj).trans y1;have e2:=(HZ.out.cell bj _ hbj).trans y2;have e3:=(HZ.out.cell bj _ hbj).trans y3;have e4:=(HZ.out.cell bj _ hbj).trans y4;have e5:=(HZ.out.cell bj _ hbj).trans y5;clear y0 y1 y2 y3 y4 y5;have hxy:=HX.out _ (aE hjl);have hsl:(c8 xs).length=xs.length:=by rw[gz];simp
   have hsj:(c8 xs)[j]'(by omega)=a7 xs[j]:=by simp[gz]
   have HT:=G (show cj [44,32] ((c8 xs).take (j+1))=cj [44,32] ((c8 xs).take j)++((if(c8 xs).take j=[]then[]else[44,32])++a7 xs[j])from by rw[aF (by omega),kE,hsj]);have hbd:(cj [44,32] ((c8 xs).take (j+1))).length<=(cj [44,32] (c8 xs)).length:=by
    have:c8 xs=(c8 xs).take (j+1)++(c8 xs).drop (j+1):=(bN _ _).symm
    conv=>rhs;rw[this]
    cases h:(c8 xs).take (j+1)with
    |nil=>simp[cj]
    |cons a r=>simp[cj]
   have hte:((c8 xs).take j=[])↔j=0:=by
    rw[gt];constructor
    ·rintro(h|h)
     ·exact h
     ·rw[h]at hsl;simp at hsl;omega
    ·exact fun h=> .inl h
   have hJl:=congrArg List.length HJ.out;have hTl:=congrArg List.length HT.out;simp only[aa]at hJl hTl;generalize xs[j]=y at*;obtain⟨By,dy,rfl,_⟩:=hRy.form;have HC:=G (hxy P _ By _ dy (hRy.keep (.of_ext HZ.out) (Q:=P) (fun _ hb _=>hb)) (by omega));clear hRy hxy hsl hsj;generalize a7 y=Y at*;have HJ1:=G (show J++((if(c8 xs).take j=[]then[]else[44,32])++Y)=c1++cj [44,32] ((c8 xs).take (j+1)) by rw[HT.out,HJ.out,az]);by_cases hj0:j=0
   ·subst hj0;simp only[bl,bp]at e0 e1 e2 e3 e4 e5;rw[if_pos (hte.2 rfl)]at HJ1 hTl;obtain⟨z1,Hz1,qz1,bz1,Lz1,kz1,kaz1,kbz1⟩:=ct (A:=(ae J)) (B:=(ae Y)) J Y rfl rfl J.length Y.length rfl rfl (by first|omega|(omega));have HJ2:=G (show z1=c1++cj [44,32] ((c8 xs).take (0+1)) by rw[<-Hz1.out,<-HJ1.out,List.nil_append]);clear hte HJ1 HT HJ hbd hJl hTl hlen hl;go_wp2_with (go_at_call 27;refine HC.out.mono ?_;rintro e w3 ⟨rfl,hE⟩;have HZ3:=G (HZ.out.trans hE);clear hE HC);go_roundw
    case rel=>exact⟨1,z1,rfl,rfl,by omega,HJ2,HZ3⟩
    case measure=>simp[intOf];omega
   ·have hj1:(0:Int)<j:=by omega
    rw[if_neg (fun h=>hj0 (hte.1 h))]at HJ1 hTl;simp only[ac,af]at hTl;obtain⟨z1,Hz1,qz1,bz1,Lz1,kz1,kaz1,kbz1⟩:=ct (A:=(ae J)) (B:=(⟨#[44,32]⟩:ByteArray)) J [44,32] rfl rfl J.length 2 rfl rfl (by first|omega|(omega));obtain⟨z2,Hz2,qz2,bz2,Lz2,kz2,kaz2,kbz2⟩:=ct (A:=(ae z1)) (B:=(ae Y)) z1 Y rfl rfl z1.length Y.length rfl rfl (by first|omega|(have:=Lz1.out;omega));have HJ2:=G (show z2=c1++cj [44,32] ((c8 xs).take (j+1)) by rw[<-Hz2.out,<-Hz1.out,<-HJ1.out,az]);clear hte HJ1 HT HJ hbd hJl hTl hlen hl;go_wp2_with (go_at_call 27;refine HC.out.mono ?_;rintro e w3 ⟨rfl,hE⟩;have HZ3:=G (HZ.out.trans hE);clear hE HC);go_roundw
    case rel=>exact⟨j+1,z2,by go_num,rfl,by omega,HJ2,HZ3⟩
    case measure=>simp[intOf];omega
  ·have hlt': ¬(j:Int)<n:=by omega
   have hjn:j=n:=by omega
   have hQ:(c8 xs).take j=c8 xs:=by rw[hjn,HN.out,aK (by rw[gz];simp)]
   have hJ:=HJ.out;rw[hQ]at hJ;have hJl:=congrArg List.length hJ;simp only[aa]at hJl;obtain⟨z1,Hz1,qz1,bz1,Lz1,kz1,kaz1,kbz1⟩:=ct (A:=(ae J)) (B:=(⟨#[41]⟩:ByteArray)) J [41] rfl rfl J.length 1 rfl rfl (by first|omega|(omega));have HS:=G (show z1=R by rw[<-Hz1.out,hJ,<-Hc1.out,<-HS0.out]);clear hJ hJl hQ HJ hlen hl HS0;go_wp2_with fail;go_ret;exact⟨fZ HS.out,HE.out.trans HZ.out⟩
theorem xo (op nm tx:List UInt8) (v:Int) (y:Ex) (hy:iv y) (P:Nat->Prop) (w:World) (A:Option Addr) (n c:Nat) (hR:bZ w P (.slice A n c) [y]) (hl:(a7 (.mk 6 op nm tx v [y])).length<=1000000000):
  Calls prog 27 #[.agg #[.int .i64 6, .string (ae op), .string (ae nm), .string (ae tx), .int .i64 v, .slice A n c]] w fun e w'=>e= .returned (.string (ae (a7 (.mk 6 op nm tx v [y]))))/\al w w':=by
 have hn:=hR.len;simp only[ac,af]at hn;obtain rfl:n=1:=hn;have HS0:=G (show op++iF (decide (y.prec<7)) (a7 y)=a7 (.mk 6 op nm tx v [y])from rfl);have hlen:op.length+(iF (decide (y.prec<7)) (a7 y)).length=(a7 (.mk 6 op nm tx v [y])).length:=by rw[<-HS0.out];simp only[aa,ac,af]
 generalize a7 (.mk 6 op nm tx v [y])=R at*;have hpl:(a7 y).length<=(iF (decide (y.prec<7)) (a7 y)).length:=by unfold iF;split<;>simp<;>omega
 obtain⟨b0,o0,a0,hA0,hb0,hP0,y00,y10,y20,y30,y40,y50,hRy0⟩:=hR.at_ 0 (by simp);simp only[aL,aP,bl,bp,ca]at y00 y10 y20 y30 y40 y50 hRy0;obtain⟨B0,d0,rfl,_⟩:=hRy0.form;have HY0:=G (aq y00 (aq y10 (aq y20 (aq y30 (aq y40 y50)))));have HR0:=G hRy0;clear y00 y10 y20 y30 y40 y50 hRy0;subst hA0;have HE:=G (O w (.cells #[.int .i64 6, .string (ae op), .string (ae nm), .string (ae tx), .int .i64 v, .slice (some ⟨b0,o0,none⟩) 1 c] 49));have HB:=G (ai w 49 #[.int .i64 6, .string (ae op), .string (ae nm), .string (ae tx), .int .i64 v, .slice (some ⟨b0,o0,none⟩) 1 c]);clear hR;have HC:=G (fun W (hW:al w W)=>oK y hy 7 P W B0 _ d0 (HR0.out.keep (.of_ext hW) (Q:=P) (fun _ hb _=>hb)) (by omega));clear hy;generalize iF (decide (y.prec<7)) (a7 y)=Y at*;clear hpl;obtain⟨z1,Hz1,qz1,bz1,Lz1,kz1,kaz1,kbz1⟩:=ct (A:=(ae op)) (B:=(ae Y)) op Y rfl rfl op.length Y.length rfl rfl (by first|omega|(omega));have HS:=G (show z1=R by rw[<-Hz1.out,<-HS0.out]);have HL:=G hlen;clear HS0 hlen hl;go_enter func27,ntmps27;go_wp2_with fail;refine am 8 12 [(6,fun v=>v= .string (ae Y),fun _ _=>True)] mixed (by kernel_rfl) ⟨fun _ _ _ _ _=>trivial,trivial⟩ ?_;repeat (refine sx ?_ (fun w1 hU=> ?_) ?_;rotate_left;(focus have hE:=HE.out.trans hU.un;have f1:=(HB.out.ext hU.un).cell;have e00:=(hE.cell b0 _ hb0).trans HY0.out.1;have e10:=(hE.cell b0 _ hb0).trans HY0.out.2.1;have e20:=(hE.cell b0 _ hb0).trans HY0.out.2.2.1;have e30:=(hE.cell b0 _ hb0).trans HY0.out.2.2.2.1;have e40:=(hE.cell b0 _ hb0).trans HY0.out.2.2.2.2.1;have e50:=(hE.cell b0 _ hb0).trans HY0.out.2.2.2.2.2;clear hE hU;go_simp<;>with_reducible rfl);simp only[bf,be,bc,a_,a8])
 refine so (fun w6 hU hp K hK=> ?_) ?_
 ·have hc:=HC.out w6 (HE.out.trans hU.un);clear hp hU;go_simp;refine hc.mono ?_;rintro e w7 ⟨rfl,hE⟩;exact hK _ _ hE rfl trivial
 rintro _ rfl;simp only[bf,be,bc,a_,a8];repeat (refine sx ?_ (fun w1 hU=> ?_) ?_;rotate_left;(focus have hE:=HE.out.trans hU.un;have f1:=(HB.out.ext hU.un).cell;have e00:=(hE.cell b0 _ hb0).trans HY0.out.1;have e10:=(hE.cell b0 _ hb0).trans HY0.out.2.1;have e20:=(hE.cell b0 _ hb0).trans HY0.out.2.2.1;have e30:=(hE.cell b0 _ hb0).trans HY0.out.2.2.2.1;have e40:=(hE.cell b0 _ hb0).trans HY0.out.2.2.2.2.1;have e50:=(hE.cell b0 _ hb0).trans HY0.out.2.2.2.2.2;clear hE hU;go_simp<;>with_reducible rfl);simp only[bf,be,bc,a_,a8])
 intro w8 hw8 hp;clear hp;simp only[ab,ap];have HX8:=G (HE.out.trans hw8.un);clear hw8;go_wp2_with fail;go_ret;exact⟨fZ HS.out,HX8.out⟩
theorem xm (op nm tx:List UInt8) (v:Int) (y z:Ex) (hy:iv y) (hz:iv z) (P:Nat->Prop) (w:World) (A:Option Addr) (n c:Nat) (hR:bZ w P (.slice A n c) [y,z]) (hl:(a7 (.mk 7 op nm tx v [y,z])).length<=1000000000):
  Calls prog 27 #[.agg #[.int .i64 7, .string (ae op), .string (ae nm), .string (ae tx), .int .i64 v, .slice A n c]] w fun e w'=>e= .returned (.string (ae (a7 (.mk 7 op nm tx v [y,z]))))/\al w w':=by
 have hn:=hR.len;simp only[ac,af]at hn;obtain rfl:n=2:=hn;have HS0:=G (show iF (decide (y.prec<eW op)) (a7 y)++([32]++op++[32])++iF (decide (z.prec<=eW op)) (a7 z)=a7 (.mk 7 op nm tx v [y,z])from rfl);have hlen:(iF (decide (y.prec<eW op)) (a7 y)).length+(1+op.length+1)+(iF (decide (z.prec<=eW op)) (a7 z)).length=(a7 (.mk 7 op nm tx v [y,z])).length:=by rw[<-HS0.out];simp only[aa,ac,af]
 generalize a7 (.mk 7 op nm tx v [y,z])=R at*;have hpy:(a7 y).length<=(iF (decide (y.prec<eW op)) (a7 y)).length:=by unfold iF;split<;>simp<;>omega
 have hpz:(a7 z).length<=(iF (decide (z.prec<=eW op)) (a7 z)).length:=by unfold iF;split<;>simp<;>omega
 obtain⟨b0,o0,a0,hA0,hb0,hP0,y00,y10,y20,y30,y40,y50,hRy0⟩:=hR.at_ 0 (by simp);simp only[aL,aP,bl,bp,ca]at y00 y10 y20 y30 y40 y50 hRy0;obtain⟨B0,d0,rfl,_⟩:=hRy0.form;have HY0:=G (aq y00 (aq y10 (aq y20 (aq y30 (aq y40 y50)))));have HR0:=G hRy0;clear y00 y10 y20 y30 y40 y50 hRy0;subst hA0;obtain⟨b1,o1,a1,hA1,hb1,hP1,y01,y11,y21,y31,y41,y51,hRy1⟩:=hR.at_ 1 (by simp);simp only[aL,aP,bl,bp,ca]at y01 y11 y21 y31 y41 y51 hRy1;obtain⟨B1,d1,rfl,_⟩:=hRy1.form;have HY1:=G (aq y01 (aq y11 (aq y21 (aq y31 (aq y41 y51)))));have HR1:=G hRy1;clear y01 y11 y21 y31 y41 y51 hRy1;injection hA1 with hA1;injection hA1 with hA1 hA2;subst hA1;subst hA2;have HE:=G (O w (.cells #[.int .i64 7, .string (ae op), .string (ae nm), .string (ae tx), .int .i64 v, .slice (some ⟨b0,o0,none⟩) 2 c] 49));have HB:=G (ai w 49 #[.int .i64 7, .string (ae op), .string (ae nm), .string (ae tx), .int .i64 v, .slice (some ⟨b0,o0,none⟩) 2 c]);clear hR;have hlv:decide (z.prec<eW op+1)=decide (z.prec<=eW op):=by rw[db];simp;omega
 have HC0:=G (fun W (hW:al w W)=>oK y hy (eW op) P W B0 _ d0 (HR0.out.keep (.of_ext hW) (Q:=P) (fun _ hb _=>hb)) (by omega));have HC1:=G (fun W (hW:al w W)=>oK z hz (eW op+1) P W B1 _ d1 (HR1.out.keep (.of_ext hW) (Q:=P) (fun _ hb _=>hb)) (by omega));rw[hlv]at HC1;clear hlv hy hz hpy hpz;have HPr:=G (i8 op);have hlo:=ry op;generalize iF (decide (y.prec<eW op)) (a7 y)=Y at*;generalize iF (decide (z.prec<=eW op)) (a7 z)=Z at*;generalize eW op=q at*;obtain⟨hq0,hq6⟩:=hlo;have hq1:IntKind.i64.wrap (q+1)=q+1:=by simp[IntKind.wrap,IntKind.signed,IntKind.bits];omega
 obtain⟨s1,Hs1,qs1,bs1,Ls1,ks1,kas1,kbs1⟩:=ct (A:=(ae Y)) (B:=(⟨#[32]⟩:ByteArray)) Y [32] rfl rfl Y.length 1 rfl rfl (by first|omega|(omega));obtain⟨s2,Hs2,qs2,bs2,Ls2,ks2,kas2,kbs2⟩:=ct (A:=(ae s1)) (B:=(ae op)) s1 op rfl rfl s1.length op.length rfl rfl (by first|omega|(have:=Ls1.out;omega));obtain⟨s3,Hs3,qs3,bs3,Ls3,ks3,kas3,kbs3⟩:=ct (A:=(ae s2)) (B:=(⟨#[32]⟩:ByteArray)) s2 [32] rfl rfl s2.length 1 rfl rfl (by first|omega|(have:=Ls1.out;have:=Ls2.out;omega));obtain⟨s4,Hs4,qs4,bs4,Ls4,ks4,kas4,kbs4⟩:=ct (A:=(ae s3)) (B:=(ae Z)) s3 Z rfl rfl s3.length Z.length rfl rfl (by first|omega|(have:=Ls1.out;have:=Ls2.out;have:=Ls3.out;omega));have HS:=G (show s4=R by rw[<-Hs4.out,<-Hs3.out,<-Hs2.out,<-Hs1.out,<-HS0.out];simp only[az]);have HL:=G hlen;clear HS0 hlen hl;go_enter func27,ntmps27;go_wp2_with (go_at_call 23;refine(HPr.out _).mono ?_;rintro e w3 ⟨rfl,rfl⟩;clear HPr);refine am 19 12 [(5,fun v=>v= .string (ae Y),fun _ _=>True),(17,fun v=>v= .string (ae Z),fun _ _=>True)] mixed (by kernel_rfl) ⟨fun _ _ _ _ _=>trivial,fun _ _ _ _ _=>trivial,trivial⟩ ?_;repeat (refine sx ?_ (fun w1 hU=> ?_) ?_;rotate_left;(focus have hE:=HE.out.trans hU.un;have f1:=(HB.out.ext hU.un).cell;have e00:=(hE.cell b0 _ hb0).trans HY0.out.1;have e10:=(hE.cell b0 _ hb0).trans HY0.out.2.1;have e20:=(hE.cell b0 _ hb0).trans HY0.out.2.2.1;have e30:=(hE.cell b0 _ hb0).trans HY0.out.2.2.2.1;have e40:=(hE.cell b0 _ hb0).trans HY0.out.2.2.2.2.1;have e50:=(hE.cell b0 _ hb0).trans HY0.out.2.2.2.2.2;have e01:=(hE.cell b0 _ hb0).trans HY1.out.1;have e11:=(hE.cell b0 _ hb0).trans HY1.out.2.1;have e21:=(hE.cell b0 _ hb0).trans HY1.out.2.2.1;have e31:=(hE.cell b0 _ hb0).trans HY1.out.2.2.2.1;have e41:=(hE.cell b0 _ hb0).trans HY1.out.2.2.2.2.1;have e51:=(hE.cell b0 _ hb0).trans HY1.out.2.2.2.2.2;clear hE hU;go_simp<;>with_reducible rfl);simp only[bf,be,bc,a_,a8])
 refine so (fun w6 hU hp K hK=> ?_) ?_
 ·have hc:=HC0.out w6 (HE.out.trans hU.un);clear hp hU;go_simp;refine hc.mono ?_;rintro e w7 ⟨rfl,hE⟩;exact hK _ _ hE rfl trivial
 rintro _ rfl;simp only[bf,be,bc,a_,a8];repeat (refine sx ?_ (fun w1 hU=> ?_) ?_;rotate_left;(focus have hE:=HE.out.trans hU.un;have f1:=(HB.out.ext hU.un).cell;have e00:=(hE.cell b0 _ hb0).trans HY0.out.1;have e10:=(hE.cell b0 _ hb0).trans HY0.out.2.1;have e20:=(hE.cell b0 _ hb0).trans HY0.out.2.2.1;have e30:=(hE.cell b0 _ hb0).trans HY0.out.2.2.2.1;have e40:=(hE.cell b0 _ hb0).trans HY0.out.2.2.2.2.1;have e50:=(hE.cell b0 _ hb0).trans HY0.out.2.2.2.2.2;have e01:=(hE.cell b0 _ hb0).trans HY1.out.1;have e11:=(hE.cell b0 _ hb0).trans HY1.out.2.1;have e21:=(hE.cell b0 _ hb0).trans HY1.out.2.2.1;have e31:=(hE.cell b0 _ hb0).trans HY1.out.2.2.2.1;have e41:=(hE.cell b0 _ hb0).trans HY1.out.2.2.2.2.1;have e51:=(hE.cell b0 _ hb0).trans HY1.out.2.2.2.2.2;clear hE hU;go_simp<;>with_reducible rfl);simp only[bf,be,bc,a_,a8])
 refine so (fun w6 hU hp K hK=> ?_) ?_
 ·have hc:=HC1.out w6 (HE.out.trans hU.un);clear hp hU;go_simp;refine hc.mono ?_;rintro e w7 ⟨rfl,hE⟩;exact hK _ _ hE rfl trivial
 rintro _ rfl;simp only[bf,be,bc,a_,a8];repeat (refine sx ?_ (fun w1 hU=> ?_) ?_;rotate_left;(focus have hE:=HE.out.trans hU.un;have f1:=(HB.out.ext hU.un).cell;have e00:=(hE.cell b0 _ hb0).trans HY0.out.1;have e10:=(hE.cell b0 _ hb0).trans HY0.out.2.1;have e20:=(hE.cell b0 _ hb0).trans HY0.out.2.2.1;have e30:=(hE.cell b0 _ hb0).trans HY0.out.2.2.2.1;have e40:=(hE.cell b0 _ hb0).trans HY0.out.2.2.2.2.1;have e50:=(hE.cell b0 _ hb0).trans HY0.out.2.2.2.2.2;have e01:=(hE.cell b0 _ hb0).trans HY1.out.1;have e11:=(hE.cell b0 _ hb0).trans HY1.out.2.1;have e21:=(hE.cell b0 _ hb0).trans HY1.out.2.2.1;have e31:=(hE.cell b0 _ hb0).trans HY1.out.2.2.2.1;have e41:=(hE.cell b0 _ hb0).trans HY1.out.2.2.2.2.1;have e51:=(hE.cell b0 _ hb0).trans HY1.out.2.2.2.2.2;clear hE hU;go_simp<;>with_reducible rfl);simp only[bf,be,bc,a_,a8])
 intro w8 hw8 hp;clear hp;simp only[ab,ap];have HX8:=G (HE.out.trans hw8.un);clear hw8;go_wp2_with fail;go_ret;exact⟨fZ HS.out,HX8.out⟩
theorem p7: ∀(m:Nat) (x:Ex),x.wt<=m->x.ok=true->iv x
 |0,x,hm,_=>absurd hm (by have:=x.wt_eq;omega)
 |m+1, .mk k op nm tx v a,hm,h=>by
  have hw:=(Ex.mk k op nm tx v a).wt_eq;simp only[Ex.op,Ex.nm,Ex.tx,Ex.args]at hw;rw[Ex.ok,au]at h;obtain⟨h1,h2⟩:=h;rw[iH]at h2;have ih: ∀y,y∈a->iv y:=fun y hy=>p7 m y (by have:=ei hy;omega) (List.all_eq_true.1 h2 y hy);intro P w A n c hR hl;simp only[Ex.k,Ex.op,Ex.nm,Ex.tx,Ex.v,Ex.args]at*;by_cases k1:k=1
  ·subst k1;rw[if_pos rfl]at h1;simp only[au,decide_eq_true_eq]at h1;exact xv op nm tx v a h1.1.1.1 h1.1.1.2 P w A n c hR hl
  rw[if_neg k1]at h1;by_cases k2:k=2
  ·subst k2;rw[if_pos rfl]at h1;simp only[au,kA,decide_eq_true_eq]at h1;exact xu op nm tx v a h1.1.1.2 P w A n c hR hl
  rw[if_neg k2]at h1;by_cases k3:k=3
  ·subst k3;exact xt op nm tx v a P w A n c hR hl
  rw[if_neg k3]at h1;by_cases k4:k=4
  ·subst k4;rw[if_pos rfl]at h1;simp only[au,beq_iff_eq]at h1;obtain⟨y,rfl⟩:=List.length_eq_one_iff.1 h1.2;exact xr op nm tx v y (ih y (by simp)) P w A n c hR hl
  rw[if_neg k4]at h1;by_cases k5:k=5
  ·subst k5;rw[if_pos rfl]at h1;simp only[au,decide_eq_true_eq]at h1;exact xq op nm tx v a ih h1.1.2 P w A n c hR hl
  rw[if_neg k5]at h1;by_cases k6:k=6
  ·subst k6;rw[if_pos rfl]at h1;simp only[au,beq_iff_eq]at h1;obtain⟨y,rfl⟩:=List.length_eq_one_iff.1 h1.2;exact xo op nm tx v y (ih y (by simp)) P w A n c hR hl
  rw[if_neg k6]at h1;by_cases k7:k=7
  ·subst k7;rw[if_pos rfl]at h1;simp only[au,beq_iff_eq]at h1;obtain⟨y,z,rfl⟩: ∃y z,a=[y,z]:=by
    cases a with
    |nil=>simp at h1
    |cons y r=>
     cases r with
     |nil=>simp at h1
     |cons z r=>
      cases r with
      |nil=>exact⟨y,z,rfl⟩
      |cons u r=>simp at h1
   exact xm op nm tx v y z (ih y (by simp)) (ih z (by simp)) P w A n c hR hl
  ·rw[if_neg k7]at h1
   cases h1
theorem uc {x:Ex} (h:x.ok=true):iv x:=p7 _ x (ag _) h
end Go.Proofs.YtelplgkppalmfaaGreatDoor
