/-
  Parts of the proof: PrE PrF PrG VaI PlS VaJ PaP TyS TyL.
-/
import Derived.Test.YtddomeddabfinaaGreatDoorTz14
import Derived.Test.YtddomeddabfinaaGreatDoorTz15
import Derived.Test.YtddomeddabfinaaGreatDoorTz00
set_option maxRecDepth 100000
set_option maxHeartbeats 8000000
set_option linter.unusedVariables false
set_option linter.unusedSimpArgs false
set_option linter.unusedSectionVars false
namespace Go.Proofs.YtddomeddabfinaaGreatDoor
open Go.Proofs.Tryz
section
open Go.RowKit
theorem qJ (i:Nat) (h:i<=1000000000) (w:World):Calls prog 135 #[.string ⟨#[9]⟩, .int .i64 (i:Int)] w fun e w'=>e= .returned (.string (ai (jq i)))/\aq w w':=by
 refine(Tryz.strings_Repeat ⟨#[9]⟩ i w (by omega) (by show 1*i<=_;omega)).mono ?_;rintro e w' ⟨rfl,h⟩;refine⟨?_,h⟩;have:=Lib.repeatL_replicate 9 1 i;rw[j3]at this;rw[show((⟨#[9]⟩:ByteArray).data.toList)=List.replicate 1 9 from rfl,this];rfl
structure PB (b:Nat) (w0:World) (P:Nat->Prop) (v:Value) (xs:List St) (l:List UInt8) (W:World):Prop where
 bu:Bu W b l
 rd:cR W P v xs
 fb:FB b w0 W
 tab:du W b
 hP: ∀k,P k->k<b
section
variable {b:Nat} {w0 W W':World} {P:Nat->Prop} {v:Value} {xs:List St} {l l':List UInt8}
theorem PB.wr (h:PB b w0 P v xs l W) (hB:Bu W' b l') (hF:FB b W W'):PB b w0 P v xs l' W':=⟨hB,h.rd.keep (hF.keepP h.hP) (fun _ hb _=>hb),h.fb.trans hF,h.tab.fb hF,h.hP⟩
theorem PB.ex (h:PB b w0 P v xs l W) (hE:aq W W'):PB b w0 P v xs l W':=h.wr (h.bu.ext hE) (aT hE (aH h.bu.lt))
end
theorem Em (nm:List UInt8) (body:List St) (y:Ex) (hy:m6 y) (hbl:kR body) (P:Nat->Prop) (w:World) (A B C:Option Addr) (n c nb cb nl cl b i:Nat) (l:List UInt8) (hR:cE w P (.slice A n c) [y]) (hRb:cR w P (.slice B nb cb) body) (hRl:cR w P (.slice C nl cl) []) (hP: ∀k,P k->k<b) (hT:du w b) (hB:Bu w b l) (S:List UInt8) (hS:dK (.mk 4 nm [y] body []) i=S) (hl:l.length+S.length<=1000000000):
  Calls prog 176 #[.pointer (some ⟨b,0,none⟩), .agg #[.int .i64 4, .string (ai nm), .slice A n c, .slice B nb cb, .slice C nl cl], .int .i64 (i:Int)] w fun e w'=>e= .returned (.tuple #[])/\Bu w' b (l++S)/\FB b w w':=by
 have HS:=G (show[105,102,32]++cm y++[32]++eU i (bG body (i+1))++[]=S from by rw[<-hS];simp[dK,jt,bG,eK,mJ,CC,nJ]);have hlen:3+(cm y).length+1+(eU i (bG body (i+1))).length+0=S.length:=by rw[<-HS.out];simp only[aa,ae,ag]
 clear hS;have hnl:=hRl.len;simp only[ae,ag]at hnl;obtain rfl:nl=0:=hnl;have hn:=hR.len;simp only[ae,ag]at hn;obtain rfl:n=1:=hn;obtain⟨b0,o0,a0,hA0,hb0,hP0,y00,y10,y20,y30,y40,y50,hRy0⟩:=hR.at_ 0 (by simp);simp only[aE,aQ,a8,br,cf]at y00 y10 y20 y30 y40 y50 hRy0;obtain⟨B0,d0,rfl,_⟩:=hRy0.form;have HY0:=G (ax y00 (ax y10 (ax y20 (ax y30 (ax y40 y50)))));have HRy0:=G hRy0;clear y00 y10 y20 y30 y40 y50 hRy0;subst hA0;have HC0:=G (show PS b w.heap.size w P #[.int .i64 4, .string (ai nm), .slice (some ⟨b0,o0,none⟩) 1 c, .slice B nb cb, .slice C 0 cl] (.slice (some ⟨b0,o0,none⟩) 1 c) (.slice B nb cb) (.slice C 0 cl) (.mk 4 nm [y] body []) l _ from⟨an w 72 #[.int .i64 4, .string (ai nm), .slice (some ⟨b0,o0,none⟩) 1 c, .slice B nb cb, .slice C 0 cl],hB.ext (O w _),hR.keep (.of_ext (O w _)) (fun _ hb _=>hb),hRb.keep (.of_ext (O w _)) (fun _ hb _=>hb),hRl.keep (.of_ext (O w _)) (fun _ hb _=>hb),aT (O w _) (aH hB.lt),hT.fb (aT (O w _) (aH hB.lt)),bz hB.lt,by decide,hP⟩);have hbc:=HC0.out.box.cell;clear hB hR hT hRb hRl;unfold kR at hbl;go_enter func176,ntmps176;have e0:=(HC0.out.fb.keepP hP).cell (o0) hP0 hb0|>.trans HY0.out.1;have e1:=(HC0.out.fb.keepP hP).cell (o0+1) hP0 hb0|>.trans HY0.out.2.1;have e2:=(HC0.out.fb.keepP hP).cell (o0+2) hP0 hb0|>.trans HY0.out.2.2.1;have e3:=(HC0.out.fb.keepP hP).cell (o0+3) hP0 hb0|>.trans HY0.out.2.2.2.1;have e4:=(HC0.out.fb.keepP hP).cell (o0+4) hP0 hb0|>.trans HY0.out.2.2.2.2.1;have e5:=(HC0.out.fb.keepP hP).cell (o0+5) hP0 hb0|>.trans HY0.out.2.2.2.2.2;go_wp2_with (first|(go_at_call 175;refine(et y hy [105,102,32] [32] P _ B0 _ d0 b l (HRy0.out.keep (HC0.out.fb.keepP hP) (fun _ hb _=>hb)) hP HC0.out.tab HC0.out.bu (by(try have a1:=Hzc1.out);(try have a2:=Hzc2.out);simp only[aa,ae,ag];omega)).mono ?_;rintro e u1 ⟨rfl,h1,h2⟩;have HC1:=G (HC0.out.wr h1 h2);clear h1 h2 HC0;clear hbc;have hbc:=HC1.out.box.cell)|(go_at_call 94;refine(hbl P _ B nb cb b i (l++([105,102,32]++cm y++[32])) HC1.out.rb hP HC1.out.tab HC1.out.bu (by(try have a1:=Hzc1.out);(try have a2:=Hzc2.out);simp only[aa,ae,ag];omega)).mono ?_;rintro e u2 ⟨rfl,h1,h2⟩;have HC2:=G (HC1.out.wr h1 h2);clear h1 h2 HC1;clear hbc;have hbc:=HC2.out.box.cell));first|go_end0|((try simp only[Exit.inBlock,Exit.then]);refine bodyPost_ret (results_none rfl _ _ _) rfl ?_)
 exact⟨rfl,by rw[<-HS.out];have:=HC2.out.bu;simpa[aP]using this,HC2.out.fb⟩
theorem El (nm:List UInt8) (body:List St) (y:Ex) (hy:m6 y) (hbl:kR body) (s:St) (hk:s.k=4) (hch:tq s) (P:Nat->Prop) (w:World) (A B C:Option Addr) (n c nb cb nl cl b i:Nat) (l:List UInt8) (hR:cE w P (.slice A n c) [y]) (hRb:cR w P (.slice B nb cb) body) (hRl:cR w P (.slice C nl cl) [s]) (hP: ∀k,P k->k<b) (hT:du w b) (hB:Bu w b l) (S:List UInt8) (hS:dK (.mk 4 nm [y] body [s]) i=S) (hl:l.length+S.length<=1000000000):
  Calls prog 176 #[.pointer (some ⟨b,0,none⟩), .agg #[.int .i64 4, .string (ai nm), .slice A n c, .slice B nb cb, .slice C nl cl], .int .i64 (i:Int)] w fun e w'=>e= .returned (.tuple #[])/\Bu w' b (l++S)/\FB b w w':=by
 have HS:=G (show[105,102,32]++cm y++[32]++eU i (bG body (i+1))++([32,101,108,115,101,32]++dK s i)=S from by rw[<-hS];simp[dK,jt,bG,eK,mJ,CC,nJ,hk]);have hlen:3+(cm y).length+1+(eU i (bG body (i+1))).length+(6+(dK s i).length)=S.length:=by rw[<-HS.out];simp only[aa,ae,ag]
 clear hS;have hnl:=hRl.len;simp only[ae,ag]at hnl;obtain rfl:nl=1:=hnl;obtain⟨bs,os,su,sv,sz,hCs,hbs,hPs,q0,q1,q2,q3,q4,hse,hsb,hsl⟩:=hRl.at_ 0 (by simp);simp only[aE,a8,br]at q0 q1 q2 q3 q4 hse hsb hsl;obtain⟨E2,ce2,rfl,_⟩:=hse.form;obtain⟨B2,cb2,rfl,_⟩:=hsb.form;obtain⟨C2,cl2,rfl,_⟩:=hsl.form;subst hCs;have HQ:=G (ax q0 (ax q1 (ax q2 (ax q3 q4))));have HQr:=G (ax hse (ax hsb hsl));clear q0 q1 q2 q3 q4 hse hsb hsl;have hn:=hR.len;simp only[ae,ag]at hn;obtain rfl:n=1:=hn;obtain⟨b0,o0,a0,hA0,hb0,hP0,y00,y10,y20,y30,y40,y50,hRy0⟩:=hR.at_ 0 (by simp);simp only[aE,aQ,a8,br,cf]at y00 y10 y20 y30 y40 y50 hRy0;obtain⟨B0,d0,rfl,_⟩:=hRy0.form;have HY0:=G (ax y00 (ax y10 (ax y20 (ax y30 (ax y40 y50)))));have HRy0:=G hRy0;clear y00 y10 y20 y30 y40 y50 hRy0;subst hA0;have HC0:=G (show PS b w.heap.size w P #[.int .i64 4, .string (ai nm), .slice (some ⟨b0,o0,none⟩) 1 c, .slice B nb cb, .slice (some ⟨bs,os,none⟩) 1 cl] (.slice (some ⟨b0,o0,none⟩) 1 c) (.slice B nb cb) (.slice (some ⟨bs,os,none⟩) 1 cl) (.mk 4 nm [y] body [s]) l _ from⟨an w 72 #[.int .i64 4, .string (ai nm), .slice (some ⟨b0,o0,none⟩) 1 c, .slice B nb cb, .slice (some ⟨bs,os,none⟩) 1 cl],hB.ext (O w _),hR.keep (.of_ext (O w _)) (fun _ hb _=>hb),hRb.keep (.of_ext (O w _)) (fun _ hb _=>hb),hRl.keep (.of_ext (O w _)) (fun _ hb _=>hb),aT (O w _) (aH hB.lt),hT.fb (aT (O w _) (aH hB.lt)),bz hB.lt,by decide,hP⟩);have hbc:=HC0.out.box.cell;clear hB hR hT hRb hRl;unfold kR at hbl;unfold tq at hch;rw[hk]at HQ hch;go_enter func176,ntmps176;have e0:=(HC0.out.fb.keepP hP).cell (o0) hP0 hb0|>.trans HY0.out.1;have e1:=(HC0.out.fb.keepP hP).cell (o0+1) hP0 hb0|>.trans HY0.out.2.1;have e2:=(HC0.out.fb.keepP hP).cell (o0+2) hP0 hb0|>.trans HY0.out.2.2.1;have e3:=(HC0.out.fb.keepP hP).cell (o0+3) hP0 hb0|>.trans HY0.out.2.2.2.1;have e4:=(HC0.out.fb.keepP hP).cell (o0+4) hP0 hb0|>.trans HY0.out.2.2.2.2.1;have e5:=(HC0.out.fb.keepP hP).cell (o0+5) hP0 hb0|>.trans HY0.out.2.2.2.2.2;go_wp2_with (first|(go_at_call 175;refine(et y hy [105,102,32] [32] P _ B0 _ d0 b l (HRy0.out.keep (HC0.out.fb.keepP hP) (fun _ hb _=>hb)) hP HC0.out.tab HC0.out.bu (by(try have a1:=Hzc1.out);(try have a2:=Hzc2.out);simp only[aa,ae,ag];omega)).mono ?_;rintro e u1 ⟨rfl,h1,h2⟩;have HC1:=G (HC0.out.wr h1 h2);clear h1 h2 HC0;clear hbc;have hbc:=HC1.out.box.cell)|(go_at_call 94;refine(hbl P _ B nb cb b i (l++([105,102,32]++cm y++[32])) HC1.out.rb hP HC1.out.tab HC1.out.bu (by(try have a1:=Hzc1.out);(try have a2:=Hzc2.out);simp only[aa,ae,ag];omega)).mono ?_;rintro e u2 ⟨rfl,h1,h2⟩;have HC2:=G (HC1.out.wr h1 h2);clear h1 h2 HC1;clear hbc;have hbc:=HC2.out.box.cell;have g0:=(HC2.out.fb.keepP hP).cell (os) hPs hbs|>.trans HQ.out.1;have g1:=(HC2.out.fb.keepP hP).cell (os+1) hPs hbs|>.trans HQ.out.2.1;have g2:=(HC2.out.fb.keepP hP).cell (os+2) hPs hbs|>.trans HQ.out.2.2.1;have g3:=(HC2.out.fb.keepP hP).cell (os+3) hPs hbs|>.trans HQ.out.2.2.2.1;have g4:=(HC2.out.fb.keepP hP).cell (os+4) hPs hbs|>.trans HQ.out.2.2.2.2)|(go_at_call 91;refine(cu b ((l++([105,102,32]++cm y++[32]))++eU i (bG body (i+1))) [32,101,108,115,101,32] _ HC2.out.bu (by(try have a1:=Hzc1.out);(try have a2:=Hzc2.out);(try simp only[aa,ae,ag]);omega)).mono ?_;rintro e u3 ⟨rfl,h1,h2⟩;have HC3:=G (HC2.out.wr h1 h2);clear h1 h2 HC2;clear hbc;have hbc:=HC3.out.box.cell;clear g0 g1 g2 g3 g4;have g0:=(HC3.out.fb.keepP hP).cell (os) hPs hbs|>.trans HQ.out.1;have g1:=(HC3.out.fb.keepP hP).cell (os+1) hPs hbs|>.trans HQ.out.2.1;have g2:=(HC3.out.fb.keepP hP).cell (os+2) hPs hbs|>.trans HQ.out.2.2.1;have g3:=(HC3.out.fb.keepP hP).cell (os+3) hPs hbs|>.trans HQ.out.2.2.2.1;have g4:=(HC3.out.fb.keepP hP).cell (os+4) hPs hbs|>.trans HQ.out.2.2.2.2)|(go_at_call 176;refine(hch P _ E2 B2 C2 _ ce2 _ cb2 _ cl2 b i (((l++([105,102,32]++cm y++[32]))++eU i (bG body (i+1)))++[32,101,108,115,101,32]) (HQr.out.1.keep (HC3.out.fb.keepP hP) (fun _ hb _=>hb)) (HQr.out.2.1.keep (HC3.out.fb.keepP hP) (fun _ hb _=>hb)) (HQr.out.2.2.keep (HC3.out.fb.keepP hP) (fun _ hb _=>hb)) hP HC3.out.tab HC3.out.bu (by(try have a1:=Hzc1.out);(try have a2:=Hzc2.out);(try simp only[aa,ae,ag]);omega)).mono ?_;rintro e u4 ⟨rfl,h1,h2⟩;have HC4:=G (HC3.out.wr h1 h2);clear h1 h2 HC3));first|go_end0|((try simp only[Exit.inBlock,Exit.then]);refine bodyPost_ret (results_none rfl _ _ _) rfl ?_)
 exact⟨rfl,by rw[<-HS.out];have:=HC4.out.bu;simpa[aP]using this,HC4.out.fb⟩
theorem Ek (nm:List UInt8) (body:List St) (y:Ex) (hy:m6 y) (hbl:kR body) (s:St) (hk:s.k≠4) (hel:kR [s]) (P:Nat->Prop) (w:World) (A B C:Option Addr) (n c nb cb nl cl b i:Nat) (l:List UInt8) (hR:cE w P (.slice A n c) [y]) (hRb:cR w P (.slice B nb cb) body) (hRl:cR w P (.slice C nl cl) [s]) (hP: ∀k,P k->k<b) (hT:du w b) (hB:Bu w b l) (S:List UInt8) (hS:dK (.mk 4 nm [y] body [s]) i=S) (hl:l.length+S.length<=1000000000):
  Calls prog 176 #[.pointer (some ⟨b,0,none⟩), .agg #[.int .i64 4, .string (ai nm), .slice A n c, .slice B nb cb, .slice C nl cl], .int .i64 (i:Int)] w fun e w'=>e= .returned (.tuple #[])/\Bu w' b (l++S)/\FB b w w':=by
 have HS:=G (show[105,102,32]++cm y++[32]++eU i (bG body (i+1))++([32,101,108,115,101,32]++eU i (bG [s] (i+1)))=S from by rw[<-hS];simp[dK,jt,bG,eK,mJ,CC,nJ,hk]);have hlen:3+(cm y).length+1+(eU i (bG body (i+1))).length+(6+(eU i (bG [s] (i+1))).length)=S.length:=by rw[<-HS.out];simp only[aa,ae,ag]
 clear hS;have hnl:=hRl.len;simp only[ae,ag]at hnl;obtain rfl:nl=1:=hnl;obtain⟨bs,os,su,sv,sz,hCs,hbs,hPs,q0,q1,q2,q3,q4,hse,hsb,hsl⟩:=hRl.at_ 0 (by simp);simp only[aE,a8,br]at q0 q1 q2 q3 q4 hse hsb hsl;obtain⟨E2,ce2,rfl,_⟩:=hse.form;obtain⟨B2,cb2,rfl,_⟩:=hsb.form;obtain⟨C2,cl2,rfl,_⟩:=hsl.form;subst hCs;have HQ:=G (ax q0 (ax q1 (ax q2 (ax q3 q4))));have HQr:=G (ax hse (ax hsb hsl));clear q0 q1 q2 q3 q4 hse hsb hsl;have hn:=hR.len;simp only[ae,ag]at hn;obtain rfl:n=1:=hn;obtain⟨b0,o0,a0,hA0,hb0,hP0,y00,y10,y20,y30,y40,y50,hRy0⟩:=hR.at_ 0 (by simp);simp only[aE,aQ,a8,br,cf]at y00 y10 y20 y30 y40 y50 hRy0;obtain⟨B0,d0,rfl,_⟩:=hRy0.form;have HY0:=G (ax y00 (ax y10 (ax y20 (ax y30 (ax y40 y50)))));have HRy0:=G hRy0;clear y00 y10 y20 y30 y40 y50 hRy0;subst hA0;have HC0:=G (show PS b w.heap.size w P #[.int .i64 4, .string (ai nm), .slice (some ⟨b0,o0,none⟩) 1 c, .slice B nb cb, .slice (some ⟨bs,os,none⟩) 1 cl] (.slice (some ⟨b0,o0,none⟩) 1 c) (.slice B nb cb) (.slice (some ⟨bs,os,none⟩) 1 cl) (.mk 4 nm [y] body [s]) l _ from⟨an w 72 #[.int .i64 4, .string (ai nm), .slice (some ⟨b0,o0,none⟩) 1 c, .slice B nb cb, .slice (some ⟨bs,os,none⟩) 1 cl],hB.ext (O w _),hR.keep (.of_ext (O w _)) (fun _ hb _=>hb),hRb.keep (.of_ext (O w _)) (fun _ hb _=>hb),hRl.keep (.of_ext (O w _)) (fun _ hb _=>hb),aT (O w _) (aH hB.lt),hT.fb (aT (O w _) (aH hB.lt)),bz hB.lt,by decide,hP⟩);have hbc:=HC0.out.box.cell;clear hB hR hT hRb hRl;unfold kR at hbl;unfold kR at hel;have hx1:(s.k==4)=false:=by rw[beq_eq_false_iff_ne];exact hk
 go_enter func176,ntmps176;have e0:=(HC0.out.fb.keepP hP).cell (o0) hP0 hb0|>.trans HY0.out.1;have e1:=(HC0.out.fb.keepP hP).cell (o0+1) hP0 hb0|>.trans HY0.out.2.1;have e2:=(HC0.out.fb.keepP hP).cell (o0+2) hP0 hb0|>.trans HY0.out.2.2.1;have e3:=(HC0.out.fb.keepP hP).cell (o0+3) hP0 hb0|>.trans HY0.out.2.2.2.1;have e4:=(HC0.out.fb.keepP hP).cell (o0+4) hP0 hb0|>.trans HY0.out.2.2.2.2.1;have e5:=(HC0.out.fb.keepP hP).cell (o0+5) hP0 hb0|>.trans HY0.out.2.2.2.2.2;go_wp2_with (first|(go_at_call 175;refine(et y hy [105,102,32] [32] P _ B0 _ d0 b l (HRy0.out.keep (HC0.out.fb.keepP hP) (fun _ hb _=>hb)) hP HC0.out.tab HC0.out.bu (by(try have a1:=Hzc1.out);(try have a2:=Hzc2.out);simp only[aa,ae,ag];omega)).mono ?_;rintro e u1 ⟨rfl,h1,h2⟩;have HC1:=G (HC0.out.wr h1 h2);clear h1 h2 HC0;clear hbc;have hbc:=HC1.out.box.cell)|(go_at_call 94;refine(hbl P _ B nb cb b i (l++([105,102,32]++cm y++[32])) HC1.out.rb hP HC1.out.tab HC1.out.bu (by(try have a1:=Hzc1.out);(try have a2:=Hzc2.out);simp only[aa,ae,ag];omega)).mono ?_;rintro e u2 ⟨rfl,h1,h2⟩;have HC2:=G (HC1.out.wr h1 h2);clear h1 h2 HC1;clear hbc;have hbc:=HC2.out.box.cell;have g0:=(HC2.out.fb.keepP hP).cell (os) hPs hbs|>.trans HQ.out.1;have g1:=(HC2.out.fb.keepP hP).cell (os+1) hPs hbs|>.trans HQ.out.2.1;have g2:=(HC2.out.fb.keepP hP).cell (os+2) hPs hbs|>.trans HQ.out.2.2.1;have g3:=(HC2.out.fb.keepP hP).cell (os+3) hPs hbs|>.trans HQ.out.2.2.2.1;have g4:=(HC2.out.fb.keepP hP).cell (os+4) hPs hbs|>.trans HQ.out.2.2.2.2)|(go_at_call 91;refine(cu b ((l++([105,102,32]++cm y++[32]))++eU i (bG body (i+1))) [32,101,108,115,101,32] _ HC2.out.bu (by(try have a1:=Hzc1.out);(try have a2:=Hzc2.out);(try simp only[aa,ae,ag]);omega)).mono ?_;rintro e u3 ⟨rfl,h1,h2⟩;have HC3:=G (HC2.out.wr h1 h2);clear h1 h2 HC2;clear hbc;have hbc:=HC3.out.box.cell)|(go_at_call 94;guard_hyp HC3;refine(hel P _ (some ⟨bs,os,none⟩) 1 cl b i (((l++([105,102,32]++cm y++[32]))++eU i (bG body (i+1)))++[32,101,108,115,101,32]) HC3.out.rl hP HC3.out.tab HC3.out.bu (by(try have a1:=Hzc1.out);(try have a2:=Hzc2.out);(try simp only[aa,ae,ag]);omega)).mono ?_;rintro e u4 ⟨rfl,h1,h2⟩;have HC4:=G (HC3.out.wr h1 h2);clear h1 h2 HC3));first|go_end0|((try simp only[Exit.inBlock,Exit.then]);refine bodyPost_ret (results_none rfl _ _ _) rfl ?_)
 exact⟨rfl,by rw[<-HS.out];have:=HC4.out.bu;simpa[aP]using this,HC4.out.fb⟩
theorem Ej (nm:List UInt8) (body:List St) (y:Ex) (hy:m6 y) (hbl:kR body) (s1 s2:St) (r:List St) (hel:kR (s1::s2::r)) (P:Nat->Prop) (w:World) (A B C:Option Addr) (n c nb cb nl cl b i:Nat) (l:List UInt8) (hR:cE w P (.slice A n c) [y]) (hRb:cR w P (.slice B nb cb) body) (hRl:cR w P (.slice C nl cl) (s1::s2::r)) (hP: ∀k,P k->k<b) (hT:du w b) (hB:Bu w b l) (S:List UInt8) (hS:dK (.mk 4 nm [y] body (s1::s2::r)) i=S) (hl:l.length+S.length<=1000000000):
  Calls prog 176 #[.pointer (some ⟨b,0,none⟩), .agg #[.int .i64 4, .string (ai nm), .slice A n c, .slice B nb cb, .slice C nl cl], .int .i64 (i:Int)] w fun e w'=>e= .returned (.tuple #[])/\Bu w' b (l++S)/\FB b w w':=by
 have HS:=G (show[105,102,32]++cm y++[32]++eU i (bG body (i+1))++([32,101,108,115,101,32]++eU i (bG (s1::s2::r) (i+1)))=S from by rw[<-hS];simp[dK,jt,bG,eK,mJ,CC,nJ]);have hlen:3+(cm y).length+1+(eU i (bG body (i+1))).length+(6+(eU i (bG (s1::s2::r) (i+1))).length)=S.length:=by rw[<-HS.out];simp only[aa,ae,ag]
 clear hS;have hnl:=hRl.len;simp only[ae,ag]at hnl;have hx1:((nl:Int)==1)=false:=by rw[beq_eq_false_iff_ne];omega
 have hx2:0<nl:=by omega
 have hx3:(0:Int)<nl:=by omega
 clear hnl;have hn:=hR.len;simp only[ae,ag]at hn;obtain rfl:n=1:=hn;obtain⟨b0,o0,a0,hA0,hb0,hP0,y00,y10,y20,y30,y40,y50,hRy0⟩:=hR.at_ 0 (by simp);simp only[aE,aQ,a8,br,cf]at y00 y10 y20 y30 y40 y50 hRy0;obtain⟨B0,d0,rfl,_⟩:=hRy0.form;have HY0:=G (ax y00 (ax y10 (ax y20 (ax y30 (ax y40 y50)))));have HRy0:=G hRy0;clear y00 y10 y20 y30 y40 y50 hRy0;subst hA0;have HC0:=G (show PS b w.heap.size w P #[.int .i64 4, .string (ai nm), .slice (some ⟨b0,o0,none⟩) 1 c, .slice B nb cb, .slice C nl cl] (.slice (some ⟨b0,o0,none⟩) 1 c) (.slice B nb cb) (.slice C nl cl) (.mk 4 nm [y] body (s1::s2::r)) l _ from⟨an w 72 #[.int .i64 4, .string (ai nm), .slice (some ⟨b0,o0,none⟩) 1 c, .slice B nb cb, .slice C nl cl],hB.ext (O w _),hR.keep (.of_ext (O w _)) (fun _ hb _=>hb),hRb.keep (.of_ext (O w _)) (fun _ hb _=>hb),hRl.keep (.of_ext (O w _)) (fun _ hb _=>hb),aT (O w _) (aH hB.lt),hT.fb (aT (O w _) (aH hB.lt)),bz hB.lt,by decide,hP⟩);have hbc:=HC0.out.box.cell;clear hB hR hT hRb hRl;unfold kR at hbl;unfold kR at hel;go_enter func176,ntmps176;have e0:=(HC0.out.fb.keepP hP).cell (o0) hP0 hb0|>.trans HY0.out.1;have e1:=(HC0.out.fb.keepP hP).cell (o0+1) hP0 hb0|>.trans HY0.out.2.1;have e2:=(HC0.out.fb.keepP hP).cell (o0+2) hP0 hb0|>.trans HY0.out.2.2.1;have e3:=(HC0.out.fb.keepP hP).cell (o0+3) hP0 hb0|>.trans HY0.out.2.2.2.1;have e4:=(HC0.out.fb.keepP hP).cell (o0+4) hP0 hb0|>.trans HY0.out.2.2.2.2.1;have e5:=(HC0.out.fb.keepP hP).cell (o0+5) hP0 hb0|>.trans HY0.out.2.2.2.2.2;go_wp2_with (first|(go_at_call 175;refine(et y hy [105,102,32] [32] P _ B0 _ d0 b l (HRy0.out.keep (HC0.out.fb.keepP hP) (fun _ hb _=>hb)) hP HC0.out.tab HC0.out.bu (by(try have a1:=Hzc1.out);(try have a2:=Hzc2.out);simp only[aa,ae,ag];omega)).mono ?_;rintro e u1 ⟨rfl,h1,h2⟩;have HC1:=G (HC0.out.wr h1 h2);clear h1 h2 HC0;clear hbc;have hbc:=HC1.out.box.cell)|(go_at_call 94;refine(hbl P _ B nb cb b i (l++([105,102,32]++cm y++[32])) HC1.out.rb hP HC1.out.tab HC1.out.bu (by(try have a1:=Hzc1.out);(try have a2:=Hzc2.out);simp only[aa,ae,ag];omega)).mono ?_;rintro e u2 ⟨rfl,h1,h2⟩;have HC2:=G (HC1.out.wr h1 h2);clear h1 h2 HC1;clear hbc;have hbc:=HC2.out.box.cell)|(go_at_call 91;refine(cu b ((l++([105,102,32]++cm y++[32]))++eU i (bG body (i+1))) [32,101,108,115,101,32] _ HC2.out.bu (by(try have a1:=Hzc1.out);(try have a2:=Hzc2.out);(try simp only[aa,ae,ag]);omega)).mono ?_;rintro e u3 ⟨rfl,h1,h2⟩;have HC3:=G (HC2.out.wr h1 h2);clear h1 h2 HC2;clear hbc;have hbc:=HC3.out.box.cell)|(go_at_call 94;refine(hel P _ C nl cl b i (((l++([105,102,32]++cm y++[32]))++eU i (bG body (i+1)))++[32,101,108,115,101,32]) HC3.out.rl hP HC3.out.tab HC3.out.bu (by(try have a1:=Hzc1.out);(try have a2:=Hzc2.out);(try simp only[aa,ae,ag]);omega)).mono ?_;rintro e u4 ⟨rfl,h1,h2⟩;have HC4:=G (HC3.out.wr h1 h2);clear h1 h2 HC3));first|go_end0|((try simp only[Exit.inBlock,Exit.then]);refine bodyPost_ret (results_none rfl _ _ _) rfl ?_)
 exact⟨rfl,by rw[<-HS.out];have:=HC4.out.bu;simpa[aP]using this,HC4.out.fb⟩
theorem qs (xs:List St) (hx: ∀y,y∈xs->CL y):kR xs:=by
 intro P w B nb cb b i l hR hP hT hB hl;have hn:=hR.len;have hnb:nb<=maxLen:=by
  obtain⟨A',c',_,h|⟨h1,h2,_⟩⟩:=hR.form
  ·rw[hn,h];exact aG _
  ·omega
 unfold maxLen at hnb;have HX:=G hx;generalize hS:eU i (bG xs (i+1))=S at*;have hSe:[123,10]++(bG xs (i+1)).flatMap (fun t=>jq (i+1)++t++[10])++(jq i++[125])=S:=hS;clear hS;generalize hF:(fun t:List UInt8=>jq (i+1)++t++[10])=F at*;have HF:=G (show ∀t,F t=jq (i+1)++t++[10]from fun t=>by rw[<-hF]);have HS:=G hSe;have htl:(jq i).length=i:=by simp[jq]
 have htl1:(jq (i+1)).length=i+1:=by simp[jq]
 have hlen:2+((bG xs (i+1)).flatMap F).length+(i+1)=S.length:=by rw[<-hSe];simp only[aa,ae,ag,htl]
 have hwi:IntKind.i64.wrap ((i:Int)+1)=((i+1:Nat):Int):=by simp[IntKind.wrap,IntKind.signed,IntKind.bits];omega
 have HN:=G hn;have HTL:=G htl;have HTL1:=G htl1;clear hSe hF hx hn htl htl1;have HC0:=G (show PB b w P (.slice B nb cb) xs l w from⟨hB,hR,FB.refl _ _,hT,hP⟩);have HTI:=G (fun w=>qJ i (by omega) w);have HTI1:=G (fun w=>qJ (i+1) (by omega) w);clear hB hR hT;go_enter func94,ntmps94;go_wp2_with (go_at_call 91;refine(cu b l [123,10] _ HC0.out.bu (by(try have a1:=Hzc1.out);(try have a2:=Hzc2.out);(try simp only[aa,ae,ag]);omega)).mono ?_;rintro e u1 ⟨rfl,h1,h2⟩;have HC1:=G (HC0.out.wr h1 h2);clear h1 h2 HC0)
 go_loopw [14] (fun vi wr=> ∃j:Nat,vi= .int .i64 (j:Int)/\j<=nb/\Hid (PB b w P (.slice B nb cb) xs (l++[123,10]++((bG xs (i+1)).take j).flatMap F) wr)) (fun vi _=>nb-(intOf vi).toNat)
 case atStart=>exact⟨0,rfl,aG _,by simpa using HC1⟩
 case round=>
  clear HC1;obtain⟨j,rfl,hj,HCr⟩:=hrel;by_cases hlt:j<nb
  ·have hlt':(j:Int)<nb:=by omega
   have hjl:j<xs.length:=by have:=HN.out;omega
   have hsl:(bG xs (i+1)).length=xs.length:=by rw[ky];simp
   have hsj:(bG xs (i+1))[j]'(by omega)=dK xs[j] (i+1):=by simp[ky]
   have HT:=G (show((bG xs (i+1)).take (j+1)).flatMap F=((bG xs (i+1)).take j).flatMap F++(jq (i+1)++dK xs[j] (i+1)++[10])from by rw[bp (by omega),fx,hsj,<-HF.out];simp);have hbd:(((bG xs (i+1)).take (j+1)).flatMap F).length<=((bG xs (i+1)).flatMap F).length:=by
    conv=>rhs;rw[<-cw (j+1) (bG xs (i+1)),fx,aa]
    omega
   obtain⟨by0,oy,eu,ev,ez,rfl,hby,hPy,e0,e1,e2,e3,e4,hre,hrb,hrl⟩:=HCr.out.rd.at_ j hjl;have HXy:=G (HX.out _ (au hjl));generalize xs[j]=y at*;unfold CL at HXy;obtain⟨Ey,ey,rfl,_⟩:=hre.form;obtain⟨By,by_,rfl,_⟩:=hrb.form;obtain⟨Cy,cy,rfl,_⟩:=hrl.form;have HRy:=G (ax hre (ax hrb hrl));have hsz:=HCr.out.bu.lt;have hEA:=O wr (.cells #[.int .i64 y.k, .string (ai y.nm), .slice Ey y.ex.length ey, .slice By y.body.length by_, .slice Cy y.els.length cy] 72);have HC1:=G (HCr.out.ex hEA);have HYB:=G (an wr 72 #[.int .i64 y.k, .string (ai y.nm), .slice Ey y.ex.length ey, .slice By y.body.length by_, .slice Cy y.els.length cy]);have hpy:wr.heap.size≠b:=by omega
   have HRz:=G (ax (hre.keep (.of_ext hEA) (fun _ hb _=>hb)) (ax (hrb.keep (.of_ext hEA) (fun _ hb _=>hb)) (hrl.keep (.of_ext hEA) (fun _ hb _=>hb))));generalize ((bG xs (i+1)).take j).flatMap F=J at*;generalize hJ1:((bG xs (i+1)).take (j+1)).flatMap F=J1 at*;have hJl:=congrArg List.length HT.out;simp only[aa,ae,ag,HTL1.out]at hJl;generalize jq (i+1)=T1 at*;clear hre hrb hrl hsl hsj HRy hEA;go_wp2_with fail;refine az 6 3 [(5,fun x=>x= .string (ai T1),fun _ _=>True)] mixed (by kernel_rfl) ⟨fun _ _ _ _ _=>trivial,trivial⟩ ?_;repeat (refine sx ?_ (fun w1 hU=> ?_) ?_;rotate_left;(focus go_simp<;>with_reducible rfl);simp only[aY,aX,aW,aV,aU])
   refine so (fun w6 hU hp K hK=> ?_) ?_
   ·clear hp hU;go_simp;refine(HTI1.out w6).mono ?_;rintro e w7 ⟨rfl,hE⟩;exact hK _ _ hE rfl trivial
   rintro _ rfl;simp only[aY,aX,aW,aV,aU];repeat (refine sx ?_ (fun w1 hU=> ?_) ?_;rotate_left;(focus go_simp<;>with_reducible rfl);simp only[aY,aX,aW,aV,aU])
   intro z2 hz2 hp;clear hp;simp only[ac,ap];have HC2:=G (HC1.out.ex hz2.un);have HYB2:=G (HYB.out.ext hz2.un);have HRw:=G (ax (HRz.out.1.keep (.of_ext hz2.un) (fun _ hb _=>hb)) (ax (HRz.out.2.1.keep (.of_ext hz2.un) (fun _ hb _=>hb)) (HRz.out.2.2.keep (.of_ext hz2.un) (fun _ hb _=>hb))));clear hz2 HC1;go_wp2_with (first|(go_at_call 91;refine(cu b (l++[123,10]++J) T1 _ HC2.out.bu (by have a3:=HTL1.out;(try have a1:=Hzc1.out);(try have a2:=Hzc2.out);(try simp only[aa,ae,ag]);omega)).mono ?_;rintro e u3 ⟨rfl,h1,h2⟩;have HC3:=G (HC2.out.wr h1 h2);have HYB3:=G (h2.keep _ _ _ hpy (by decide) HYB2.out);have hyc:=HYB3.out.cell;have HRv:=G (ax (HRw.out.1.keep (h2.keepP hP) (fun _ hb _=>hb)) (ax (HRw.out.2.1.keep (h2.keepP hP) (fun _ hb _=>hb)) (HRw.out.2.2.keep (h2.keepP hP) (fun _ hb _=>hb))));clear h1 h2 HC2)|(go_at_call 136;refine(HXy.out P _ Ey By Cy _ ey _ by_ _ cy b (i+1) (l++[123,10]++J++T1) HRv.out.1 HRv.out.2.1 HRv.out.2.2 hP HC3.out.tab HC3.out.bu (by have a3:=HTL1.out;(try have a1:=Hzc1.out);(try have a2:=Hzc2.out);(try simp only[aa,ae,ag]);omega)).mono ?_;rintro e u4 ⟨rfl,h1,h2⟩;have HC4:=G (HC3.out.wr h1 h2);clear h1 h2 HC3 hyc)|(go_at_call 91;refine(cu b (l++[123,10]++J++T1++dK y (i+1)) [10] _ HC4.out.bu (by have a3:=HTL1.out;(try have a1:=Hzc1.out);(try have a2:=Hzc2.out);(try simp only[aa,ae,ag]);omega)).mono ?_;rintro e u5 ⟨rfl,h1,h2⟩;have HC5:=G (HC4.out.wr h1 h2);clear h1 h2 HC4));go_roundw
   case rel=>exact⟨j+1,by go_num,by omega,by have:=HT.out;rw[hJ1,this];simpa[aP]using HC5⟩
   case measure=>simp[intOf];omega
  ·have hlt': ¬(j:Int)<nb:=by omega
   have hjn:j=nb:=by omega
   have HQ:=G (show(bG xs (i+1)).take j=bG xs (i+1)from by rw[hjn,HN.out,bU (by rw[ky];simp)]);rw[HQ.out]at HCr;generalize (bG xs (i+1)).flatMap F=J at*;clear HQ;generalize jq i=T0 at*;have htl0:=HTL.out;obtain⟨c1,Hc1⟩: ∃c,Hid (T0++[125]=c):=⟨_,G rfl⟩
   have hzc1:c1.length=T0.length+1:=by rw[<-Hc1.out,aa];rfl
   have hsc1:ai T0++(⟨#[125]⟩:ByteArray)=ai c1:=by rw[<-Hc1.out];exact dI _ _
   have hmc1: ¬9223372036854775807<T0.length+1:=by omega
   have hkc1: ¬9223372036854775807<1+T0.length:=by omega
   have hqc1T0:(ai T0).size=T0.length:=a7 _;have hqc1l:((⟨#[125]⟩:ByteArray)).size=1:=rfl;have Hzc1:=G hzc1;clear hzc1;clear htl0;go_wp2_with fail;refine az 6 3 [(4,fun x=>x= .string (ai T0),fun _ _=>True)] mixed (by kernel_rfl) ⟨fun _ _ _ _ _=>trivial,trivial⟩ ?_;repeat (refine sx ?_ (fun w1 hU=> ?_) ?_;rotate_left;(focus go_simp<;>with_reducible rfl);simp only[aY,aX,aW,aV,aU])
   refine so (fun w6 hU hp K hK=> ?_) ?_
   ·clear hp hU;go_simp;refine(HTI.out w6).mono ?_;rintro e w7 ⟨rfl,hE⟩;exact hK _ _ hE rfl trivial
   rintro _ rfl;simp only[aY,aX,aW,aV,aU];repeat (refine sx ?_ (fun w1 hU=> ?_) ?_;rotate_left;(focus go_simp<;>with_reducible rfl);simp only[aY,aX,aW,aV,aU])
   intro z2 hz2 hp;clear hp;simp only[ac,ap];have HC2:=G (HCr.out.ex hz2.un);clear hz2 HCr;go_wp2_with (go_at_call 91;refine(cu b (l++[123,10]++J) c1 _ HC2.out.bu (by have a3:=HTL.out;(try have a1:=Hzc1.out);(try have a2:=Hzc2.out);(try simp only[aa,ae,ag]);omega)).mono ?_;rintro e u3 ⟨rfl,h1,h2⟩;have HC3:=G (HC2.out.wr h1 h2);clear h1 h2 HC2)
   go_end0
   exact⟨rfl,by rw[<-HS.out];have:=HC3.out.bu;rw[<-Hc1.out]at this;simpa[aP]using this,HC3.out.fb⟩
end
section
open Go.RowKit
theorem qd: ∀(m:Nat) (x:St),x.wt<=m->x.ok=true->CL x/\(x.k=4->tq x)
 |0,x,hm,_=>absurd hm (by have:=x.wt_eq;omega)
 |m+1, .mk k nm es bd el,hm,h=>by
  have hw:=(St.mk k nm es bd el).wt_eq;simp only[St.nm,St.ex,St.body,St.els]at hw;rw[St.ok,ak,ak,ak]at h;obtain⟨⟨h1,h2⟩,h3,h4⟩:=h;rw[nt]at h2;rw[jv]at h3 h4;have he: ∀y,y∈es->m6 y:=fun y hy=>zD (List.all_eq_true.1 h2 y hy);have ihB: ∀y,y∈bd->CL y:=fun y hy=>(qd m y (by have:=bS hy;omega) (List.all_eq_true.1 h3 y hy)).1;have ihL: ∀y,y∈el->CL y/\(y.k=4->tq y):=fun y hy=>qd m y (by have:=bS hy;omega) (List.all_eq_true.1 h4 y hy);have hbl:=qs bd ihB;have hel:=qs el (fun y hy=>(ihL y hy).1);have hc:k=4->tq (.mk k nm es bd el):=by
   rintro rfl;rw[if_neg (by decide),if_neg (by decide),if_neg (by decide),if_pos rfl]at h1;simp only[ak,beq_iff_eq]at h1;obtain⟨y,rfl⟩:=List.length_eq_one_iff.1 h1.2;have hy:=he y (by simp);intro P w A B C n c nb cb nl cl b i l hR hRb hRl hP hT hB hl
   match el,hRl,ihL,hel,hl with
   | [],hRl,ihL,hel,hl=>exact Em nm bd y hy hbl P w A B C n c nb cb nl cl b i l hR hRb hRl hP hT hB _ rfl hl
   | [s],hRl,ihL,hel,hl=>
    by_cases hs:s.k=4
    ·exact El nm bd y hy hbl s hs ((ihL s (by simp)).2 hs) P w A B C n c nb cb nl cl b i l hR hRb hRl hP hT hB _ rfl hl
    ·exact Ek nm bd y hy hbl s hs hel P w A B C n c nb cb nl cl b i l hR hRb hRl hP hT hB _ rfl hl
   |s1::s2::r,hRl,ihL,hel,hl=>exact Ej nm bd y hy hbl s1 s2 r hel P w A B C n c nb cb nl cl b i l hR hRb hRl hP hT hB _ rfl hl
  refine⟨?_,hc⟩;intro P w A B C n c nb cb nl cl b i l hR hRb hRl hP hT hB hl;simp only[St.k,St.nm,St.ex,St.body,St.els]at*;by_cases k1:k=1
  ·subst k1;rw[if_pos rfl]at h1;simp only[ak,decide_eq_true_eq]at h1
   match es,he,h1,hR,hl with
   | [],he,h1,hR,hl=>exact C8 nm bd el P w A B C n c nb cb nl cl b i l hR hRb hRl hP hT hB _ rfl hl
   | [y],he,h1,hR,hl=>exact C7 nm bd el y (he y (by simp)) P w A B C n c nb cb nl cl b i l hR hRb hRl hP hT hB _ rfl hl
   |y::z::r,he,h1,hR,hl=>exact absurd h1.1.1.2 (by simp)
  rw[if_neg k1]at h1;by_cases k2:k=2
  ·subst k2;rw[if_pos rfl]at h1;simp only[ak,beq_iff_eq]at h1;obtain⟨y,rfl⟩:=List.length_eq_one_iff.1 h1.1.1.2;exact DV nm bd el y (he y (by simp)) P w A B C n c nb cb nl cl b i l hR hRb hRl hP hT hB _ rfl hl
  rw[if_neg k2]at h1;by_cases k3:k=3
  ·subst k3;rw[if_pos rfl]at h1;simp only[ak,beq_iff_eq]at h1;obtain⟨y,z,rfl⟩: ∃y z,es=[y,z]:=by
    match es,h1 with
    | [],h1=>simp at h1
    | [y],h1=>simp at h1
    | [y,z],h1=>exact⟨y,z,rfl⟩
    |y::z::u::r,h1=>simp at h1
   exact DU nm bd el y z (he y (by simp)) (he z (by simp)) P w A B C n c nb cb nl cl b i l hR hRb hRl hP hT hB _ rfl hl
  rw[if_neg k3]at h1;by_cases k4:k=4
  ·subst k4;exact DT nm bd el es (hc rfl) P w A B C n c nb cb nl cl b i l hR hRb hRl hP hT hB _ rfl hl
  rw[if_neg k4]at h1;by_cases k5:k=5
  ·subst k5;rw[if_pos rfl]at h1;simp only[ak,beq_iff_eq]at h1;obtain⟨y,rfl⟩:=List.length_eq_one_iff.1 h1.1.2;exact DS nm bd el y (he y (by simp)) hbl P w A B C n c nb cb nl cl b i l hR hRb hRl hP hT hB _ rfl hl
  rw[if_neg k5]at h1;by_cases k6:k=6
  ·subst k6;rw[if_pos rfl]at h1;simp only[ak,decide_eq_true_eq]at h1
   match es,he,h1,hR,hl with
   | [],he,h1,hR,hl=>exact C6 nm bd el P w A B C n c nb cb nl cl b i l hR hRb hRl hP hT hB _ rfl hl
   | [y],he,h1,hR,hl=>exact C5 nm bd el y (he y (by simp)) P w A B C n c nb cb nl cl b i l hR hRb hRl hP hT hB _ rfl hl
   |y::z::r,he,h1,hR,hl=>exact absurd h1.1.1.2 (by simp)
  rw[if_neg k6]at h1;by_cases k7:k=7
  ·subst k7;rw[if_pos rfl]at h1;simp only[ak,beq_iff_eq]at h1;obtain⟨y,rfl⟩:=List.length_eq_one_iff.1 h1.1.1.1.2;exact DR nm bd el y (he y (by simp)) P w A B C n c nb cb nl cl b i l hR hRb hRl hP hT hB _ rfl hl
  ·rw[if_neg k7]at h1
   cases h1
theorem zE {x:St} (h:x.ok=true):CL x:=(qd _ x (ah _) h).1
theorem zG {xs:List St} (h:oL xs=true):kR xs:=qs xs fun y hy=>zE (by rw[jv]at h;exact List.all_eq_true.1 h y hy)
end
section
open Go.RowKit
theorem mB (sep:List UInt8) (l:List (List UInt8)):Lib.join l sep=dU sep l:=by
 cases l with
 |nil=>rfl
 |cons x r=>rw[Lib.join_cons];simp[Lib.joinTail,dU,List.flatMap_def]
theorem vG (A:Option Addr) (n c:Nat) (ws:List (List UInt8)) (P:Nat->Prop) (w:World) (hw:lC w P (.slice A n c) ws) (hl:(dU [44,32] ws).length<=1000000000):
  Calls prog 93 #[.slice A n c, .string ⟨#[44,32]⟩] w fun e w'=>e= .returned (.string (ai (dU [44,32] ws)))/\aq w w':=by
 obtain⟨A',c',hv,h⟩:=hw;injection hv with hA hn hc;subst hA hn hc;rcases h with rfl|⟨h1,h2,b,o,rfl,hP,hb,hcell⟩
 ·refine(Tryz.strings_Join_none A c ⟨#[44,32]⟩ w).mono ?_;rintro e w' ⟨rfl,rfl⟩;exact⟨rfl,aR _⟩
 ·have hm:(ws.map ai).map (·.data.toList)=ws:=by
   rw[List.map_map];have:((fun x:ByteArray=>x.data.toList) ∘ ai)=id:=funext fun l=>gX l;rw[this,List.map_id]
  unfold maxLen at h2
  have:=Tryz.strings_Join b o c (ws.map ai) ⟨#[44,32]⟩ w (fun j x hx=>by
    rw[fS]at hx;obtain⟨y,hy,rfl⟩:=Option.map_eq_some_iff.1 hx;obtain⟨hj,rfl⟩:=List.getElem?_eq_some_iff.1 hy;exact hcell j hj) hb (by
    rw[jC]
    cases ws with
    |nil=>simp
    |cons x r=>
     have:=Lib.join_length x r [44,32];rw[mB]at this;simp only[ae,ag]at this⊢
     omega) (by simp;exact h1) (by rw[hm,show((⟨#[44,32]⟩:ByteArray).data.toList)=[44,32]from rfl,mB];omega)
  rw[hm,jC,show((⟨#[44,32]⟩:ByteArray).data.toList)=[44,32]from rfl,mB]at this;exact this
structure PQ (b px:Nat) (w0:World) (P:Nat->Prop) (vv fv:Value) (p:Pg) (l:List UInt8) (W:World):Prop where
 box:aL W px 34 #[vv,fv]
 bu:Bu W b l
 rv:mc W P vv p.vs
 rf:mm W P fv p.fs
 fb:FB b w0 W
 tab:du W b
 ne:px≠b
 tt:34≠5
 hP: ∀k,P k->k<b
section
variable {b px:Nat} {w0 W W':World} {P:Nat->Prop} {vv fv:Value} {p:Pg} {l l':List UInt8}
theorem PQ.wr (h:PQ b px w0 P vv fv p l W) (hB:Bu W' b l') (hF:FB b W W'):PQ b px w0 P vv fv p l' W':=
 ⟨hF.keep _ _ _ h.ne h.tt h.box,hB,h.rv.keep (hF.keepP h.hP) (fun _ hb _=>hb),h.rf.keep (hF.keepP h.hP) (fun _ hb _=>hb),h.fb.trans hF,h.tab.fb hF,h.ne,h.tt,h.hP⟩
theorem PQ.ex (h:PQ b px w0 P vv fv p l W) (hE:aq W W'):PQ b px w0 P vv fv p l W':=h.wr (h.bu.ext hE) (aT hE (aH h.bu.lt))
end
theorem jN {α:Type} (F:α->List UInt8) (l:List α) (j:Nat):((l.take j).flatMap F).length<=(l.flatMap F).length:=by
 conv=>rhs;rw[<-cw j l,fx,aa]
 omega
theorem iz {α:Type} (F:α->List UInt8) (l:List α) (j:Nat) (h:j<l.length):(l.take (j+1)).flatMap F=(l.take j).flatMap F++F l[j]:=by
 rw[bp h,fx];simp
theorem sy (p:Pg) (hok: ∀f,f∈p.fs->oL f.body=true) (hsz: ∀v,v∈p.vs->v.sz<=9223372036854775807) (P:Nat->Prop) (w:World) (A B:Option Addr) (n c m d:Nat) (hV:mc w P (.slice A n c) p.vs) (hF:mm w P (.slice B m d) p.fs) (hT:du w w.heap.size) (hl:(j9 p).length<=1000000000):
  Calls prog 57 #[.agg #[.slice A n c, .slice B m d]] w fun e w'=>e= .returned (.string (ai (j9 p)))/\aq w w':=by
 have hnv:n=p.vs.length/\n<=maxLen:=by
  obtain⟨A',c',hv,h⟩:=hV;injection hv with _ hn _;refine⟨hn,?_⟩;rcases h with h|⟨h1,h2,_⟩
  ·rw[hn,h];exact aG _
  ·omega
 have hnf:m=p.fs.length/\m<=maxLen:=by
  obtain⟨A',c',hv,h⟩:=hF;injection hv with _ hn _;refine⟨hn,?_⟩;rcases h with h|⟨h1,h2,_⟩
  ·rw[hn,h];exact aG _
  ·omega
 obtain⟨hnv,hnm⟩:=hnv;obtain⟨hnf,hnn⟩:=hnf;unfold maxLen at hnm hnn;have HNV:=G hnv;have HNF:=G hnf;have HSZ:=G hsz;have HOK:=G hok;have HS:=G (show p.vs.flatMap kK++p.fs.flatMap kL=j9 p from rfl);have hlen:(p.vs.flatMap kK).length+(p.fs.flatMap kL).length=(j9 p).length:=by rw[<-HS.out,aa]
 generalize j9 p=S at*;have hE1:=O w (.cells #[.slice A n c, .slice B m d] 34);have hE2:=hE1.trans (O (w.alloc (.cells #[.slice A n c, .slice B m d] 34)) (.cells #[.pointer none, .slice none 0 0] 195));have hs1:(w.alloc (.cells #[.slice A n c, .slice B m d] 34)).heap.size=w.heap.size+1:=Array.size_push _;have hKx:cC P w ((w.alloc (.cells #[.slice A n c, .slice B m d] 34)).alloc (.cells #[.pointer none, .slice none 0 0] 195)):= .of_ext hE2;obtain⟨w0,hw0⟩: ∃W,W=((w.alloc (.cells #[.slice A n c, .slice B m d] 34)).alloc (.cells #[.pointer none, .slice none 0 0] 195)):=⟨_,rfl⟩
 have HE2:=G (show aq w w0 from hw0▸hE2)
 have HC0:=G (show PQ (w.heap.size+1) w.heap.size w0 (fun k=>k<w.heap.size) (.slice A n c) (.slice B m d) p [] ((w.alloc (.cells #[.slice A n c, .slice B m d] 34)).alloc (.cells #[.pointer none, .slice none 0 0] 195))from
  ⟨(an w _ _).ext (O _ _),hs1▸Bu.new _,hV.keep hKx (fun _ _ h=>h),hF.keep hKx (fun _ _ h=>h),hw0▸FB.refl _ _,⟨((hT.fb (aT hE2 (ah _)))).1,Nat.lt_succ_of_lt hT.2⟩,eH (eo _),by decide,fun k h=>Nat.lt_succ_of_lt h⟩)
 clear hV hF hT hE1 hE2 hKx hnv hnf hsz hok hw0;generalize hb:w.heap.size+1=b at*;have HXB:=G (show w.heap.size<=b/\True from⟨by omega,trivial⟩);generalize hpx:w.heap.size=px at*;have hbc:=HC0.out.box.cell;go_enter func57,ntmps57;go_wp2_with fail
 go_loopw [11] (fun vi wr=> ∃j:Nat,vi= .int .i64 (j:Int)/\j<=n/\Hid (PQ b px w0 (fun k=>k<px) (.slice A n c) (.slice B m d) p ((p.vs.take j).flatMap kK) wr)) (fun vi _=>n-(intOf vi).toNat)
 case atStart=>exact⟨0,rfl,aG _,HC0⟩
 case round=>
  clear HC0 hbc;obtain⟨j,rfl,hj,HCr⟩:=hrel;by_cases hlt:j<n
  ·have hlt':(j:Int)<n:=by omega
   have hjl:j<p.vs.length:=by have:=HNV.out;omega
   obtain⟨A',c',hv,hh⟩:=HCr.out.rv;injection hv with hA hn' hc';rcases hh with hh|⟨h1,h2,b9,o9,hA2,hP9,hb9,hcl⟩
   ·rw[hh]at hjl;simp at hjl
   obtain⟨e0,e1⟩:=hcl j hjl;have hA3:A=some ⟨b9,o9,none⟩:=hA.trans hA2;subst hA3;clear hcl hA hA2 hn' hc' h1 h2 hP9;have hvz:=HSZ.out _ (au hjl);have HT:=G (iz kK p.vs j hjl);have hbd:=jN kK p.vs (j+1);have HSV:=G (show kK p.vs[j]=[118,97,114,32]++p.vs[j].nm++(if 0<p.vs[j].sz then[91]++ig p.vs[j].sz.toNat++[93]else[])++[59,10]from rfl);generalize kK p.vs[j]=SVj at*;generalize p.vs[j].nm=vn at*;generalize p.vs[j].sz=vz at*;generalize (p.vs.take j).flatMap kK=J at*;generalize hJ1:(p.vs.take (j+1)).flatMap kK=J1 at*;have hJl:=congrArg List.length HT.out;simp only[aa]at hJl;have hsz:=HCr.out.bu.lt;have hEA:=O wr (.cells #[.string (ai vn), .int .i64 vz] 85);have HC1:=G (HCr.out.ex hEA);have HYB:=G (an wr 85 #[.string (ai vn), .int .i64 vz]);have hyc:=HYB.out.cell;have hpy:wr.heap.size≠b:=by omega
   clear hEA;by_cases hz:0<vz
   ·have hSl:=congrArg List.length HSV.out;rw[if_pos hz]at HSV hSl;have HIt:=G (fun w h=>ro vz (by omega) hvz w b h);generalize ig vz.toNat=D at*;simp only[aa,ae,ag]at hSl;have HLL:=G (show J.length+(4+vn.length+(1+D.length+1)+2)<=1000000000 from by omega);obtain⟨c1,Hc1⟩: ∃c,Hid ([118,97,114,32]++vn=c):=⟨_,G rfl⟩
    have hzc1:c1.length=4+vn.length:=by rw[<-Hc1.out,aa];(try rfl)
    have hsc1:(⟨#[118,97,114,32]⟩:ByteArray)++ai vn=ai c1:=by rw[<-Hc1.out];exact dI _ _
    have hmc1: ¬9223372036854775807<4+vn.length:=by omega
    have hkc1: ¬9223372036854775807<vn.length+4:=by omega
    have hqc1l:((⟨#[118,97,114,32]⟩:ByteArray)).size=4:=rfl;have hqc1vn:(ai vn).size=vn.length:=a7 _;obtain⟨c2,Hc2⟩: ∃c,Hid ([91]++D=c):=⟨_,G rfl⟩
    have hzc2:c2.length=1+D.length:=by rw[<-Hc2.out,aa];(try rfl)
    have hsc2:(⟨#[91]⟩:ByteArray)++ai D=ai c2:=by rw[<-Hc2.out];exact dI _ _
    have hmc2: ¬9223372036854775807<1+D.length:=by omega
    have hkc2: ¬9223372036854775807<D.length+1:=by omega
    have hqc2l:((⟨#[91]⟩:ByteArray)).size=1:=rfl;have hqc2D:(ai D).size=D.length:=a7 _;obtain⟨c3,Hc3⟩: ∃c,Hid (c2++[93]=c):=⟨_,G rfl⟩
    have hzc3:c3.length=c2.length+1:=by rw[<-Hc3.out,aa];(try rfl)
    have hsc3:ai c2++(⟨#[93]⟩:ByteArray)=ai c3:=by rw[<-Hc3.out];exact dI _ _
    have hmc3: ¬9223372036854775807<c2.length+1:=by omega
    have hkc3: ¬9223372036854775807<1+c2.length:=by omega
    have hqc3c2:(ai c2).size=c2.length:=a7 _;have hqc3l:((⟨#[93]⟩:ByteArray)).size=1:=rfl;have Hzc1:=G hzc1;clear hzc1;have Hzc2:=G hzc2;clear hzc2;have Hzc3:=G hzc3;clear hzc3;clear hSl hJl;go_wp2_with (first|(go_at_call 91;refine(cu b J c1 _ HC1.out.bu (by have a1:=Hzc1.out;have a2:=HLL.out;omega)).mono ?_;rintro e u2 ⟨rfl,h1,h2⟩;have HC2:=G (HC1.out.wr h1 h2);have HYB2:=G (h2.keep _ _ _ hpy (by decide) HYB.out);clear hyc;have hyc:=HYB2.out.cell;clear h1 h2 HC1)|(go_at_call 92;refine(HIt.out _ HC2.out.tab).mono ?_;rintro e u3 ⟨rfl,hE⟩;have HC3:=G (HC2.out.ex hE);clear hE hyc HC2)|(go_at_call 91;refine(cu b (J++c1) c3 _ HC3.out.bu (by have a1:=Hzc1.out;have a2:=Hzc2.out;have a3:=Hzc3.out;have a4:=HLL.out;simp only[aa];omega)).mono ?_;rintro e u4 ⟨rfl,h1,h2⟩;have HC4:=G (HC3.out.wr h1 h2);clear h1 h2 HC3)|(go_at_call 91;refine(cu b (J++c1++c3) [59,10] _ HC4.out.bu (by have a1:=Hzc1.out;have a2:=Hzc2.out;have a3:=Hzc3.out;have a4:=HLL.out;simp only[aa,ae,ag];omega)).mono ?_;rintro e u5 ⟨rfl,h1,h2⟩;have HC5:=G (HC4.out.wr h1 h2);clear h1 h2 HC4));go_roundw
    case rel=>exact⟨j+1,by go_num,by omega,by have h9:=HT.out;have h8:=HSV.out;rw[hJ1,h9,h8,Hc1.out,Hc2.out,Hc3.out];simpa[aP]using HC5⟩
    case measure=>simp[intOf];omega
   ·have hSl:=congrArg List.length HSV.out;rw[if_neg hz]at HSV hSl;simp only[aa,ae,ag]at hSl;have HLL:=G (show J.length+(4+vn.length+2)<=1000000000 from by omega);obtain⟨c1,Hc1⟩: ∃c,Hid ([118,97,114,32]++vn=c):=⟨_,G rfl⟩
    have hzc1:c1.length=4+vn.length:=by rw[<-Hc1.out,aa];(try rfl)
    have hsc1:(⟨#[118,97,114,32]⟩:ByteArray)++ai vn=ai c1:=by rw[<-Hc1.out];exact dI _ _
    have hmc1: ¬9223372036854775807<4+vn.length:=by omega
    have hkc1: ¬9223372036854775807<vn.length+4:=by omega
    have hqc1l:((⟨#[118,97,114,32]⟩:ByteArray)).size=4:=rfl;have hqc1vn:(ai vn).size=vn.length:=a7 _;have Hzc1:=G hzc1;clear hzc1;clear hSl hJl;go_wp2_with (first|(go_at_call 91;refine(cu b J c1 _ HC1.out.bu (by have a1:=Hzc1.out;have a2:=HLL.out;omega)).mono ?_;rintro e u2 ⟨rfl,h1,h2⟩;have HC2:=G (HC1.out.wr h1 h2);have HYB2:=G (h2.keep _ _ _ hpy (by decide) HYB.out);clear hyc;have hyc:=HYB2.out.cell;clear h1 h2 HC1)|(go_at_call 91;refine(cu b (J++c1) [59,10] _ HC2.out.bu (by have a1:=Hzc1.out;have a4:=HLL.out;simp only[aa,ae,ag];omega)).mono ?_;rintro e u5 ⟨rfl,h1,h2⟩;have HC5:=G (HC2.out.wr h1 h2);clear h1 h2 HC2));go_roundw
    case rel=>exact⟨j+1,by go_num,by omega,by have h9:=HT.out;have h8:=HSV.out;rw[hJ1,h9,h8,Hc1.out];simpa[aP]using HC5⟩
    case measure=>simp[intOf];omega
  ·have hlt': ¬(j:Int)<n:=by omega
   have hjn:j=n:=by omega
   have HQ:=G (show p.vs.take j=p.vs from by rw[hjn,HNV.out,bD]);rw[HQ.out]at HCr;clear HQ;have hbc:=HCr.out.box.cell;go_wp2_with fail;clear hlt hlt' hjn hj;generalize hV0:p.vs.flatMap kK=V0 at*
   go_loopw [36] (fun vi wr=> ∃j:Nat,vi= .int .i64 (j:Int)/\j<=m/\Hid (PQ b px w0 (fun k=>k<px) (.slice A n c) (.slice B m d) p (V0++(p.fs.take j).flatMap kL) wr)) (fun vi _=>m-(intOf vi).toNat)
   case atStart=>exact⟨0,rfl,aG _,by simpa using HCr⟩
   case round=>
    clear HCr hbc;rename_i wx;obtain⟨j,rfl,hj,HCr⟩:=hrel;by_cases hlt:j<m
    ·have hlt':(j:Int)<m:=by omega
     have hjl:j<p.fs.length:=by have:=HNF.out;omega
     obtain⟨A',c',hv,hh⟩:=HCr.out.rf;injection hv with hA hn' hc';rcases hh with hh|⟨h1,h2,b9,o9,hA2,hP9,hb9,pv,bv,hcl⟩
     ·rw[hh]at hjl;simp at hjl
     obtain⟨e0,e1,e2,hrn,hrs⟩:=hcl j hjl;have hA3:B=some ⟨b9,o9,none⟩:=hA.trans hA2;subst hA3;clear hcl hA hA2 hn' hc' h1 h2 hP9;have hob:=HOK.out _ (au hjl);have HT:=G (iz kL p.fs j hjl);have hbd:=jN kL p.fs (j+1);have HSV:=G (show kL p.fs[j]=[102,117,110,99,32]++p.fs[j].nm++[40]++dU [44,32] p.fs[j].ps++[41,32]++eU 0 (bG p.fs[j].body 1)++[10]from rfl);generalize kL p.fs[j]=SVj at*;generalize p.fs[j].nm=fn at*;generalize p.fs[j].ps=fps at*;generalize p.fs[j].body=fb at*;generalize pv j=pvj at*;generalize bv j=bvj at*
     have HBk:=G (show ∀(P:Nat->Prop) (w:World) (B:Option Addr) (nb cb b:Nat) (l:List UInt8),cR w P (.slice B nb cb) fb->(∀k,P k->k<b)->du w b->Bu w b l->l.length+(eU 0 (bG fb 1)).length<=1000000000->
      Calls prog 94 #[.pointer (some ⟨b,0,none⟩), .slice B nb cb, .int .i64 0] w (fun e w'=>e= .returned (.tuple #[])/\Bu w' b (l++eU 0 (bG fb 1))/\FB b w w')from fun P w B nb cb b l=>zG hob P w B nb cb b 0 l)
     generalize hJ0:(p.fs.take j).flatMap kL=J0 at*;generalize hJ:V0++J0=J at*;have hJJ:=congrArg List.length hJ;generalize hJ1:(p.fs.take (j+1)).flatMap kL=J1 at*;have hJl:=congrArg List.length HT.out;simp only[aa]at hJl hJJ;obtain⟨Ap,cp,rfl,_⟩:=id hrn;obtain⟨Ab,cbb,rfl,_⟩:=hrs.form;have hsz:=HCr.out.bu.lt;have hEA:=O wr (.cells #[.string (ai fn), .slice Ap fps.length cp, .slice Ab fb.length cbb] 59);have HC1:=G (HCr.out.ex hEA);have HYB:=G (an wr 59 #[.string (ai fn), .slice Ap fps.length cp, .slice Ab fb.length cbb]);have HRn:=G (hrn.keep (.of_ext hEA) (fun _ hb _=>hb));have HRs:=G (hrs.keep (.of_ext hEA) (fun _ hb _=>hb));have hpy:wr.heap.size≠b:=by omega
     have hSl:=congrArg List.length HSV.out;have HBD:=G (show ∀(k:Nat),k<px->k<b from HCr.out.hP);generalize hJs:dU [44,32] fps=Js at*;simp only[aa,ae,ag]at hSl;have HLL:=G (show J.length+(5+fn.length+1+Js.length+2+(eU 0 (bG fb 1)).length+1)<=1000000000 from by omega);obtain⟨c1,Hc1⟩: ∃c,Hid ([102,117,110,99,32]++fn=c):=⟨_,G rfl⟩
     have hzc1:c1.length=5+fn.length:=by rw[<-Hc1.out,aa];(try rfl)
     have hsc1:(⟨#[102,117,110,99,32]⟩:ByteArray)++ai fn=ai c1:=by rw[<-Hc1.out];exact dI _ _
     have hmc1: ¬9223372036854775807<5+fn.length:=by omega
     have hkc1: ¬9223372036854775807<fn.length+5:=by omega
     have hqc1l:((⟨#[102,117,110,99,32]⟩:ByteArray)).size=5:=rfl;have hqc1fn:(ai fn).size=fn.length:=a7 _;obtain⟨c2,Hc2⟩: ∃c,Hid (c1++[40]=c):=⟨_,G rfl⟩
     have hzc2:c2.length=c1.length+1:=by rw[<-Hc2.out,aa];(try rfl)
     have hsc2:ai c1++(⟨#[40]⟩:ByteArray)=ai c2:=by rw[<-Hc2.out];exact dI _ _
     have hmc2: ¬9223372036854775807<c1.length+1:=by omega
     have hkc2: ¬9223372036854775807<1+c1.length:=by omega
     have hqc2c1:(ai c1).size=c1.length:=a7 _;have hqc2l:((⟨#[40]⟩:ByteArray)).size=1:=rfl;obtain⟨c3,Hc3⟩: ∃c,Hid (c2++Js=c):=⟨_,G rfl⟩
     have hzc3:c3.length=c2.length+Js.length:=by rw[<-Hc3.out,aa];(try rfl)
     have hsc3:ai c2++ai Js=ai c3:=by rw[<-Hc3.out];exact dI _ _
     have hmc3: ¬9223372036854775807<c2.length+Js.length:=by omega
     have hkc3: ¬9223372036854775807<Js.length+c2.length:=by omega
     have hqc3c2:(ai c2).size=c2.length:=a7 _;have hqc3Js:(ai Js).size=Js.length:=a7 _;obtain⟨c4,Hc4⟩: ∃c,Hid (c3++[41,32]=c):=⟨_,G rfl⟩
     have hzc4:c4.length=c3.length+2:=by rw[<-Hc4.out,aa];(try rfl)
     have hsc4:ai c3++(⟨#[41,32]⟩:ByteArray)=ai c4:=by rw[<-Hc4.out];exact dI _ _
     have hmc4: ¬9223372036854775807<c3.length+2:=by omega
     have hkc4: ¬9223372036854775807<2+c3.length:=by omega
     have hqc4c3:(ai c3).size=c3.length:=a7 _;have hqc4l:((⟨#[41,32]⟩:ByteArray)).size=2:=rfl;have Hzc1:=G hzc1;clear hzc1;have Hzc2:=G hzc2;clear hzc2;have Hzc3:=G hzc3;clear hzc3;have Hzc4:=G hzc4;clear hzc4;have HJs:=G (fun W (h:lC W (fun k=>k<px) (.slice Ap fps.length cp) fps)=>vG Ap fps.length cp fps (fun k=>k<px) W h (by have a1:=HLL.out;rw[hJs];omega));rw[hJs]at HJs;clear hSl hJl hEA hrn hrs hJs hbd hJJ hob;go_wp2_with fail;have hbw:=aH HC1.out.bu.lt;refine gM b 11 8 [(7,fun x=>x= .string (ai Js),fun _ _=>True),(10,fun x=>x= .tuple #[.int .i64 c4.length, .nilIface],fun _ wx=>Bu wx b (J++c4))] 10 mixed (by kernel_rfl) hbw ⟨fun _ _ _ _ _=>trivial,fun _ _ _ h hx=>h.ext hx,trivial⟩ ⟨.inr fun _ _ _ _ _=>trivial, .inl rfl,trivial⟩ ?_;repeat (refine sx ?_ (fun w1 hU=> ?_) ?_;rotate_left;(focus have hF:=lW (hU hbw);have f1:=(hF.keep _ _ _ hpy (by decide) HYB.out).cell;clear hF hU;go_simp<;>with_reducible rfl);simp only[aY,aX,aW,aV,aU])
     refine so (fun w6 hU hp K hK=> ?_) ?_
     ·have hR6:=HRn.out.keep ((lW (hU hbw)).keepP HBD.out) (fun _ hb _=>hb);clear hp hU;go_simp;refine(HJs.out w6 hR6).mono ?_;rintro e w7 ⟨rfl,hE⟩;exact hK _ _ hE rfl trivial
     rintro _ rfl;simp only[aY,aX,aW,aV,aU];repeat (refine sx ?_ (fun w1 hU=> ?_) ?_;rotate_left;(focus have hF:=lW (hU hbw);have f1:=(hF.keep _ _ _ hpy (by decide) HYB.out).cell;clear hF hU;go_simp<;>with_reducible rfl);simp only[aY,aX,aW,aV,aU])
     refine bH _ _ (by rfl) rfl ⟨_,rfl⟩ rfl (fun w6 hT hp K hK=> ?_) ?_
     ·have HC6:=G (HC1.out.ex hT.un);clear hp hT;go_simp;refine(cu b J c4 w6 HC6.out.bu (by have a1:=Hzc1.out;have a2:=Hzc2.out;have a3:=Hzc3.out;have a4:=Hzc4.out;have a5:=HLL.out;omega)).mono ?_;rintro e w7 ⟨rfl,h1,h2⟩;exact hK _ _ (fun _=>h2) rfl h1
     rintro _ rfl;simp only[aY,aX,aW,aV,aU];intro v3 hv3 hp;have HC3:=G (HC1.out.wr (hp _ (.head _)) hv3);have HYB3:=G (hv3.keep _ _ _ hpy (by decide) HYB.out);have hyc:=HYB3.out.cell;have HRv:=G (HRs.out.keep (hv3.keepP HBD.out) (fun _ hb _=>hb));clear hv3 hp HC1;simp only[ac,aM];go_wp2_with (first|(go_at_call 94;refine(HBk.out (fun k=>k<px) _ Ab _ cbb b (J++c4) HRv.out HBD.out HC3.out.tab HC3.out.bu (by have a1:=Hzc1.out;have a2:=Hzc2.out;have a3:=Hzc3.out;have a4:=Hzc4.out;have a5:=HLL.out;simp only[aa];omega)).mono ?_;rintro e u4 ⟨rfl,h1,h2⟩;have HC4:=G (HC3.out.wr h1 h2);clear h1 h2 HC3 hyc)|(go_at_call 91;refine(cu b (J++c4++eU 0 (bG fb 1)) [10] _ HC4.out.bu (by have a1:=Hzc1.out;have a2:=Hzc2.out;have a3:=Hzc3.out;have a4:=Hzc4.out;have a5:=HLL.out;simp only[aa,ae,ag];omega)).mono ?_;rintro e u5 ⟨rfl,h1,h2⟩;have HC5:=G (HC4.out.wr h1 h2);clear h1 h2 HC4));go_roundw
     case rel=>exact⟨j+1,by go_num,by omega,by have h9:=HT.out;have h8:=HSV.out;rw[hJ1,h9,h8,Hc1.out,Hc2.out,Hc3.out,Hc4.out,<-aP,hJ];simpa[aP]using HC5⟩
     case measure=>simp[intOf];omega
    ·have hlt': ¬(j:Int)<m:=by omega
     have hjn:j=m:=by omega
     have HQ:=G (show p.fs.take j=p.fs from by rw[hjn,HNF.out,bD]);rw[HQ.out,HS.out]at HCr;go_wp2_with (go_at_call 95;refine(xk b S _ HCr.out.bu (by omega)).mono ?_;rintro e u9 ⟨rfl,hB9⟩;have HB9:=G hB9;clear hB9);go_ret;exact⟨rfl,show Below w.heap.size w _ from Below.trans HE2.out (Below.mono (Below.trans HCr.out.fb.below HB9.out) (by have:=HXB.out.1;omega))⟩
end
section
open Go.RowKit
theorem r8 (l:List UInt8) (hl:l.length<=1073741824) (w:World):Calls prog 68 #[.string (ai l)] w fun e w'=>e= .returned (.bool (!dP l))/\aq w w':=by
 have HI:=G (cY l hl);generalize dP l=r at*;go_enter func68,ntmps68;go_wp2_with (go_at_call 66;refine(HI.out _).mono ?_;rintro e w1 ⟨rfl,rfl⟩);go_ret;exact⟨rfl,aR _⟩
def qW (v:Vr):Bool:=dP v.nm&&decide (0<=v.sz)&&decide (v.sz<=2000)
def oP (f:Fc):Bool:=dP f.nm&&decide (f.ps.length<=4)&&f.ps.all dP&&f.body.all (fun s=>decide (s.dep<=20)&&s.ok)
def gZ (p:Pg):Bool:=p.vs.all qW&&p.fs.all oP&&decide (p.vs.length<=20)&&decide (p.fs.length<=20)&&decide ((j9 p).length<=4000)
theorem nY {f:Fc} (h:oP f=true):oL f.body=true:=by
 unfold oP at h;simp only[ak,b_,decide_eq_true_eq]at h;rw[jv,b_];exact fun s hs=>(h.2 s hs).2
end
section
open Go.RowKit
def ng (i:Nat) (ts:List (List UInt8)):Nat:=(ts.map fun t=>t.length+i).sum
theorem fV (i:Nat) (t:List UInt8) (ts:List (List UInt8)):ng i (t::ts)=t.length+i+ng i ts:=by simp[ng]
theorem j7 {i j:Nat} (h:i<=j): ∀ts,ng i ts<=ng j ts
 | []=>ah _
 |t::ts=>by have:=j7 h ts;rw[fV,fV];omega
theorem sq (i:Nat): ∀ts:List (List UInt8),(ts.headD []).length<=ng i ts
 | []=>by simp[ng]
 |t::ts=>by rw[fV];simp;omega
theorem tL (i:Nat): ∀ts:List (List UInt8),(ts.headD []).length+(ts.tail.headD []).length<=ng i ts
 | []=>by simp[ng]
 | [t]=>by rw[fV];simp[ng]<;>omega
 |t::u::ts=>by rw[fV,fV];simp;omega
theorem sB {k:Int} {op nm tx:List UInt8} {v:Int} {ps:List Int} {ss:List (List UInt8)} (hv:k=1->v<=2147483647):
  (sC k op nm tx v ps ss).length<=10+op.length+nm.length+2*tx.length+ng 2 ss:=by
 have h1:=sq 2 ss;have h2:=tL 2 ss;have h3:=pt [44,32] ss;have h4:=sH tx;have h5:=nq (decide (ps.headD 0<7)) (ss.headD []);have h6:=nq (decide (ps.headD 0<kD op)) (ss.headD []);have h7:=nq (decide (ps.tail.headD 0<=kD op)) (ss.tail.headD []);have h8:k=1->(ig v.toNat).length<=10:=fun h=>rG (hv h);simp only[ae,ag]at h3;change _<=ng 2 ss at h3;unfold sC;split
 ·have:=h8 (by assumption);omega
 repeat' split
 all_goals (try simp only[aa,ae,ag])
 all_goals omega
mutual
theorem qL: ∀x:Ex,x.ok=true->(cm x).length+2<=12*x.wt
 | .mk k op nm tx v a,h=>by
  rw[Ex.ok,ak]at h;have ha:=nN a h.2
  have hs:=sB (k:=k) (op:=op) (nm:=nm) (tx:=tx) (v:=v) (ps:=a.map Ex.prec) (ss:=eK a) (fun e=>by
   subst e;have h1:=h.1;rw[if_pos rfl]at h1;simp only[ak,decide_eq_true_eq]at h1
   exact h1.1.1.2)
  rw[cm,Ex.wt];omega
theorem nN: ∀l:List Ex,m9 l=true->ng 2 (eK l)<=12*fL l
 | [],_=>by simp[eK,ng]
 |x::r,h=>by
  rw[m9,ak]at h;have:=qL x h.1;have:=nN r h.2;rw[eK,fV,fL];omega
end
theorem oA (i:Nat) (ts:List (List UInt8)):(eU i ts).length=3+i+ng (i+2) ts:=by
 have h: ∀ts:List (List UInt8),(ts.flatMap (fun t=>jq (i+1)++t++[10])).length=ng (i+2) ts:=by
  intro ts
  induction ts with
  |nil=>rfl
  |cons t r ih=>rw[bO,aa,ih,fV];simp[jq];omega
 unfold eU;rw[aa,aa,h];simp[jq];omega
theorem sA {i:Nat} {k:Int} {nm:List UInt8} {es bs ls l0:List (List UInt8)} {mY:Bool} {E B L:Nat} (he:ng 0 es<=E) (hb:ng (i+2) bs<=B)
  (hl:ng (i+2) ls<=L) (h0:ng 0 l0<=L):(jt i k nm es bs ls l0 mY).length<=20+2*i+nm.length+E+B+L:=by
 have h1:=sq 0 es;have h2:=tL 0 es;have h3:=sq 0 l0;have h4:=oA i bs;have h5:=oA i ls;unfold jt;repeat' split
 all_goals simp only[aa,ae,ag,uP,CV,CC,nJ,wR,lG]
 all_goals omega
theorem Ba (i:Nat) (ts:List (List UInt8)):ng 0 ts<=ng i ts:=j7 (aG _) ts
mutual
theorem uU: ∀(x:St) (i:Nat),x.ok=true->i+x.dep<=21->(dK x i).length+i+2<=150*x.wt
 | .mk k nm e b l,i,h,hd=>by
  rw[St.ok]at h;simp only[ak]at h;rw[St.dep]at hd;have h1:=nN e h.1.2;have hb:=i6 b (i+1);have hl:=i6 l (i+1);have h0:=i6 l i;have hb':=hb h.2.1 (by omega);have hl':=hl h.2.2 (by omega);have h0':=h0 h.2.2 (by omega);have m1:=j7 (show i+2<=i+1+2 by omega) (bG b (i+1));have m2:=j7 (show i+2<=i+1+2 by omega) (bG l (i+1));have m3:=Ba 2 (eK e);have m4:=Ba (i+2) (bG l i);have:=sA (i:=i) (k:=k) (nm:=nm) (es:=eK e) (bs:=bG b (i+1)) (ls:=bG l (i+1)) (l0:=bG l i) (mY:=mJ l) (E:=12*fL e) (B:=150*fq b) (L:=150*fq l)
   (by omega) (by omega) (by omega) (by omega)
  rw[dK,St.wt];omega
theorem i6: ∀(l:List St) (i:Nat),oL l=true->i+f9 l<=21->ng (i+2) (bG l i)<=150*fq l
 | [],i,_,_=>by simp[bG,ng]
 |x::r,i,h,hd=>by
  rw[oL,ak]at h;rw[f9]at hd;have:=uU x i h.1 (by omega);have:=i6 r i h.2 (by omega);rw[bG,fV,fq];omega
end
theorem jr {α:Type} (f g:α->Nat): ∀(l:List α),(∀x,x∈l->f x<=g x)->(l.map f).sum<=(l.map g).sum
 | [],_=>ah _
 |x::r,h=>by
  have:=jr f g r (fun y hy=>h y (gu _ hy));have:=h x (fJ ..);simp only[bY,eM];omega
theorem gh {α:Type} (c:Nat): ∀(l:List α),(l.map fun _=>c).sum=c*l.length
 | []=>rfl
 |x::r=>by rw[bY,eM,gh c r,ae,Nat.mul_succ];omega
theorem od {l:List UInt8} (h:dP l=true):l.length<=14:=by
 unfold dP at h;simp only[ak,decide_eq_true_eq]at h;exact h.1.1.2
theorem wX {v:Vr} (h:qW v=true):(kK v).length<=40:=by
 unfold qW at h;simp only[ak,decide_eq_true_eq]at h;have:=od h.1.1;have:=rG (v:=v.sz) (by omega);unfold kK;split<;>simp only[aa,ae,ag,uP]<;>omega
theorem zN {f:Fc} (h:oP f=true):f9 f.body<=20:=by
 unfold oP at h;simp only[ak,b_,decide_eq_true_eq]at h;have h2:=h.2;clear h;generalize f.body=l at*
 induction l with
 |nil=>exact aG _
 |cons x r ih=>
  have:=ih fun s hs=>h2 s (gu _ hs);have:=(h2 x (fJ ..)).1;rw[f9];omega
theorem wZ {f:Fc} (h:oP f=true):(kL f).length<=100+150*fq f.body:=by
 have hb:=i6 f.body 1 (nY h) (by have:=zN h;omega);have hk:=oA 0 (bG f.body 1);have hj:=pt [44,32] f.ps;have hm:=j7 (show 0+2<=1+2 by omega) (bG f.body 1);unfold oP at h;simp only[ak,b_,decide_eq_true_eq]at h;have h1:=od h.1.1.1;have h2:=jr (fun s:List UInt8=>s.length+[44,32].length) (fun _=>16) f.ps (fun s hs=>by have:=od (h.1.2 s hs);simp;omega);rw[gh]at h2;unfold kL;simp only[aa,ae,ag,tK];omega
theorem wY {p:Pg} (hv:p.vs.all qW=true) (hf:p.fs.all oP=true) (h1:p.vs.length<=20) (h2:p.fs.length<=20):(j9 p).length<=2800+150*(p.fs.map fun f=>fq f.body).sum:=by
 have a1:(p.vs.flatMap kK).length<=40*p.vs.length:=by
  rw[gK];have:=jr (fun v=>(kK v).length) (fun _=>40) p.vs (fun v hm=>wX (List.all_eq_true.1 hv v hm));rwa [gh]at this
 have a2:(p.fs.flatMap kL).length<=100*p.fs.length+150*(p.fs.map fun f=>fq f.body).sum:=by
  rw[gK];have:=jr (fun f=>(kL f).length) (fun f=>100+150*fq f.body) p.fs (fun f hm=>wZ (List.all_eq_true.1 hf f hm));have e: ∀l:List Fc,(l.map fun f=>100+150*fq f.body).sum=100*l.length+150*(l.map fun f=>fq f.body).sum:=by
   intro l
   induction l with
   |nil=>rfl
   |cons f r ih=>simp only[bY,eM,ae,ih];omega
  rwa [e]at this
 unfold j9;rw[aa];omega
def df:List bN->Nat
 | []=>0
 |t::r=>2+t.t.length+df r
theorem fj {l:List bN} (h:(ci l).k≠0):df l=2+(ci l).t.length+df l.tail:=by
 cases l with
 |nil=>exact absurd rfl h
 |cons t r=>rfl
theorem sY {s:List UInt8} {l:List bN} (h:cP s l=true):(ci l).k≠0:=by
 intro e;simp[cP,e]at h
theorem ej {s:List UInt8} {l r:List bN} {u:Unit} (h:bV s l= .ok (u,r)):df r+2<=df l:=by
 obtain⟨h1,rfl,_⟩:=dT h;have:=fj (sY h1);omega
theorem lR {l r:List bN} {nm:List UInt8} (h:h_ l= .ok (nm,r)):nm.length+2+df r=df l:=by
 obtain⟨h1,rfl,rfl,_⟩:=ka h;have:=fj (l:=l) (by rw[h1];decide);omega
theorem gz {s:List UInt8} {l:List bN} (h:cP s l=true):df l.tail+2<=df l:=by
 have:=fj (sY h);omega
theorem ye: ∀(f:Nat),
  (∀n l x r,bQ f n l= .ok (x,r)->x.wt+1+df r<=df l)/\(∀n y l x r,gL f n y l= .ok (x,r)->x.wt+df r<=y.wt+df l)/\
  (∀l x r,cL f l= .ok (x,r)->x.wt+1+df r<=df l)/\(∀nm l x r,ct f nm l= .ok (x,r)->x.wt+df r<=1+nm.length+df l)/\
  (∀l x r,fu f l= .ok (x,r)->fL x+df r<=df l)/\(∀acc l x r,fZ f acc l= .ok (x,r)->fL x+df r<=fL acc+df l)
 |0=>by
  refine⟨?_,?_,?_,?_,?_,?_⟩;all_goals (intros;rename_i h;simp[bQ,gL,cL,ct,fu,fZ]at h)
 |f+1=>by
  obtain⟨iE,iL,iP,iN,iA,iB⟩:=ye f;refine⟨?_,?_,?_,?_,?_,?_⟩
  ·intro n l x r h;rw[bQ]at h;obtain⟨a,q,h1,h2⟩:=aO h;have:=iP _ _ _ h1;have:=iL _ _ _ _ _ h2;omega
  ·intro n y l x r h;rw[gL]at h;split at h
   ·rename_i hk;obtain⟨a,q,h1,h2⟩:=aO h;have:=iE _ _ _ _ h1;have:=iL _ _ _ _ _ h2;have:=fj (l:=l) (by rw[hk.1];decide);simp only[Ex.wt,fL,ag]at*;omega
   ·obtain⟨rfl,rfl⟩:=bw h;exact ah _
  ·intro l x r h;rw[cL]at h;split at h
   ·rename_i hk;have:=fj (l:=l) (by rw[hk];decide);obtain⟨rfl,rfl⟩:=bw h;simp only[Ex.wt,fL,ag];omega
   ·split at h
    ·rename_i hk;have:=fj (l:=l) (by rw[hk];decide);obtain⟨rfl,rfl⟩:=bw h;simp only[Ex.wt,fL,ag];omega
    ·split at h
     ·rename_i hk;have:=fj (l:=l) (by rw[hk];decide);have:=iN _ _ _ _ h;omega
     ·split at h
      ·rename_i hk;obtain⟨a,q,h1,h2⟩:=aO h;have:=iP _ _ _ h1;obtain⟨rfl,rfl⟩:=bw h2;have hne:(ci l).k≠0:=by
        rw[bF]at hk;rcases hk with hk|hk<;>exact sY hk
       have:=fj hne;simp only[Ex.wt,fL,ag]at*;omega
      ·obtain⟨a,q,h1,h2⟩:=aO h;obtain⟨a',q',h3,h4⟩:=aO h2;obtain⟨a'',q'',h5,h6⟩:=aO h4;have:=ej h1;have:=iE _ _ _ _ h3;have:=ej h5;obtain⟨rfl,rfl⟩:=bw h6;omega
  ·intro nm l x r h;rw[ct]at h;split at h
   ·rename_i hk;obtain⟨a,q,h1,h2⟩:=aO h;obtain⟨a',q',h3,h4⟩:=aO h2;have:=gz hk;have:=iE _ _ _ _ h1;have:=ej h3;obtain⟨rfl,rfl⟩:=bw h4;simp only[Ex.wt,fL,ag];omega
   ·split at h
    ·rename_i hk;obtain⟨a,q,h1,h2⟩:=aO h;have:=gz hk;have:=iA _ _ _ h1;obtain⟨rfl,rfl⟩:=bw h2;simp only[Ex.wt,ag];omega
    ·obtain⟨rfl,rfl⟩:=bw h;simp only[Ex.wt,fL,ag];omega
  ·intro l x r h;rw[fu]at h;split at h
   ·rename_i hk;have:=gz hk;obtain⟨rfl,rfl⟩:=bw h;simp only[fL];omega
   ·have:=iB _ _ _ _ h;simp only[fL]at this;omega
  ·intro acc l x r h;rw[fZ]at h;obtain⟨a,q,h1,h2⟩:=aO h;have:=iE _ _ _ _ h1;split at h2
   ·rename_i hk;have:=gz hk;obtain⟨rfl,rfl⟩:=bw h2;rw[pQ];simp only[fL];omega
   ·obtain⟨a',q',h3,h4⟩:=aO h2;have:=ej h3;have:=iB _ _ _ _ h4;rw[pQ]at this;simp only[fL]at this;omega
theorem wT: ∀(f:Nat),
  (∀l x r,dq f l= .ok (x,r)->fq x+df r<=df l)/\(∀acc l x r,ek f acc l= .ok (x,r)->fq x+df r<=fq acc+df l)/\
  (∀l x r,nr f l= .ok (x,r)->x.wt+df r<=df l)/\(∀l x r,dn f l= .ok (x,r)->x.wt+df r<=df l)
 |0=>by
  refine⟨?_,?_,?_,?_⟩;all_goals (intros;rename_i h;simp[dq,ek,nr,dn]at h)
 |f+1=>by
  obtain⟨iB,iC,iI,iS⟩:=wT f;obtain⟨iE,_,_,iN,_,_⟩:=ye f;refine⟨?_,?_,?_,?_⟩
  ·intro l x r h;rw[dq]at h;obtain⟨a,q,h1,h2⟩:=aO h;have:=ej h1;have:=iC _ _ _ _ h2;simp only[fq]at this;omega
  ·intro acc l x r h;rw[ek]at h;split at h
   ·rename_i hk;have:=gz hk;obtain⟨rfl,rfl⟩:=bw h;omega
   ·obtain⟨a,q,h1,h2⟩:=aO h;have:=iS _ _ _ h1;have:=iC _ _ _ _ h2;rw[tA]at this;simp only[fq]at this;omega
  ·intro l x r h;rw[nr]at h;obtain⟨a,q,h1,h2⟩:=aO h;obtain⟨a',q',h3,h4⟩:=aO h2;have:=iE _ _ _ _ h1;have:=iB _ _ _ h3;split at h4
   ·rename_i hk;have:=gz hk;split at h4
    ·rename_i hk2;have:=gz hk2;obtain⟨a2,q2,h5,h6⟩:=aO h4;have:=iI _ _ _ h5;obtain⟨rfl,rfl⟩:=bw h6;simp only[St.wt,fL,fq,ag];omega
    ·obtain⟨a2,q2,h5,h6⟩:=aO h4;have:=iB _ _ _ h5;obtain⟨rfl,rfl⟩:=bw h6;simp only[St.wt,fL,ag];omega
   ·obtain⟨rfl,rfl⟩:=bw h4;simp only[St.wt,fL,fq,ag];omega
  ·intro l x r h;rw[dn]at h;split at h
   ·rename_i hk;have:=gz hk;have:=iI _ _ _ h;omega
   ·split at h
    ·rename_i hk;have:=gz hk;obtain⟨a,q,h1,h2⟩:=aO h;obtain⟨a',q',h3,h4⟩:=aO h2;have:=iE _ _ _ _ h1;have:=iB _ _ _ h3;obtain⟨rfl,rfl⟩:=bw h4;simp only[St.wt,fL,fq,ag];omega
    ·split at h
     ·rename_i hk;have:=gz hk;obtain⟨nm,q,h1,h2⟩:=aO h;obtain⟨ex,q',h3,h4⟩:=aO h2;obtain⟨a,q'',h5,h6⟩:=aO h4;have:=lR h1;have:=ej h5;have he:fL ex+df q'<=df q:=by
       split at h3
       ·rename_i hk2;have:=gz hk2;obtain⟨y,q3,h7,h8⟩:=aO h3;have:=iE _ _ _ _ h7;obtain⟨rfl,rfl⟩:=bw h8;simp only[fL];omega
       ·obtain⟨rfl,rfl⟩:=bw h3;simp only[fL];omega
      obtain⟨rfl,rfl⟩:=bw h6;simp only[St.wt,fq];omega
     ·split at h
      ·rename_i hk;have:=gz hk;obtain⟨ex,q',h3,h4⟩:=aO h;obtain⟨a,q'',h5,h6⟩:=aO h4;have:=ej h5;have he:fL ex+df q'<=df l.tail:=by
        split at h3
        ·obtain⟨rfl,rfl⟩:=bw h3;simp only[fL];omega
        ·obtain⟨y,q3,h7,h8⟩:=aO h3;have:=iE _ _ _ _ h7;obtain⟨rfl,rfl⟩:=bw h8;simp only[fL];omega
       obtain⟨rfl,rfl⟩:=bw h6;simp only[St.wt,fq,ag];omega
      ·obtain⟨nm,q,h1,h2⟩:=aO h;obtain⟨s,q',h3,h4⟩:=aO h2;obtain⟨a,q'',h5,h6⟩:=aO h4;have:=lR h1;have:=ej h5;have he:s.wt+df q'<=2+nm.length+df q:=by
        split at h3
        ·obtain⟨y,q3,h7,h8⟩:=aO h3;have:=iN _ _ _ _ h7;obtain⟨rfl,rfl⟩:=bw h8;simp only[St.wt,fL,fq,ag];omega
        ·split at h3
         ·rename_i hk;have:=gz hk;obtain⟨y,q3,h7,h8⟩:=aO h3;obtain⟨_,q4,h9,h10⟩:=aO h8;obtain⟨_,q5,h11,h12⟩:=aO h10;obtain⟨z,q6,h13,h14⟩:=aO h12;have:=iE _ _ _ _ h7;have:=ej h9;have:=ej h11;have:=iE _ _ _ _ h13;obtain⟨rfl,rfl⟩:=bw h14;simp only[St.wt,fL,fq];omega
         ·obtain⟨_,q4,h9,h10⟩:=aO h3;obtain⟨z,q6,h13,h14⟩:=aO h10;have:=ej h9;have:=iE _ _ _ _ h13;obtain⟨rfl,rfl⟩:=bw h14;simp only[St.wt,fL,fq];omega
       obtain⟨rfl,rfl⟩:=bw h6;omega
def Fc.wt (f:Fc):Nat:=f.nm.length+(f.ps.map fun s=>s.length+1).sum+fq f.body
def lz (p:Pg):Nat:=(p.vs.map fun v=>v.nm.length+1).sum+(p.fs.map fun f=>f.wt+1).sum
theorem CQ {l r:List bN} {v:Vr} (h:ja l= .ok (v,r)):v.nm.length+1+df r<=df l/\0<=v.sz/\v.sz<=2000:=by
 unfold ja at h;obtain⟨nm,q,h1,h2⟩:=aO h;obtain⟨sz,q',h3,h4⟩:=aO h2;obtain⟨a,q'',h5,h6⟩:=aO h4;have:=lR h1;have:=ej h5;have he:df q'<=df q/\0<=sz/\sz<=2000:=by
  split at h3
  ·rename_i hk;have:=gz hk;split at h3
   ·rename_i hk2;have:=fj (l:=q.tail) (by rw[hk2];decide);split at h3
    ·cases h3
    ·rename_i hk3;obtain⟨_,q3,h7,h8⟩:=aO h3;have:=ej h7;obtain⟨rfl,rfl⟩:=bw h8;omega
   ·cases h3
  ·obtain⟨rfl,rfl⟩:=bw h3;exact⟨ah _,by decide,by decide⟩
 obtain⟨rfl,rfl⟩:=bw h6;refine⟨?_,he.2⟩;change nm.length+1+_<=_;omega
theorem ri: ∀(f:Nat) acc l x r,eQ f acc l= .ok (x,r)->(x.map fun s=>s.length+1).sum+df r<=(acc.map fun s:List UInt8=>s.length+1).sum+df l
 |0,acc,l,x,r,h=>by cases h
 |f+1,acc,l,x,r,h=>by
  rw[eQ]at h;obtain⟨a,q,h1,h2⟩:=aO h;have:=lR h1;split at h2
  ·rename_i hk;have:=gz hk;obtain⟨rfl,rfl⟩:=bw h2;simp;omega
  ·obtain⟨a',q',h3,h4⟩:=aO h2;have:=ej h3;have:=ri f _ _ _ _ h4;simp at this;omega
theorem zU {f:Nat} {l r:List bN} {x:List (List UInt8)} (h:eX f l= .ok (x,r)):(x.map fun s=>s.length+1).sum+df r<=df l:=by
 unfold eX at h;split at h
 ·rename_i hk;have:=gz hk;obtain⟨rfl,rfl⟩:=bw h;simp;omega
 ·have:=ri _ _ _ _ _ h;simpa using this
theorem B_ {f:Nat} {l r:List bN} {x:Fc} (h:jL f l= .ok (x,r)):x.wt+1+df r<=df l:=by
 unfold jL at h;obtain⟨nm,q,h1,h2⟩:=aO h;obtain⟨_,q1,h3,h4⟩:=aO h2;obtain⟨ps,q2,h5,h6⟩:=aO h4;obtain⟨b,q3,h7,h8⟩:=aO h6;have:=lR h1;have:=ej h3;have:=zU h5;have:=(wT f).1 _ _ _ h7;obtain⟨rfl,rfl⟩:=bw h8;change nm.length+(ps.map fun s=>s.length+1).sum+fq b+1+_<=_;omega
theorem sI: ∀(f:Nat) (p:Pg) (l:List bN) (x:Pg) (r:List bN),c7 f p l= .ok (x,r)->lz x<=lz p+df l/\((∀v,v∈p.vs->0<=v.sz/\v.sz<=2000)-> ∀v,v∈x.vs->0<=v.sz/\v.sz<=2000)
 |0,p,l,x,r,h=>by cases h
 |f+1,p,l,x,r,h=>by
  rw[c7]at h;split at h
  ·obtain⟨rfl,rfl⟩:=bw h;exact⟨by omega,fun h=>h⟩
  ·split at h
   ·rename_i hk;have:=gz hk;obtain⟨v,q,h1,h2⟩:=aO h;have h3:=CQ h1;have h4:=sI f _ _ _ _ h2;refine⟨?_,fun hp=>h4.2 fun u hu=> ?_⟩
    ·have:=h4.1;simp only[lz,gD,List.sum_append,bY,d5,eM,List.sum_nil]at this⊢;omega
    ·rcases List.mem_append.1 hu with hu|hu
     ·exact hp u hu
     ·rw[cG]at hu;subst hu;exact h3.2
   ·obtain⟨_,q,h1,h2⟩:=aO h;obtain⟨c,q',h3,h4⟩:=aO h2;have:=ej h1;have:=B_ h3;have h5:=sI f _ _ _ _ h4;refine⟨?_,h5.2⟩;have:=h5.1;simp only[lz,gD,List.sum_append,bY,d5,eM,List.sum_nil]at this⊢;omega
theorem xq (p:Pg):(p.fs.map fun f=>fq f.body).sum<=lz p:=by
 have:=jr (fun f:Fc=>fq f.body) (fun f=>f.wt+1) p.fs (fun f _=>by unfold Fc.wt;omega);unfold lz;omega
theorem qk {α:Type} (f:α->Nat): ∀(l:List α) (x:α),x∈l->f x<=(l.map f).sum
 |y::r,x,h=>by
  rw[bY,eM];rcases List.mem_cons.1 h with rfl|h
  ·omega
  ·have:=qk f r x h;omega
end
section
open Go.RowKit
structure VQ (px:Nat) (w0:World) (P:Nat->Prop) (vv fv:Value) (p:Pg) (W:World):Prop where
 box:aL W px 34 #[vv,fv]
 rv:mc W P vv p.vs
 rf:mm W P fv p.fs
 ext:aq w0 W
theorem VQ.ex {px:Nat} {w0 W W':World} {P:Nat->Prop} {vv fv:Value} {p:Pg} (h:VQ px w0 P vv fv p W) (hE:aq W W'):VQ px w0 P vv fv p W':=
 ⟨h.box.ext hE,h.rv.keep (.of_ext hE) (fun _ hb _=>hb),h.rf.keep (.of_ext hE) (fun _ hb _=>hb),h.ext.trans hE⟩
def qg (s:St):Bool:=decide (s.dep<=20)&&s.ok
theorem gI {α:Type} (f:α->Bool) (l:List α) (j:Nat) (h:j<l.length) (hf:f l[j]=false):l.all f=false:=by
 cases hh:l.all f with
 |false=>rfl
 |true=>rw[b_]at hh;have:=hh _ (au h);rw[hf]at this;cases this
theorem ii {α:Type} (f:α->Bool) (l:List α) (j:Nat) (h:j<l.length) (h1:(l.take j).all f=true) (h2:f l[j]=true):(l.take (j+1)).all f=true:=by
 rw[bp h,jE,h1];simp[h2]
theorem uA (p:Pg) (hvn: ∀v,v∈p.vs->v.nm.length<=1073741824) (P:Nat->Prop) (w:World) (A B:Option Addr) (n c m d:Nat) (hfn: ∀f,f∈p.fs->f.nm.length<=1073741824/\(∀y,y∈f.ps->y.length<=1073741824)/\ ∀s,s∈f.body->s.wt<=1073741824) (hsrc:p.vs.all qW=true->p.fs.all oP=true->p.vs.length<=20->p.fs.length<=20->(j9 p).length<=1000000000) (hV:mc w P (.slice A n c) p.vs) (hF:mm w P (.slice B m d) p.fs) (hT:du w w.heap.size):
  Calls prog 35 #[.agg #[.slice A n c, .slice B m d]] w fun e w'=>e= .returned (.bool (gZ p))/\aq w w':=by
 have hnv:n=p.vs.length/\n<=maxLen:=by
  obtain⟨A',c',hv,h⟩:=hV;injection hv with _ hn _;refine⟨hn,?_⟩;rcases h with h|⟨h1,h2,_⟩
  ·rw[hn,h];exact aG _
  ·omega
 have hnf:m=p.fs.length/\m<=maxLen:=by
  obtain⟨A',c',hv,h⟩:=hF;injection hv with _ hn _;refine⟨hn,?_⟩;rcases h with h|⟨h1,h2,_⟩
  ·rw[hn,h];exact aG _
  ·omega
 obtain⟨hnv,hnm⟩:=hnv;obtain⟨hnf,hnn⟩:=hnf;unfold maxLen at hnm hnn;have HNV:=G hnv;have HNF:=G hnf;have HVN:=G hvn;have HFN0:=G hfn;have HSRC:=G hsrc;have HTAB:=G hT;generalize hR:gZ p=R;have HR:=G hR;have hEb:=O w (.cells #[.slice A n c, .slice B m d] 34);have HC0:=G (show VQ w.heap.size w P (.slice A n c) (.slice B m d) p (w.alloc (.cells #[.slice A n c, .slice B m d] 34))from⟨an w _ _,hV.keep (.of_ext hEb) (fun _ hb _=>hb),hF.keep (.of_ext hEb) (fun _ hb _=>hb),hEb⟩);have hbc:=HC0.out.box.cell;clear hnv hnf hvn hfn hsrc hR hEb hV hF hT;go_enter func35,ntmps35;go_wp2_with fail
 go_loopw [12] (fun vi wr=> ∃j:Nat,vi= .int .i64 (j:Int)/\j<=n/\Hid ((p.vs.take j).all qW=true)/\Hid (VQ w.heap.size w P (.slice A n c) (.slice B m d) p wr)) (fun vi _=>n-(intOf vi).toNat)
 case atStart=>exact⟨0,rfl,aG _,G (by simp),HC0⟩
 case round=>
  clear HC0 hbc;obtain⟨j,rfl,hj,HA,HCr⟩:=hrel;by_cases hlt:j<n
  ·have hlt':(j:Int)<n:=by omega
   have hjl:j<p.vs.length:=by have:=HNV.out;omega
   obtain⟨A',c',hv,hh⟩:=HCr.out.rv;injection hv with hA hn' hc';rcases hh with hh|⟨h1,h2,b9,o9,hA2,hP9,hb9,hcl⟩
   ·rw[hh]at hjl;simp at hjl
   obtain⟨e0,e1⟩:=hcl j hjl;have hA3:A=some ⟨b9,o9,none⟩:=hA.trans hA2;subst hA3;clear hcl hA hA2 hn' hc' h1 h2 hP9;have hvl:=HVN.out _ (au hjl);have HBAD:=G (fun h:qW p.vs[j]=false=>show R=false by rw[<-HR.out,gZ,gI qW p.vs j hjl h];rfl);have HGOOD:=G (fun h:qW p.vs[j]=true=>ii qW p.vs j hjl HA.out h);have HOKV:=G (show qW p.vs[j]=(dP p.vs[j].nm&&decide (0<=p.vs[j].sz)&&decide (p.vs[j].sz<=2000))from rfl);generalize qW p.vs[j]=ov at*;generalize p.vs[j].nm=vn at*;generalize p.vs[j].sz=vz at*;have HI:=G (cY vn hvl);generalize dP vn=bn at*;have HC1:=G (HCr.out.ex (O wr (.cells #[.string (ai vn), .int .i64 vz] 85)));have hyc:=(an wr 85 #[.string (ai vn), .int .i64 vz]).cell;by_cases hok:bn=true/\0<=vz/\vz<=2000
   ·obtain⟨rfl,hz0,hz1⟩:=hok;have HT:=G (HGOOD.out (by rw[HOKV.out];simp[hz0,hz1]));have hz2: ¬vz<0:=by omega
    have hz3: ¬2000<vz:=by omega
    go_wp2_with (go_at_call 66;refine(HI.out _).mono ?_;rintro e w1 ⟨rfl,rfl⟩);go_roundw
    case rel=>exact⟨j+1,by go_num,by omega,HT,HC1⟩
    case measure=>simp[intOf];omega
   ·have HFN:=G (HBAD.out (by
     rw[HOKV.out]
     cases bn with
     |false=>rfl
     |true=>
      by_cases h0:0<=vz
      ·have h1: ¬vz<=2000:=fun h=>hok ⟨rfl,h0,h⟩;simp[h1]
      ·simp[h0]))
    have HZ:=G HC1.out.ext
    cases bn with
    |false=>
     clear hok;go_wp2_with (go_at_call 66;refine(HI.out _).mono ?_;rintro e w1 ⟨rfl,rfl⟩);go_ret;exact⟨by rw[HFN.out];rfl,HZ.out⟩
    |true=>
     by_cases hz0:vz<0
     ·clear hok;go_wp2_with (go_at_call 66;refine(HI.out _).mono ?_;rintro e w1 ⟨rfl,rfl⟩);go_ret;exact⟨by rw[HFN.out];rfl,HZ.out⟩
     ·have hz1:2000<vz:=by
       by_cases h:2000<vz
       ·exact h
       ·exact absurd ⟨rfl,by omega,by omega⟩ hok
      clear hok;go_wp2_with (go_at_call 66;refine(HI.out _).mono ?_;rintro e w1 ⟨rfl,rfl⟩);go_ret;exact⟨by rw[HFN.out];rfl,HZ.out⟩
  ·have hlt': ¬(j:Int)<n:=by omega
   have hjn:j=n:=by omega
   have HQ:=G (show p.vs.all qW=true by have:=HA.out;rwa [hjn,HNV.out,bD]at this);have hbc:=HCr.out.box.cell;go_wp2_with fail;clear hlt hlt' hjn hj HA
   go_loopw [34] (fun vi wr=> ∃j:Nat,vi= .int .i64 (j:Int)/\j<=m/\Hid ((p.fs.take j).all oP=true)/\Hid (VQ w.heap.size w P (.slice A n c) (.slice B m d) p wr)) (fun vi _=>m-(intOf vi).toNat)
   case atStart=>exact⟨0,rfl,aG _,G (by simp),HCr⟩
   case round=>
    clear HCr hbc;obtain⟨j,rfl,hj,HA,HCr⟩:=hrel;by_cases hlt:j<m
    ·have hlt':(j:Int)<m:=by omega
     have hjl:j<p.fs.length:=by have:=HNF.out;omega
     obtain⟨A',c',hv,hh⟩:=HCr.out.rf;injection hv with hA hn' hc';rcases hh with hh|⟨h1,h2,b9,o9,hA2,hP9,hb9,pv,bv,hcl⟩
     ·rw[hh]at hjl;simp at hjl
     obtain⟨e0,e1,e2,hrn,hrs⟩:=hcl j hjl;have hA3:B=some ⟨b9,o9,none⟩:=hA.trans hA2;subst hA3;clear hcl hA hA2 hn' hc' h1 h2 hP9;obtain⟨hfl,hfp,hfw⟩:=HFN0.out _ (au hjl);have HBAD:=G (fun h:oP p.fs[j]=false=>show R=false by rw[<-HR.out,gZ,gI oP p.fs j hjl h];simp);have HGOOD:=G (fun h:oP p.fs[j]=true=>ii oP p.fs j hjl HA.out h);have HOKF:=G (show oP p.fs[j]=(dP p.fs[j].nm&&decide (p.fs[j].ps.length<=4)&&p.fs[j].ps.all dP&&p.fs[j].body.all qg)from rfl);generalize oP p.fs[j]=ov at*;generalize p.fs[j].nm=fn at*;generalize p.fs[j].ps=fps at*;generalize p.fs[j].body=fb at*;generalize pv j=pvj at*;generalize bv j=bvj at*;obtain⟨Ap,cp,rfl,hcap⟩:=id hrn;obtain⟨Ab,cbb,rfl,hbl⟩:=hrs.form;have hbl:fb.length<=maxLen:=by
      rcases hbl with h|⟨h1,h2,_⟩
      ·rw[h];exact aG _
      ·omega
     unfold maxLen at hbl;have HI:=G (cY fn hfl);generalize dP fn=bn at*;have hEA:=O wr (.cells #[.string (ai fn), .slice Ap fps.length cp, .slice Ab fb.length cbb] 59);have HC1:=G (HCr.out.ex hEA);have HYB:=G (an wr 59 #[.string (ai fn), .slice Ap fps.length cp, .slice Ab fb.length cbb]);have hyc:=HYB.out.cell;have HRn:=G (hrn.keep (.of_ext hEA) (fun _ hb _=>hb));have HRs:=G (hrs.keep (.of_ext hEA) (fun _ hb _=>hb));have HCON:=G (fun(W:World) (h:lC W P (.slice Ap fps.length cp) fps) (h4:fps.length<=1073741824)=>yt (fun y=> !dP y) fps P W Ap fps.length cp h h4 (fun y hy w' _=>r8 y (hfp y hy) w'));clear hEA hrn hrs hcap
     cases bn with
     |false=>
      have HFN:=G (HBAD.out (by rw[HOKF.out];simp));have HZ:=G HC1.out.ext;go_wp2_with (go_at_call 66;refine(HI.out _).mono ?_;rintro e w1 ⟨rfl,rfl⟩);go_ret;exact⟨by rw[HFN.out];rfl,HZ.out⟩
     |true=>
      by_cases h4:4<fps.length
      ·have HFN:=G (HBAD.out (by rw[HOKF.out];simp[show ¬fps.length<=4 from by omega]));have HZ:=G HC1.out.ext;have h4i:(4:Int)<fps.length:=by omega
       go_wp2_with (go_at_call 66;refine(HI.out _).mono ?_;rintro e w1 ⟨rfl,rfl⟩);go_ret;exact⟨by rw[HFN.out];rfl,HZ.out⟩
      ·have h4i: ¬(4:Int)<fps.length:=by omega
       have HCO:=G (HCON.out _ HRn.out (by omega));have HAL:=G (show fps.any (fun y=> !dP y)= !fps.all dP from by rw[List.not_all_eq_any_not]);rw[HAL.out]at HCO;clear HAL HCON
       cases hal:fps.all dP with
       |false=>
        rw[hal]at HCO;have HFN:=G (HBAD.out (by rw[HOKF.out,hal];simp));clear hal;go_wp2_with (first|(go_at_call 66;refine(HI.out _).mono ?_;rintro e w1 ⟨rfl,rfl⟩)|(go_at_call 67;refine HCO.out.mono ?_;rintro e w3 ⟨rfl,hE⟩;have HZ:=G (HC1.out.ex hE).ext;clear hE));go_ret;exact⟨by rw[HFN.out];rfl,HZ.out⟩
       |true=>
        rw[hal]at HCO;have HT0:=G (show ov=fb.all qg from by rw[HOKF.out,hal];simp[show fps.length<=4 from by omega]);clear hal;go_wp2_with (first|(go_at_call 66;refine(HI.out _).mono ?_;rintro e w1 ⟨rfl,rfl⟩)|(go_at_call 67;refine HCO.out.mono ?_;rintro e w3 ⟨rfl,hE⟩;have HC2:=G (HC1.out.ex hE);have HYB2:=G (HYB.out.ext hE);clear hyc;have hyc:=HYB2.out.cell;have HRw:=G (HRs.out.keep (.of_ext hE) (fun _ hb _=>hb));clear hE HC1));clear hyc
        go_loopw [56] (fun vk wr=> ∃k:Nat,vk= .int .i64 (k:Int)/\k<=fb.length/\Hid ((fb.take k).all qg=true)/\Hid (VQ w.heap.size w P (.slice A n c) (.slice (some ⟨b9,o9,none⟩) m d) p wr)/\Hid (cR wr P (.slice Ab fb.length cbb) fb)) (fun vk _=>fb.length-(intOf vk).toNat)
        case atStart=>exact⟨0,rfl,aG _,G (by simp),HC2,HRw⟩
        case round=>
         clear HC2 HRw HYB2 HYB HRs HRn HCO HCr;obtain⟨k,rfl,hk,HAk,HCq,HRq⟩:=hrel;by_cases hkl:k<fb.length
         ·have hkl':(k:Int)<fb.length:=by omega
          obtain⟨bs,os,eu,ev,ez,rfl,hbs,hPs,q0,q1,q2,q3,q4,hre,hrb,hrl⟩:=HRq.out.at_ k hkl;have hw:=hfw _ (au hkl);have HBk:=G (fun h:qg fb[k]=false=>HBAD.out (by rw[HT0.out,gI qg fb k hkl h]));have HGk:=G (fun h:qg fb[k]=true=>ii qg fb k hkl HAk.out h);have HOk:=G (show qg fb[k]=(decide (fb[k].dep<=20)&&fb[k].ok)from rfl);generalize qg fb[k]=os1 at*;generalize fb[k]=y at*;obtain⟨Ey,ey,rfl,_⟩:=hre.form;obtain⟨By,by_,rfl,_⟩:=hrb.form;obtain⟨Cy,cy,rfl,_⟩:=hrl.form;have hEA:=O wr (.cells #[.int .i64 y.k, .string (ai y.nm), .slice Ey y.ex.length ey, .slice By y.body.length by_, .slice Cy y.els.length cy] 72);have HC3:=G (HCq.out.ex hEA);have HR3:=G (HRq.out.keep (.of_ext hEA) (fun _ hb _=>hb) (Q:=P));have HYS:=G (an wr 72 #[.int .i64 y.k, .string (ai y.nm), .slice Ey y.ex.length ey, .slice By y.body.length by_, .slice Cy y.els.length cy]);have hys:=HYS.out.cell;have HS3:=G (ax (hre.keep (.of_ext hEA) (fun _ hb _=>hb) (Q:=P)) (ax (hrb.keep (.of_ext hEA) (fun _ hb _=>hb) (Q:=P)) (hrl.keep (.of_ext hEA) (fun _ hb _=>hb) (Q:=P))));have HD:=G (fun W h1 h2 h3=>qP y.wt y (ah _) hw P W Ey By Cy y.ex.length ey y.body.length by_ y.els.length cy h1 h2 h3);have HVd:=G (fun W h1 h2 h3=>nK y.wt y (ah _) hw P W Ey By Cy y.ex.length ey y.body.length by_ y.els.length cy h1 h2 h3);clear hre hrb hrl hEA hw;generalize y.dep=dd at*;generalize y.ok=ok1 at*;by_cases hd:dd<=20
          ·have hdi: ¬(20:Int)<dd:=by omega
           cases ok1 with
           |true=>
            have HTk:=G (HGk.out (by rw[HOk.out];simp[hd]));go_wp2_with (first|(go_at_call 69;refine(HD.out _ HS3.out.1 HS3.out.2.1 HS3.out.2.2).mono ?_;rintro e w4 ⟨rfl,hE⟩;have HC4:=G (HC3.out.ex hE);have HR4:=G (HR3.out.keep (.of_ext hE) (fun _ hb _=>hb) (Q:=P));have HYS2:=G (HYS.out.ext hE);clear hys;have hys:=HYS2.out.cell;have HS4:=G (ax (HS3.out.1.keep (.of_ext hE) (fun _ hb _=>hb) (Q:=P)) (ax (HS3.out.2.1.keep (.of_ext hE) (fun _ hb _=>hb) (Q:=P)) (HS3.out.2.2.keep (.of_ext hE) (fun _ hb _=>hb) (Q:=P))));clear hE HC3)|(go_at_call 70;refine(HVd.out _ HS4.out.1 HS4.out.2.1 HS4.out.2.2).mono ?_;rintro e w5 ⟨rfl,hE⟩;have HC5:=G (HC4.out.ex hE);have HR5:=G (HR4.out.keep (.of_ext hE) (fun _ hb _=>hb) (Q:=P));clear hE HC4));go_roundw
            case rel=>exact⟨k+1,by go_num,by omega,HTk,HC5,HR5⟩
            case measure=>simp[intOf];omega
           |false=>
            have HFN:=G (HBk.out (by rw[HOk.out];simp));go_wp2_with (first|(go_at_call 69;refine(HD.out _ HS3.out.1 HS3.out.2.1 HS3.out.2.2).mono ?_;rintro e w4 ⟨rfl,hE⟩;have HC4:=G (HC3.out.ex hE);have HR4:=G (HR3.out.keep (.of_ext hE) (fun _ hb _=>hb) (Q:=P));have HYS2:=G (HYS.out.ext hE);clear hys;have hys:=HYS2.out.cell;have HS4:=G (ax (HS3.out.1.keep (.of_ext hE) (fun _ hb _=>hb) (Q:=P)) (ax (HS3.out.2.1.keep (.of_ext hE) (fun _ hb _=>hb) (Q:=P)) (HS3.out.2.2.keep (.of_ext hE) (fun _ hb _=>hb) (Q:=P))));clear hE HC3)|(go_at_call 70;refine(HVd.out _ HS4.out.1 HS4.out.2.1 HS4.out.2.2).mono ?_;rintro e w5 ⟨rfl,hE⟩;have HZ:=G (HC4.out.ex hE).ext;clear hE HC4));go_ret;exact⟨by rw[HFN.out];rfl,HZ.out⟩
          ·have hdi:(20:Int)<dd:=by omega
           have HFN:=G (HBk.out (by rw[HOk.out];simp[hd]));go_wp2_with (go_at_call 69;refine(HD.out _ HS3.out.1 HS3.out.2.1 HS3.out.2.2).mono ?_;rintro e w4 ⟨rfl,hE⟩;have HZ:=G (HC3.out.ex hE).ext;clear hE HC3);go_ret;exact⟨by rw[HFN.out];rfl,HZ.out⟩
         ·have hkl': ¬(k:Int)<fb.length:=by omega
          have hkn:k=fb.length:=by omega
          have HT:=G (HGOOD.out (by have:=HAk.out;rw[hkn,bD]at this;rw[HT0.out];exact this));go_wp2_with fail;go_roundw
          case rel=>exact⟨j+1,by go_num,by omega,HT,HCq⟩
          case measure=>simp[intOf];omega
    ·have hlt': ¬(j:Int)<m:=by omega
     have hjn:j=m:=by omega
     have HQF:=G (show p.fs.all oP=true by have:=HA.out;rwa [hjn,HNF.out,bD]at this);have HRR:=G (show R=(decide (n<=20)&&decide (m<=20)&&decide ((j9 p).length<=4000)) by rw[<-HR.out,gZ,HQ.out,HQF.out,<-HNV.out,<-HNF.out];simp);have hbc:=HCr.out.box.cell;clear hj hjn HA HR;by_cases h20:n<=20
     ·have h20i:(n:Int)<=20:=by omega
      by_cases hm20:m<=20
      ·have hm20i:(m:Int)<=20:=by omega
       have HSO:=G (sy p (fun f hf=>nY (List.all_eq_true.1 HQF.out f hf)) (fun v hv=>by have:=List.all_eq_true.1 HQ.out v hv;unfold qW at this;simp only[ak,decide_eq_true_eq]at this;omega) P _ A B n c m d HCr.out.rv HCr.out.rf ⟨(HTAB.out.fb (aT HCr.out.ext (ah _))).1,aA HTAB.out.2 HCr.out.ext.size⟩ (HSRC.out HQ.out HQF.out (by have:=HNV.out;omega) (by have:=HNF.out;omega)));generalize j9 p=S at*;have hsz:(ai S).size=S.length:=a7 S;by_cases hs:S.length<=4000
       ·have hsi:(S.length:Int)<=4000:=by omega
        go_wp2_with (go_at_call 57;refine HSO.out.mono ?_;rintro e w9 ⟨rfl,hE⟩;have HZ:=G (HCr.out.ex hE).ext;clear hE);go_ret;exact⟨by rw[HRR.out];simp[h20,hm20,hs,de],HZ.out⟩
       ·have hsi: ¬(S.length:Int)<=4000:=by omega
        go_wp2_with (go_at_call 57;refine HSO.out.mono ?_;rintro e w9 ⟨rfl,hE⟩;have HZ:=G (HCr.out.ex hE).ext;clear hE);go_ret;exact⟨by rw[HRR.out];simp[h20,hm20,hs,de];(try omega),HZ.out⟩
      ·have hm20i: ¬(m:Int)<=20:=by omega
       have HZ:=G HCr.out.ext;go_wp2_with fail;go_ret;exact⟨by rw[HRR.out];simp[h20,hm20,de],HZ.out⟩
     ·have h20i: ¬(n:Int)<=20:=by omega
      have HZ:=G HCr.out.ext;go_wp2_with fail;go_ret;exact⟨by rw[HRR.out];simp[h20,de],HZ.out⟩
end
section
open Go.RowKit
theorem po: ∀(f:Nat) (m:List UInt8) (t:List UInt8) (n:Nat),m_ f m=some (t,n)->t.length+1<=n
 |0,m,t,n,h=>by cases h
 |f+1,[],t,n,h=>by cases h
 |f+1,c::r,t,n,h=>by
  simp only[m_]at h;split at h
  ·cases h;simp
  ·split at h
   ·cases h
   ·obtain⟨⟨t',n'⟩,h1,h2⟩:=Option.map_eq_some_iff.1 h
    cases h2;have:=po f _ t' n' h1;show(_::t').length+1<=(cj (c::r)).2+n';rw[ae];omega
theorem uL {c:UInt8} {r:List UInt8} {k:Int} {t:List UInt8} {v:Int} {n:Nat} (h:j5 (c::r)= .ok ((k,t,v),n)):t.length<=n:=by
 simp only[j5]at h;split at h
 ·unfold jI at h;split at h
  ·cases h;rw[bE];omega
  ·split at h
   ·cases h
   ·cases h;rw[bE];omega
 ·split at h
  ·unfold g_ at h;split at h
   ·cases h
   ·split at h
    ·cases h
    ·cases h;simp
  ·split at h
   ·unfold iJ at h;split at h
    ·cases h
    ·cases h;simp
   ·split at h
    ·unfold iY at h;split at h
     ·cases h
     ·rename_i t' n' hl;split at h
      ·cases h
      ·cases h;have:=po _ _ _ _ hl;omega
    ·unfold iw at h;split at h
     ·cases h;rw[bE];omega
     ·split at h
      ·cases h;rw[bE];omega
      ·cases h
theorem tJ: ∀(f:Nat) (m:List UInt8) (a:Nat) (ts:List bN),gx f m a= .ok ts->df ts<=3*m.length
 |0,m,a,ts,h=>by cases h;simp[df]
 |f+1,m,a,ts,h=>by
  simp only[gx]at h;split at h
  ·cases h;simp[df]
  ·rename_i c r hd;split at h
   ·cases h
   ·rename_i k t v n ht;have hn:=nG ht;have hx:=uL ht;split at h
    ·cases h
    ·rename_i us hu
     cases h;have:=tJ f _ _ us hu;have hl:(c::r).length<=m.length:=by rw[<-hd,bm];omega
     rw[bm]at this;simp only[df,ae]at this hl hn⊢;omega
theorem kW: ∀(f:Nat) (m:List UInt8) (a:Nat) (ts:List bN),gx f m a= .ok ts->ts.length<=m.length
 |0,m,a,ts,h=>by cases h;simp
 |f+1,m,a,ts,h=>by
  simp only[gx]at h;split at h
  ·cases h;simp
  ·rename_i c r hd;split at h
   ·cases h
   ·rename_i k t v n ht;have hn:=nG ht;split at h
    ·cases h
    ·rename_i us hu
     cases h;have:=kW f _ _ us hu;have hl:(c::r).length<=m.length:=by rw[<-hd,bm];omega
     rw[bm]at this;simp only[ae]at this hl hn⊢;omega
theorem zc (l:List UInt8):(ge l).1.length<=4000/\df (ge l).1<=12000:=by
 unfold ge;split
 ·simp[df]
 ·split
  ·rename_i h _ ts ht;have:=kW _ _ _ _ ht;have:=tJ _ _ _ _ ht;show ts.length<=4000/\df ts<=12000;omega
  ·simp[df]
def ln:Pg:=⟨[],[]⟩
def vC (n:Nat) (ts:List bN):Pg×Int×Int:=match c7 (4*ts.length+8) ln ts with
 | .ok (p,_)=>if gZ p then(p,0,0)else(ln,0,6)
 | .error (q,e)=>(ln,Do n q,e)
def lQ (s:List UInt8):Pg×Int×Int:=if(ge s).2.2=0 then vC s.length (ge s).1 else(ln,(ge s).2.1,(ge s).2.2)
theorem xy {p:Pg} (hw:lz p<=6000000) (hv:p.vs.all qW=true) (hf:p.fs.all oP=true) (h1:p.vs.length<=20) (h2:p.fs.length<=20):(j9 p).length<=1000000000:=by
 have:=wY hv hf h1 h2;have:=xq p;omega
theorem xo {p:Pg} {v:Vr} (h:v∈p.vs):v.nm.length<=lz p:=by
 have:=qk (fun v:Vr=>v.nm.length+1) p.vs v h;unfold lz;omega
theorem nV {p:Pg} {f:Fc} (h:f∈p.fs):f.wt<=lz p:=by
 have:=qk (fun f:Fc=>f.wt+1) p.fs f h;unfold lz;omega
theorem tW {f:Fc}:f.nm.length<=f.wt:=by unfold Fc.wt;omega
theorem xp {f:Fc} {y:List UInt8} (h:y∈f.ps):y.length<=f.wt:=by
 have:=qk (fun s:List UInt8=>s.length+1) f.ps y h;unfold Fc.wt;omega
theorem Dd {f:Fc} {s:St} (h:s∈f.body):s.wt<=f.wt:=by
 have:=bS h;unfold Fc.wt;omega
theorem tC (p:Pg) (hw:lz p<=6000000) (P:Nat->Prop) (w:World) (A B:Option Addr) (n c m d:Nat) (hV:mc w P (.slice A n c) p.vs) (hF:mm w P (.slice B m d) p.fs) (hT:du w w.heap.size):
  Calls prog 35 #[.agg #[.slice A n c, .slice B m d]] w fun e w'=>e= .returned (.bool (gZ p))/\aq w w':=
 uA p (fun v hv=>by have:=xo hv;omega) P w A B n c m d
  (fun f hf=>⟨by have:=nV hf;have:=tW (f:=f);omega,fun y hy=>by have:=nV hf;have:=xp hy;omega,fun s hs=>by have:=nV hf;have:=Dd hs;omega⟩)
  (fun h1 h2 h3 h4=>xy hw h1 h2 h3 h4) hV hF hT
end
section
section
variable (fn:List UInt8->Fc)
mutual
def yW:Ex->Bool
 | .mk k op nm tx v a=>
  if k=1\/k=3 then true
  else if k=4\/k=6 then decide (1<=a.length)&&wm a
  else if k=5 then(match ee nm with
   |some (c,ls)=>decide (a.length=ls.length)&&(decide (c≠9)||a.all (fun y=>y.k !=2))&&BE ls a
   |none=>decide ((fn nm).ps.length<=a.length)&&wm a)
  else if k=7 then decide (2<=a.length)&&wm a
  else false
def wm:List Ex->Bool
 | []=>true
 |y::r=>yW y&&wm r
def BE:List UInt8->List Ex->Bool
 | _,[]=>true
 |ls,y::r=>(ls.headD 0 !=105||yW y)&&BE ls.tail r
end
mutual
def BD:St->Bool
 | .mk k nm ex b e=>(if k=5 then decide (1<=ex.length)else if k=3 then decide (2<=ex.length)else decide (1<=k/\k<=7))&&wm fn ex&&(nQ b&&nQ e)
def nQ:List St->Bool
 | []=>true
 |s::r=>BD s&&nQ r
end
end
theorem db {α β:Type} {x:Except Er α} {k:α->Except Er β} {b:β} (h:CR.then x k= .ok b): ∃a,x= .ok a/\k a= .ok b:=by
 cases x with
 |error e=>cases h
 |ok a=>exact⟨a,rfl,h⟩
theorem tN {fn:List UInt8->Fc}: ∀l,wm fn l=l.all (yW fn)
 | []=>rfl
 |x::r=>by simp[wm,tN r]
theorem qO {fn:List UInt8->Fc}: ∀l,nQ fn l=l.all (BD fn)
 | []=>rfl
 |x::r=>by simp[nQ,qO r]
theorem En: ∀x∈pF,x.2.1=9->x.2.2=[105,97,105]:=by decide
theorem Ci {s:List UInt8} {c:Int} {ls:List UInt8} (h:ee s=some (c,ls)) (h9:c=9):ls=[105,97,105]:=by
 unfold ee at h;rw[eG]at h;obtain⟨x,hx,h⟩:=h;have:=En x (bT hx);rw[h]at this;exact this h9
theorem yz {g:Gl} {lo:Ls} {x:Ex} (h:lw g lo x= .ok ()):x.k≠2:=by
 obtain⟨k,op,nm,tx,v,a⟩:=x;intro e;simp only[Ex.k]at e;subst e;rw[lw,if_neg (by decide),if_neg (by decide),if_pos rfl]at h
 cases h
theorem yw {g:Gl} {lo:Ls} {nm:List UInt8} {c:Int}: ∀a:List Ex,a.length=3->na g lo nm (some (c,[105,97,105])) 0 a= .ok ()-> ∀y∈a,y.k≠2
 | [x,y,z],_,h=>by
  rw[na]at h;obtain⟨_,h1,h⟩:=db h;rw[na]at h;obtain⟨_,h2,h⟩:=db h;rw[na]at h;obtain⟨_,h3,_⟩:=db h;rw[if_pos (by rfl)]at h1 h3;rw[if_neg (by simp[jW])]at h2;have q2:y.k≠2:=by
   intro e;rw[if_pos (by simp[oS,xO,e])]at h2
   cases h2
  intro u hu;simp only[fC,ep,or_false]at hu;rcases hu with rfl|rfl|rfl
  ·exact yz h1
  ·exact q2
  ·exact yz h3
section
variable {g:Gl} {lo:Ls} {fn:List UInt8->Fc} (hfn: ∀s n,g.fn s=some n->(fn s).ps.length=n)
include hfn
mutual
theorem sD: ∀x:Ex,x.ok=true->lw g lo x= .ok ()->yW fn x=true
 | .mk k op nm tx v a,h,hc=>by
  rw[Ex.ok,ak]at h;rw[lw]at hc;rw[yW];by_cases h3:k=3
  ·rw[if_pos (.inr h3)]
  rw[if_neg h3]at hc;by_cases h1:k=1
  ·rw[if_pos (.inl h1)]
  rw[if_neg (by omega)];by_cases h4:k=4
  ·subst h4;rw[if_pos rfl]at hc;obtain⟨_,_,hc⟩:=db hc;rw[if_pos (.inl rfl),ak];have hl:=h.1;rw[if_neg (by decide),if_neg (by decide),if_neg (by decide),if_pos rfl,ak]at hl;exact⟨decide_eq_true (by have:=eq_of_beq hl.2;omega),p9 a h.2 hc⟩
  rw[if_neg h4]at hc;by_cases h2:k=2
  ·rw[if_pos h2]at hc;cases hc
  rw[if_neg h2]at hc;by_cases h5:k=5
  ·subst h5;rw[if_pos rfl]at hc;rw[if_neg (by decide),if_pos rfl];unfold ur at hc
   cases hb:ee nm with
   |some b=>
    obtain⟨c,ls⟩:=b;rw[hb]at hc;simp only at hc⊢;split at hc
    ·rename_i hl;rw[ak,ak,bF];refine⟨⟨decide_eq_true hl.symm,?_⟩,?_⟩
     ·by_cases h9:c=9
      ·right;have hls:=Ci hb h9;subst hls;exact List.all_eq_true.2 fun y hy=>by simpa using yw a (by simpa using hl.symm) hc y hy
      ·left;exact decide_eq_true h9
     ·have:=xc nm c ls a h.2 0 (by omega) hc;simpa using this
    ·cases hc
   |none=>
    rw[hb]at hc;simp only at hc⊢;split at hc
    ·cases hc
    ·rename_i n hn;split at hc
     ·rename_i hl;rw[ak];refine⟨decide_eq_true (by rw[hfn _ _ hn];omega),?_⟩;exact xb nm a h.2 0 hc
     ·cases hc
  rw[if_neg h5]at hc;by_cases h67:k=6\/k=7
  ·rw[if_pos h67]at hc;have hs:=p9 a h.2 hc;have hl:=h.1;rw[if_neg h1,if_neg h2,if_neg h3,if_neg h4,if_neg h5]at hl;rcases h67 with rfl|rfl
   ·rw[if_pos rfl,ak]at hl;rw[if_pos (.inr rfl),ak];exact⟨decide_eq_true (by have:=eq_of_beq hl.2;omega),hs⟩
   ·rw[if_neg (by decide),if_pos rfl,ak]at hl;rw[if_neg (by decide),if_neg (by decide),if_pos rfl,ak];exact⟨decide_eq_true (by have:=eq_of_beq hl.2;omega),hs⟩
  ·have hl:=h.1;rw[if_neg h1,if_neg h2,if_neg h3,if_neg h4,if_neg h5,if_neg (by omega),if_neg (by omega)]at hl
   cases hl
theorem p9: ∀l:List Ex,m9 l=true->l7 g lo l= .ok ()->wm fn l=true
 | [],_,_=>rfl
 |x::r,h,hc=>by
  rw[m9,ak]at h;rw[l7]at hc;obtain⟨_,h1,h2⟩:=db hc;rw[wm,ak];exact⟨sD x h.1 h1,p9 r h.2 h2⟩
theorem xc (nm:List UInt8) (c:Int) (ls:List UInt8): ∀l:List Ex,m9 l=true-> ∀i,i+l.length<=ls.length->na g lo nm (some (c,ls)) i l= .ok ()->BE fn (ls.drop i) l=true
 | [],_,_,_,_=>by cases h:ls.drop _<;>rfl
 |x::r,h,i,hi,hc=>by
  rw[m9,ak]at h;rw[na]at hc;obtain⟨_,h1,h2⟩:=db hc;simp only[ae]at hi;have h3:=xc nm c ls r h.2 (i+1) (by omega) h2;rw[BE,ak,List.tail_drop];refine⟨?_,h3⟩;rw[ay (by omega),List.headD_cons];by_cases hh:ls[i]=105
  ·have:jW (some (c,ls)) i=true:=by
    simp only[jW];rw[bF];right;rw[bB,aI (by omega)];simp[hh]
   rw[if_pos this]at h1;rw[sD x h.1 h1,Bool.or_true]
  ·rw[bF];left;simp[hh]
theorem xb (nm:List UInt8): ∀l:List Ex,m9 l=true-> ∀i,na g lo nm none i l= .ok ()->wm fn l=true
 | [],_,_,_=>rfl
 |x::r,h,i,hc=>by
  rw[m9,ak]at h;rw[na]at hc;obtain⟨_,h1,h2⟩:=db hc;rw[show jW none i=true from rfl,if_pos rfl]at h1;rw[wm,ak];exact⟨sD x h.1 h1,xb nm r h.2 (i+1) h2⟩
end
omit hfn in
theorem AB {g:Gl} {lo lo':Ls} {k:Int} {nm:List UInt8} {ex:List Ex} {b e:List St} (h:qr g lo (.mk k nm ex b e)= .ok lo'):l7 g lo ex= .ok ()/\ ∃l1 l2,fe g l1 b= .ok l2/\fe g l2 e= .ok lo':=by
 rw[qr]at h;obtain⟨_,_,h⟩:=db h;obtain⟨_,h1,h⟩:=db h;obtain⟨l1,_,h⟩:=db h;obtain⟨l2,h2,h⟩:=db h;exact⟨h1,l1,l2,h2,h⟩
mutual
theorem BF: ∀(x:St) (lo lo':Ls),x.ok=true->qr g lo x= .ok lo'->BD fn x=true
 | .mk k nm ex b e,lo,lo',h,hc=>by
  obtain⟨h1,l1,l2,h2,h3⟩:=AB hc;rw[St.ok,ak,ak,ak]at h;rw[BD,ak,ak,ak];refine⟨⟨?_,p9 hfn ex h.1.2 h1⟩,nk b _ _ h.2.1 h2,nk e _ _ h.2.2 h3⟩;have hk:=h.1.1;by_cases h5:k=5
  ·subst h5;rw[if_neg (by decide),if_neg (by decide),if_neg (by decide),if_neg (by decide),if_pos rfl,ak,ak]at hk;rw[if_pos rfl];exact decide_eq_true (by have:=eq_of_beq hk.1.2;omega)
  rw[if_neg h5];by_cases h3:k=3
  ·subst h3;rw[if_neg (by decide),if_neg (by decide),if_pos rfl,ak,ak,ak]at hk;rw[if_pos rfl];exact decide_eq_true (by have:=eq_of_beq hk.1.1.2;omega)
  rw[if_neg h3];refine decide_eq_true ?_;by_cases h1:k=1
  ·omega
  by_cases h2:k=2
  ·omega
  by_cases h4:k=4
  ·omega
  by_cases h6:k=6
  ·omega
  by_cases h7:k=7
  ·omega
  rw[if_neg h1,if_neg h2,if_neg h3,if_neg h4,if_neg h5,if_neg h6,if_neg h7]at hk
  cases hk
theorem nk: ∀(l:List St) (lo lo':Ls),oL l=true->fe g lo l= .ok lo'->nQ fn l=true
 | [],_,_,_,_=>rfl
 |x::r,lo,lo',h,hc=>by
  rw[oL,ak]at h;rw[fe]at hc;obtain⟨l1,h1,h2⟩:=db hc;rw[nQ,ak];exact⟨BF x _ _ h.1 h1,nk r _ _ h.2 h2⟩
end
end
theorem pW: ∀(vs:List Vr) (g g':Gl),jp g vs= .ok g'->g'.fn=g.fn
 | [],g,g',h=>by cases h;rfl
 |v::r,g,g',h=>by
  rw[jp]at h;split at h
  ·cases h
  ·rw[pW r _ _ h];unfold Gl.addV;split<;>rfl
theorem pX: ∀(fs:List Fc) (g g':Gl),gV g fs= .ok g'-> ∀s,g'.fn s=match fs.find? (fun f=>decide (s=f.nm))with|some f=>some f.ps.length|none=>g.fn s
 | [],g,g',h,s=>by cases h;rfl
 |f::r,g,g',h,s=>by
  rw[gV]at h;split at h
  ·cases h
  ·rename_i hk;rw[pX r _ _ h s,jD];by_cases hs:s=f.nm
   ·rw[decide_eq_true hs];simp only;have hn:r.find? (fun f=>decide (s=f.nm))=none:=by
     cases hr:r.find? (fun f=>decide (s=f.nm))with
     |none=>rfl
     |some f2=>exact absurd h (by
       have hm:=bT hr;have he:s=f2.nm:=by have:=List.find?_some hr;simpa using this
       exact topF_dup r (g.addF f) g' f2 hm (by simp[Gl.addF,<-he,hs]))
    rw[hn];simp[Gl.addF,hs]
   ·rw[decide_eq_false hs];simp only;split
    ·rfl
    ·simp[Gl.addF,hs]
where topF_dup: ∀(fs:List Fc) (g g':Gl) (f:Fc),f∈fs->(g.fn f.nm).isSome=true->gV g fs≠ .ok g'
 |f2::r,g,g',f,hm,hs,h=>by
  rw[gV]at h;split at h
  ·cases h
  ·rename_i hk;rcases List.mem_cons.1 hm with rfl|hm
   ·apply hk;unfold Gl.known;rw[hs];simp
   ·exact topF_dup r _ g' f hm (by unfold Gl.addF;simp only;split;rfl;exact hs) h
theorem kh: ∀(fs:List Fc) (s:List UInt8),ib fs s=((fs.find? (fun f=>decide (s=f.nm))).getD ⟨[],[],[]⟩)
 | [],s=>rfl
 |f::r,s=>by
  rw[ib,jD];split
  ·rename_i h;rw[decide_eq_true h];rfl
  ·rename_i h;rw[decide_eq_false h];exact kh r s
theorem tF {p:Pg} {g:Gl} (h:lF p= .ok g): ∀s,g.fn s=(p.fs.find? (fun f=>decide (s=f.nm))).map (·.ps.length):=by
 unfold lF at h;obtain⟨g1,h1,h⟩:=db h;obtain⟨g2,h2,h⟩:=db h;have:g2=g:=by
  split at h
  ·cases h
  ·split at h
   ·cases h
   ·cases h;rfl
 subst this;intro s;rw[pX _ _ _ h2 s,pW _ _ _ h1]
 cases p.fs.find? _<;>rfl
theorem uE {p:Pg} {g:Gl} (h:lF p= .ok g):(ib p.fs bC).ps=[]/\ ∃f∈p.fs,ib p.fs bC=f:=by
 have hf:=tF h bC;unfold lF at h;obtain⟨g1,h1,h⟩:=db h;obtain⟨g2,h2,h⟩:=db h;have:g2=g/\g2.fn bC=some 0:=by
  split at h
  ·cases h
  ·rename_i n hn;split at h
   ·cases h
   ·cases h;exact⟨rfl,by rw[hn,show n=0 by omega]⟩
 obtain⟨rfl,h0⟩:=this;rw[h0]at hf
 cases hx:p.fs.find? (fun f=>decide (bC=f.nm))with
 |none=>rw[hx]at hf;cases hf
 |some f=>
  rw[hx]at hf;have hl:f.ps.length=0:=by simpa using hf.symm
  refine⟨?_,f,bT hx,?_⟩
  ·rw[kh,hx];exact aJ hl
  ·rw[kh,hx];rfl
theorem rJ {g:Gl}: ∀(fs:List Fc) (f:Fc),f∈fs->jd g fs= .ok ()-> ∃lo lo',fe g lo f.body= .ok lo'
 |f2::r,f,hm,h=>by
  rw[jd]at h;obtain⟨lo,_,h⟩:=db h;obtain⟨lo',h1,h⟩:=db h;rcases List.mem_cons.1 hm with rfl|hm
  ·exact⟨lo,lo',h1⟩
  ·exact rJ r f hm h
theorem qQ {p:Pg} (hv:gZ p=true) (h:fR p= .ok ()):(ib p.fs bC).ps=[]/\ ∀s,nQ (ib p.fs) (ib p.fs s).body=true:=by
 unfold fR at h;obtain⟨g,h1,h⟩:=db h;obtain⟨_,h2,h⟩:=db h;refine⟨(uE h1).1,fun s=> ?_⟩;rw[kh p.fs s]
 cases hx:p.fs.find? (fun f=>decide (s=f.nm))with
 |none=>rfl
 |some f=>
  have hm:=bT hx;obtain⟨lo,lo',h3⟩:=rJ _ _ hm h2;unfold gZ at hv;simp only[ak]at hv;refine nk (fun s n hn=> ?_) f.body lo lo' (nY (List.all_eq_true.1 hv.1.1.1.2 f hm)) h3;rw[tF h1]at hn;rw[kh]
  cases hy:p.fs.find? (fun f=>decide (s=f.nm))with
  |none=>rw[hy]at hn;cases hn
  |some f3=>rw[hy]at hn;simpa using hn
end
section
structure ux (R:Rs) (Q:Ms->Prop):Prop where
 step: ∀s,Q s->Q s.step
 used: ∀s,Q s->s.used<R.length->Q {s with used:=s.used+1}
 setI: ∀s nm v,Q s->Q (s.setI nm v)
 setA: ∀s nm v,Q s->Q (s.setA nm v)
 stk: ∀s k,Q s->Q {s with stk:=k}
def oI (Q:Ms->Prop) {α:Type} (r:ER α):Prop:=match r with
 | .ok (_,s)=>Q s
 | .error o=> ∃s,Q s/\o.used=s.used
theorem oI.then {Q:Ms->Prop} {α β:Type} {r:ER α} {k:α->Ms->ER β} (h:oI Q r) (hk: ∀a s,Q s->oI Q (k a s)):oI Q (r.then k):=by
 cases r with
 |error o=>exact h
 |ok p=>exact hk _ _ h
theorem oI.err {Q:Ms->Prop} {α:Type} {s:Ms} {o:Oc} (h:Q s) (hu:o.used=s.used):oI Q (.error o:ER α):=⟨s,h,hu⟩
section
variable {R:Rs} {Q:Ms->Prop} (hQ:ux R Q)
include hQ
theorem sr {s:Ms} {c a b d:Int} {l:List UInt8} (h:Q s):oI Q (fW R s c a b d l):=by
 unfold fW;split
 ·exact .err h rfl
 ·rename_i r hr;exact hQ.used s h (List.getElem?_eq_some_iff.1 hr).1
omit hQ in
theorem nA {E:Ms->Ex->ER Int} (hE: ∀s x,Q s->oI Q (E s x)): ∀(ls:List UInt8) (ys:List Ex) (vs:List Int) (la:Int) (d:Dt) (s:Ms),Q s->oI Q (dW E ls ys vs la d s)
 |c::ls,y::ys,vs,la,d,s,h=>by
  rw[dW];split
  ·exact(hE s y h).then fun v s h=>nA hE ls ys _ _ _ s h
  ·split
   ·exact nA hE ls ys _ _ _ s h
   ·exact nA hE ls ys _ _ _ s h
 | [],_,vs,la,d,s,h=>h
 | _::_,[],vs,la,d,s,h=>h
theorem BN {s:Ms} {n:Nat} {r:List UInt8} (h:Q s): ∀d:Dt,Q (d.put s n r)
 | .no=>h
 | .txt _=>h
 | .arr _=>hQ.setA _ _ _ h
theorem yG {E:Ms->Ex->ER Int} (hE: ∀s x,Q s->oI Q (E s x)) (c:Int) (ls:List UInt8) (a:List Ex) (s:Ms) (h:Q s):oI Q (oz R E s c ls a):=by
 unfold oz nc;refine(nA hE ls a [] 0 .no s h).then fun p s h=> ?_;split
 ·exact(sr hQ h).then fun r s h=>h
 ·split
  ·exact .err h rfl
  ·split
   ·exact(sr hQ h).then fun r s h=>h
   ·exact(sr hQ h).then fun r s h=>BN hQ h _
omit hQ in
theorem s5 {E:Ms->Ex->ER Int} (hE: ∀s x,Q s->oI Q (E s x)): ∀(ys:List Ex) (vs:List Int) (s:Ms),Q s->oI Q (uk E vs s ys)
 | [],vs,s,h=>h
 |y::r,vs,s,h=>(hE s y h).then fun v s h=>s5 hE r _ s h
omit hQ in
theorem nM {S:Ms->Lo->St->lx} (hS: ∀s l x,Q s->oI Q (S s l x)): ∀(ys:List St) (l:Lo) (s:Ms),Q s->oI Q (mh S s l ys)
 | [],l,s,h=>h
 |y::r,l,s,h=>by
  rw[mh];refine(hS s l y h).then fun p s h=> ?_;split
  ·exact h
  ·exact nM hS r _ s h
theorem yD {S:Ms->Lo->St->lx} (hS: ∀s l x,Q s->oI Q (S s l x)) (f:Fc) (vs:List Int) (s:Ms) (h:Q s):oI Q (fF S f vs s):=by
 unfold fF;split
 ·exact .err h rfl
 ·exact(nM hS f.body _ _ (hQ.stk _ _ h)).then fun p s h=>hQ.stk _ _ h
omit hQ in
theorem yI (op:List UInt8) (a b:Int) (s:Ms) (h:Q s):oI Q (fM op a b s):=by
 unfold fM;repeat' split
 all_goals first|exact h|exact .err h rfl
theorem rA {C:Cx} (hR:C.R=R): ∀n,(∀s l x,Q s->oI Q (ev C n s l x))/\(∀s l x,Q s->oI Q (st C n s l x))/\(∀s l c b,Q s->oI Q (wh C n s l c b))
 |0=>⟨fun s l x h=> .err h rfl,fun s l x h=> .err h rfl,fun s l c b h=> .err h rfl⟩
 |n+1=>by
  obtain⟨h1,h2,h3⟩:=rA hR n;refine⟨fun s l x h=> ?_,fun s l x h=> ?_,fun s l c b h=> ?_⟩
  ·have h':=hQ.step s h;rw[ev];split
   ·exact .err h rfl
   split
   ·exact h'
   split
   ·exact h'
   split
   ·refine(h1 _ l _ h').then fun i s h=> ?_;split
    ·exact h
    ·exact .err h rfl
   split
   ·split
    ·rw[hR];exact yG hQ (fun s x h=>h1 s l x h) _ _ _ _ h'
    ·exact(s5 (fun s x h=>h1 s l x h) _ _ _ h').then fun vs s h=>yD hQ (fun s l x h=>h2 s l x h) _ _ _ h
   split
   ·refine(h1 _ l _ h').then fun i s h=> ?_;split<;>exact h
   ·refine(h1 _ l _ h').then fun i s h=> ?_;split
    ·exact h
    split
    ·exact h
    refine(h1 _ l _ h).then fun j s h=> ?_;split
    ·exact h
    ·exact yI _ _ _ _ h
  ·have h':=hQ.step s h;rw[st];split
   ·exact .err h rfl
   split
   ·exact h3 _ _ _ _ h'
   refine oI.then (by split;exact h';exact h1 _ _ _ h') fun v s h=> ?_;split
   ·exact h
   split
   ·split
    ·exact h
    ·exact hQ.setI _ _ _ h
   split
   ·refine(h1 _ l _ h).then fun u s h=> ?_;split
    ·exact hQ.setA _ _ _ h
    ·exact .err h rfl
   split
   ·exact nM (fun s l x h=>h2 s l x h) _ _ _ h
   split<;>exact h
  ·rw[wh];refine(h1 _ l _ h).then fun v s h=> ?_;split
   ·exact h
   refine(nM (fun s l x h=>h2 s l x h) _ _ _ h).then fun p s h=> ?_;split
   ·exact h
   ·exact h3 _ _ _ _ h
end
theorem iH (R:Rs) (m:Nat):ux R (fun s=>s.left<=m):=⟨fun s h=>by show s.left-1<=m;omega,fun s h _=>h,fun s _ _ h=>h,fun s _ _ h=>h,fun s _ h=>h⟩
theorem nz {C:Cx} {n:Nat} {s s':Ms} {l:Lo} {x:Ex} {v:Int} (h:ev C n s l x= .ok (v,s')):s'.left<=s.left:=by
 have:=(rA (iH C.R s.left) rfl n).1 s l x (ah _);rw[h]at this;exact this
theorem zo {C:Cx} {n:Nat} {s s':Ms} {l:Lo} {x:St} {v:Option Int×Lo} (h:st C n s l x= .ok (v,s')):s'.left<=s.left:=by
 have:=(rA (iH C.R s.left) rfl n).2.1 s l x (ah _);rw[h]at this;exact this
end
end Go.Proofs.YtddomeddabfinaaGreatDoor
