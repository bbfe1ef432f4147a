/-
  Parts of the proof: PrE PrF PrG VaI.
-/
import Derived.Test.YtddomeddabfinaaGreatDoorTa00
import Derived.Test.YtddomeddabfinaaGreatDoorTa21
import Derived.Test.YtddomeddabfinaaGreatDoorTa22
set_option maxRecDepth 100000
set_option maxHeartbeats 8000000
set_option linter.unusedVariables false
set_option linter.unusedSimpArgs false
set_option linter.unusedSectionVars false
namespace Go.Proofs.YtddomeddabfinaaGreatDoor
open Go.Proofs.Tryz
section
open Go.RowKit
theorem qu (i:Nat) (h:i<=1000000000) (w:World):Calls prog 135 #[.string ⟨#[9]⟩, .int .i64 (i:Int)] w fun e w'=>e= .returned (.string (ah (iW i)))/\au w w':=by
 refine(Tryz.strings_Repeat ⟨#[9]⟩ i w (by omega) (by show 1*i<=_;omega)).mono ?_;rintro e w' ⟨rfl,h⟩;refine⟨?_,h⟩;have:=Lib.repeatL_replicate 9 1 i;rw[jU]at this;rw[show((⟨#[9]⟩:ByteArray).data.toList)=List.replicate 1 9 from rfl,this];rfl
structure PB (b:Nat) (w0:World) (P:Nat->Prop) (v:Value) (xs:List St) (l:List UInt8) (W:World):Prop where
 bu:Bu W b l
 rd:cK W P v xs
 fb:FB b w0 W
 tab:dg W b
 hP: ∀k,P k->k<b
section
variable {b:Nat} {w0 W W':World} {P:Nat->Prop} {v:Value} {xs:List St} {l l':List UInt8}
theorem PB.wr (h:PB b w0 P v xs l W) (hB:Bu W' b l') (hF:FB b W W'):PB b w0 P v xs l' W':=⟨hB,h.rd.keep (hF.keepP h.hP) (fun _ hb _=>hb),h.fb.trans hF,h.tab.fb hF,h.hP⟩
theorem PB.ex (h:PB b w0 P v xs l W) (hE:au W W'):PB b w0 P v xs l W':=h.wr (h.bu.ext hE) (aS hE (aG h.bu.lt))
end
theorem Dn (nm:List UInt8) (body:List St) (y:Ex) (hy:mO y) (hbl:kD body) (P:Nat->Prop) (w:World) (A B C:Option Addr) (n c nb cb nl cl b i:Nat) (l:List UInt8) (hR:cu w P (.slice A n c) [y]) (hRb:cK w P (.slice B nb cb) body) (hRl:cK w P (.slice C nl cl) []) (hP: ∀k,P k->k<b) (hT:dg w b) (hB:Bu w b l) (S:List UInt8) (hS:dB (.mk 4 nm [y] body []) i=S) (hl:l.length+S.length<=1000000000):
  Calls prog 176 #[.pointer (some ⟨b,0,none⟩), .agg #[.int .i64 4, .string (ah nm), .slice A n c, .slice B nb cb, .slice C nl cl], .int .i64 (i:Int)] w fun e w'=>e= .returned (.tuple #[])/\Bu w' b (l++S)/\FB b w w':=by
 have HS:=G (show[105,102,32]++cd y++[32]++eM i (bF body (i+1))++[]=S from by rw[<-hS];simp[dB,iJ,bF,eE,mw,BJ,nq]);have hlen:3+(cd y).length+1+(eM i (bF body (i+1))).length+0=S.length:=by rw[<-HS.out];simp only[Z,ac,ae]
 clear hS;have hnl:=hRl.len;simp only[ac,ae]at hnl;obtain rfl:nl=0:=hnl;have hn:=hR.len;simp only[ac,ae]at hn;obtain rfl:n=1:=hn;obtain⟨b0,o0,a0,hA0,hb0,hP0,y00,y10,y20,y30,y40,y50,hRy0⟩:=hR.at_ 0 (by simp);simp only[aB,aP,a_,br,b_]at y00 y10 y20 y30 y40 y50 hRy0;obtain⟨B0,d0,rfl,_⟩:=hRy0.form;have HY0:=G (ax y00 (ax y10 (ax y20 (ax y30 (ax y40 y50)))));have HRy0:=G hRy0;clear y00 y10 y20 y30 y40 y50 hRy0;subst hA0;have HC0:=G (show PS b w.heap.size w P #[.int .i64 4, .string (ah nm), .slice (some ⟨b0,o0,none⟩) 1 c, .slice B nb cb, .slice C 0 cl] (.slice (some ⟨b0,o0,none⟩) 1 c) (.slice B nb cb) (.slice C 0 cl) (.mk 4 nm [y] body []) l _ from⟨am w 72 #[.int .i64 4, .string (ah nm), .slice (some ⟨b0,o0,none⟩) 1 c, .slice B nb cb, .slice C 0 cl],hB.ext (I w _),hR.keep (.of_ext (I w _)) (fun _ hb _=>hb),hRb.keep (.of_ext (I w _)) (fun _ hb _=>hb),hRl.keep (.of_ext (I w _)) (fun _ hb _=>hb),aS (I w _) (aG hB.lt),hT.fb (aS (I w _) (aG hB.lt)),bA hB.lt,by decide,hP⟩);have hbc:=HC0.out.box.cell;clear hB hR hT hRb hRl;unfold kD at hbl;go_enter func176,ntmps176;have e0:=(HC0.out.fb.keepP hP).cell (o0) hP0 hb0|>.trans HY0.out.1;have e1:=(HC0.out.fb.keepP hP).cell (o0+1) hP0 hb0|>.trans HY0.out.2.1;have e2:=(HC0.out.fb.keepP hP).cell (o0+2) hP0 hb0|>.trans HY0.out.2.2.1;have e3:=(HC0.out.fb.keepP hP).cell (o0+3) hP0 hb0|>.trans HY0.out.2.2.2.1;have e4:=(HC0.out.fb.keepP hP).cell (o0+4) hP0 hb0|>.trans HY0.out.2.2.2.2.1;have e5:=(HC0.out.fb.keepP hP).cell (o0+5) hP0 hb0|>.trans HY0.out.2.2.2.2.2;go_wp2_with (first|(go_at_call 175;refine(ek y hy [105,102,32] [32] P _ B0 _ d0 b l (HRy0.out.keep (HC0.out.fb.keepP hP) (fun _ hb _=>hb)) hP HC0.out.tab HC0.out.bu (by(try have a1:=Hzc1.out);(try have a2:=Hzc2.out);simp only[Z,ac,ae];omega)).mono ?_;rintro e u1 ⟨rfl,h1,h2⟩;have HC1:=G (HC0.out.wr h1 h2);clear h1 h2 HC0;clear hbc;have hbc:=HC1.out.box.cell)|(go_at_call 94;refine(hbl P _ B nb cb b i (l++([105,102,32]++cd y++[32])) HC1.out.rb hP HC1.out.tab HC1.out.bu (by(try have a1:=Hzc1.out);(try have a2:=Hzc2.out);simp only[Z,ac,ae];omega)).mono ?_;rintro e u2 ⟨rfl,h1,h2⟩;have HC2:=G (HC1.out.wr h1 h2);clear h1 h2 HC1;clear hbc;have hbc:=HC2.out.box.cell));first|go_end0|((try simp only[Exit.inBlock,Exit.then]);refine bodyPost_ret (results_none rfl _ _ _) rfl ?_)
 exact⟨rfl,by rw[<-HS.out];have:=HC2.out.bu;simpa[aN]using this,HC2.out.fb⟩
theorem Dm (nm:List UInt8) (body:List St) (y:Ex) (hy:mO y) (hbl:kD body) (s:St) (hk:s.k=4) (hch:sO s) (P:Nat->Prop) (w:World) (A B C:Option Addr) (n c nb cb nl cl b i:Nat) (l:List UInt8) (hR:cu w P (.slice A n c) [y]) (hRb:cK w P (.slice B nb cb) body) (hRl:cK w P (.slice C nl cl) [s]) (hP: ∀k,P k->k<b) (hT:dg w b) (hB:Bu w b l) (S:List UInt8) (hS:dB (.mk 4 nm [y] body [s]) i=S) (hl:l.length+S.length<=1000000000):
  Calls prog 176 #[.pointer (some ⟨b,0,none⟩), .agg #[.int .i64 4, .string (ah nm), .slice A n c, .slice B nb cb, .slice C nl cl], .int .i64 (i:Int)] w fun e w'=>e= .returned (.tuple #[])/\Bu w' b (l++S)/\FB b w w':=by
 have HS:=G (show[105,102,32]++cd y++[32]++eM i (bF body (i+1))++([32,101,108,115,101,32]++dB s i)=S from by rw[<-hS];simp[dB,iJ,bF,eE,mw,BJ,nq,hk]);have hlen:3+(cd y).length+1+(eM i (bF body (i+1))).length+(6+(dB s i).length)=S.length:=by rw[<-HS.out];simp only[Z,ac,ae]
 clear hS;have hnl:=hRl.len;simp only[ac,ae]at hnl;obtain rfl:nl=1:=hnl;obtain⟨bs,os,su,sv,sz,hCs,hbs,hPs,q0,q1,q2,q3,q4,hse,hsb,hsl⟩:=hRl.at_ 0 (by simp);simp only[aB,a_,br]at q0 q1 q2 q3 q4 hse hsb hsl;obtain⟨E2,ce2,rfl,_⟩:=hse.form;obtain⟨B2,cb2,rfl,_⟩:=hsb.form;obtain⟨C2,cl2,rfl,_⟩:=hsl.form;subst hCs;have HQ:=G (ax q0 (ax q1 (ax q2 (ax q3 q4))));have HQr:=G (ax hse (ax hsb hsl));clear q0 q1 q2 q3 q4 hse hsb hsl;have hn:=hR.len;simp only[ac,ae]at hn;obtain rfl:n=1:=hn;obtain⟨b0,o0,a0,hA0,hb0,hP0,y00,y10,y20,y30,y40,y50,hRy0⟩:=hR.at_ 0 (by simp);simp only[aB,aP,a_,br,b_]at y00 y10 y20 y30 y40 y50 hRy0;obtain⟨B0,d0,rfl,_⟩:=hRy0.form;have HY0:=G (ax y00 (ax y10 (ax y20 (ax y30 (ax y40 y50)))));have HRy0:=G hRy0;clear y00 y10 y20 y30 y40 y50 hRy0;subst hA0;have HC0:=G (show PS b w.heap.size w P #[.int .i64 4, .string (ah nm), .slice (some ⟨b0,o0,none⟩) 1 c, .slice B nb cb, .slice (some ⟨bs,os,none⟩) 1 cl] (.slice (some ⟨b0,o0,none⟩) 1 c) (.slice B nb cb) (.slice (some ⟨bs,os,none⟩) 1 cl) (.mk 4 nm [y] body [s]) l _ from⟨am w 72 #[.int .i64 4, .string (ah nm), .slice (some ⟨b0,o0,none⟩) 1 c, .slice B nb cb, .slice (some ⟨bs,os,none⟩) 1 cl],hB.ext (I w _),hR.keep (.of_ext (I w _)) (fun _ hb _=>hb),hRb.keep (.of_ext (I w _)) (fun _ hb _=>hb),hRl.keep (.of_ext (I w _)) (fun _ hb _=>hb),aS (I w _) (aG hB.lt),hT.fb (aS (I w _) (aG hB.lt)),bA hB.lt,by decide,hP⟩);have hbc:=HC0.out.box.cell;clear hB hR hT hRb hRl;unfold kD at hbl;unfold sO at hch;rw[hk]at HQ hch;go_enter func176,ntmps176;have e0:=(HC0.out.fb.keepP hP).cell (o0) hP0 hb0|>.trans HY0.out.1;have e1:=(HC0.out.fb.keepP hP).cell (o0+1) hP0 hb0|>.trans HY0.out.2.1;have e2:=(HC0.out.fb.keepP hP).cell (o0+2) hP0 hb0|>.trans HY0.out.2.2.1;have e3:=(HC0.out.fb.keepP hP).cell (o0+3) hP0 hb0|>.trans HY0.out.2.2.2.1;have e4:=(HC0.out.fb.keepP hP).cell (o0+4) hP0 hb0|>.trans HY0.out.2.2.2.2.1;have e5:=(HC0.out.fb.keepP hP).cell (o0+5) hP0 hb0|>.trans HY0.out.2.2.2.2.2;go_wp2_with (first|(go_at_call 175;refine(ek y hy [105,102,32] [32] P _ B0 _ d0 b l (HRy0.out.keep (HC0.out.fb.keepP hP) (fun _ hb _=>hb)) hP HC0.out.tab HC0.out.bu (by(try have a1:=Hzc1.out);(try have a2:=Hzc2.out);simp only[Z,ac,ae];omega)).mono ?_;rintro e u1 ⟨rfl,h1,h2⟩;have HC1:=G (HC0.out.wr h1 h2);clear h1 h2 HC0;clear hbc;have hbc:=HC1.out.box.cell)|(go_at_call 94;refine(hbl P _ B nb cb b i (l++([105,102,32]++cd y++[32])) HC1.out.rb hP HC1.out.tab HC1.out.bu (by(try have a1:=Hzc1.out);(try have a2:=Hzc2.out);simp only[Z,ac,ae];omega)).mono ?_;rintro e u2 ⟨rfl,h1,h2⟩;have HC2:=G (HC1.out.wr h1 h2);clear h1 h2 HC1;clear hbc;have hbc:=HC2.out.box.cell;have g0:=(HC2.out.fb.keepP hP).cell (os) hPs hbs|>.trans HQ.out.1;have g1:=(HC2.out.fb.keepP hP).cell (os+1) hPs hbs|>.trans HQ.out.2.1;have g2:=(HC2.out.fb.keepP hP).cell (os+2) hPs hbs|>.trans HQ.out.2.2.1;have g3:=(HC2.out.fb.keepP hP).cell (os+3) hPs hbs|>.trans HQ.out.2.2.2.1;have g4:=(HC2.out.fb.keepP hP).cell (os+4) hPs hbs|>.trans HQ.out.2.2.2.2)|(go_at_call 91;refine(cm b ((l++([105,102,32]++cd y++[32]))++eM i (bF body (i+1))) [32,101,108,115,101,32] _ HC2.out.bu (by(try have a1:=Hzc1.out);(try have a2:=Hzc2.out);(try simp only[Z,ac,ae]);omega)).mono ?_;rintro e u3 ⟨rfl,h1,h2⟩;have HC3:=G (HC2.out.wr h1 h2);clear h1 h2 HC2;clear hbc;have hbc:=HC3.out.box.cell;clear g0 g1 g2 g3 g4;have g0:=(HC3.out.fb.keepP hP).cell (os) hPs hbs|>.trans HQ.out.1;have g1:=(HC3.out.fb.keepP hP).cell (os+1) hPs hbs|>.trans HQ.out.2.1;have g2:=(HC3.out.fb.keepP hP).cell (os+2) hPs hbs|>.trans HQ.out.2.2.1;have g3:=(HC3.out.fb.keepP hP).cell (os+3) hPs hbs|>.trans HQ.out.2.2.2.1;have g4:=(HC3.out.fb.keepP hP).cell (os+4) hPs hbs|>.trans HQ.out.2.2.2.2)|(go_at_call 176;refine(hch P _ E2 B2 C2 _ ce2 _ cb2 _ cl2 b i (((l++([105,102,32]++cd y++[32]))++eM i (bF body (i+1)))++[32,101,108,115,101,32]) (HQr.out.1.keep (HC3.out.fb.keepP hP) (fun _ hb _=>hb)) (HQr.out.2.1.keep (HC3.out.fb.keepP hP) (fun _ hb _=>hb)) (HQr.out.2.2.keep (HC3.out.fb.keepP hP) (fun _ hb _=>hb)) hP HC3.out.tab HC3.out.bu (by(try have a1:=Hzc1.out);(try have a2:=Hzc2.out);(try simp only[Z,ac,ae]);omega)).mono ?_;rintro e u4 ⟨rfl,h1,h2⟩;have HC4:=G (HC3.out.wr h1 h2);clear h1 h2 HC3));first|go_end0|((try simp only[Exit.inBlock,Exit.then]);refine bodyPost_ret (results_none rfl _ _ _) rfl ?_)
 exact⟨rfl,by rw[<-HS.out];have:=HC4.out.bu;simpa[aN]using this,HC4.out.fb⟩
theorem Dl (nm:List UInt8) (body:List St) (y:Ex) (hy:mO y) (hbl:kD body) (s:St) (hk:s.k≠4) (hel:kD [s]) (P:Nat->Prop) (w:World) (A B C:Option Addr) (n c nb cb nl cl b i:Nat) (l:List UInt8) (hR:cu w P (.slice A n c) [y]) (hRb:cK w P (.slice B nb cb) body) (hRl:cK w P (.slice C nl cl) [s]) (hP: ∀k,P k->k<b) (hT:dg w b) (hB:Bu w b l) (S:List UInt8) (hS:dB (.mk 4 nm [y] body [s]) i=S) (hl:l.length+S.length<=1000000000):
  Calls prog 176 #[.pointer (some ⟨b,0,none⟩), .agg #[.int .i64 4, .string (ah nm), .slice A n c, .slice B nb cb, .slice C nl cl], .int .i64 (i:Int)] w fun e w'=>e= .returned (.tuple #[])/\Bu w' b (l++S)/\FB b w w':=by
 have HS:=G (show[105,102,32]++cd y++[32]++eM i (bF body (i+1))++([32,101,108,115,101,32]++eM i (bF [s] (i+1)))=S from by rw[<-hS];simp[dB,iJ,bF,eE,mw,BJ,nq,hk]);have hlen:3+(cd y).length+1+(eM i (bF body (i+1))).length+(6+(eM i (bF [s] (i+1))).length)=S.length:=by rw[<-HS.out];simp only[Z,ac,ae]
 clear hS;have hnl:=hRl.len;simp only[ac,ae]at hnl;obtain rfl:nl=1:=hnl;obtain⟨bs,os,su,sv,sz,hCs,hbs,hPs,q0,q1,q2,q3,q4,hse,hsb,hsl⟩:=hRl.at_ 0 (by simp);simp only[aB,a_,br]at q0 q1 q2 q3 q4 hse hsb hsl;obtain⟨E2,ce2,rfl,_⟩:=hse.form;obtain⟨B2,cb2,rfl,_⟩:=hsb.form;obtain⟨C2,cl2,rfl,_⟩:=hsl.form;subst hCs;have HQ:=G (ax q0 (ax q1 (ax q2 (ax q3 q4))));have HQr:=G (ax hse (ax hsb hsl));clear q0 q1 q2 q3 q4 hse hsb hsl;have hn:=hR.len;simp only[ac,ae]at hn;obtain rfl:n=1:=hn;obtain⟨b0,o0,a0,hA0,hb0,hP0,y00,y10,y20,y30,y40,y50,hRy0⟩:=hR.at_ 0 (by simp);simp only[aB,aP,a_,br,b_]at y00 y10 y20 y30 y40 y50 hRy0;obtain⟨B0,d0,rfl,_⟩:=hRy0.form;have HY0:=G (ax y00 (ax y10 (ax y20 (ax y30 (ax y40 y50)))));have HRy0:=G hRy0;clear y00 y10 y20 y30 y40 y50 hRy0;subst hA0;have HC0:=G (show PS b w.heap.size w P #[.int .i64 4, .string (ah nm), .slice (some ⟨b0,o0,none⟩) 1 c, .slice B nb cb, .slice (some ⟨bs,os,none⟩) 1 cl] (.slice (some ⟨b0,o0,none⟩) 1 c) (.slice B nb cb) (.slice (some ⟨bs,os,none⟩) 1 cl) (.mk 4 nm [y] body [s]) l _ from⟨am w 72 #[.int .i64 4, .string (ah nm), .slice (some ⟨b0,o0,none⟩) 1 c, .slice B nb cb, .slice (some ⟨bs,os,none⟩) 1 cl],hB.ext (I w _),hR.keep (.of_ext (I w _)) (fun _ hb _=>hb),hRb.keep (.of_ext (I w _)) (fun _ hb _=>hb),hRl.keep (.of_ext (I w _)) (fun _ hb _=>hb),aS (I w _) (aG hB.lt),hT.fb (aS (I w _) (aG hB.lt)),bA hB.lt,by decide,hP⟩);have hbc:=HC0.out.box.cell;clear hB hR hT hRb hRl;unfold kD at hbl;unfold kD at hel;have hx1:(s.k==4)=false:=by rw[beq_eq_false_iff_ne];exact hk
 go_enter func176,ntmps176;have e0:=(HC0.out.fb.keepP hP).cell (o0) hP0 hb0|>.trans HY0.out.1;have e1:=(HC0.out.fb.keepP hP).cell (o0+1) hP0 hb0|>.trans HY0.out.2.1;have e2:=(HC0.out.fb.keepP hP).cell (o0+2) hP0 hb0|>.trans HY0.out.2.2.1;have e3:=(HC0.out.fb.keepP hP).cell (o0+3) hP0 hb0|>.trans HY0.out.2.2.2.1;have e4:=(HC0.out.fb.keepP hP).cell (o0+4) hP0 hb0|>.trans HY0.out.2.2.2.2.1;have e5:=(HC0.out.fb.keepP hP).cell (o0+5) hP0 hb0|>.trans HY0.out.2.2.2.2.2;go_wp2_with (first|(go_at_call 175;refine(ek y hy [105,102,32] [32] P _ B0 _ d0 b l (HRy0.out.keep (HC0.out.fb.keepP hP) (fun _ hb _=>hb)) hP HC0.out.tab HC0.out.bu (by(try have a1:=Hzc1.out);(try have a2:=Hzc2.out);simp only[Z,ac,ae];omega)).mono ?_;rintro e u1 ⟨rfl,h1,h2⟩;have HC1:=G (HC0.out.wr h1 h2);clear h1 h2 HC0;clear hbc;have hbc:=HC1.out.box.cell)|(go_at_call 94;refine(hbl P _ B nb cb b i (l++([105,102,32]++cd y++[32])) HC1.out.rb hP HC1.out.tab HC1.out.bu (by(try have a1:=Hzc1.out);(try have a2:=Hzc2.out);simp only[Z,ac,ae];omega)).mono ?_;rintro e u2 ⟨rfl,h1,h2⟩;have HC2:=G (HC1.out.wr h1 h2);clear h1 h2 HC1;clear hbc;have hbc:=HC2.out.box.cell;have g0:=(HC2.out.fb.keepP hP).cell (os) hPs hbs|>.trans HQ.out.1;have g1:=(HC2.out.fb.keepP hP).cell (os+1) hPs hbs|>.trans HQ.out.2.1;have g2:=(HC2.out.fb.keepP hP).cell (os+2) hPs hbs|>.trans HQ.out.2.2.1;have g3:=(HC2.out.fb.keepP hP).cell (os+3) hPs hbs|>.trans HQ.out.2.2.2.1;have g4:=(HC2.out.fb.keepP hP).cell (os+4) hPs hbs|>.trans HQ.out.2.2.2.2)|(go_at_call 91;refine(cm b ((l++([105,102,32]++cd y++[32]))++eM i (bF body (i+1))) [32,101,108,115,101,32] _ HC2.out.bu (by(try have a1:=Hzc1.out);(try have a2:=Hzc2.out);(try simp only[Z,ac,ae]);omega)).mono ?_;rintro e u3 ⟨rfl,h1,h2⟩;have HC3:=G (HC2.out.wr h1 h2);clear h1 h2 HC2;clear hbc;have hbc:=HC3.out.box.cell)|(go_at_call 94;guard_hyp HC3;refine(hel P _ (some ⟨bs,os,none⟩) 1 cl b i (((l++([105,102,32]++cd y++[32]))++eM i (bF body (i+1)))++[32,101,108,115,101,32]) HC3.out.rl hP HC3.out.tab HC3.out.bu (by(try have a1:=Hzc1.out);(try have a2:=Hzc2.out);(try simp only[Z,ac,ae]);omega)).mono ?_;rintro e u4 ⟨rfl,h1,h2⟩;have HC4:=G (HC3.out.wr h1 h2);clear h1 h2 HC3));first|go_end0|((try simp only[Exit.inBlock,Exit.then]);refine bodyPost_ret (results_none rfl _ _ _) rfl ?_)
 exact⟨rfl,by rw[<-HS.out];have:=HC4.out.bu;simpa[aN]using this,HC4.out.fb⟩
theorem Dk (nm:List UInt8) (body:List St) (y:Ex) (hy:mO y) (hbl:kD body) (s1 s2:St) (r:List St) (hel:kD (s1::s2::r)) (P:Nat->Prop) (w:World) (A B C:Option Addr) (n c nb cb nl cl b i:Nat) (l:List UInt8) (hR:cu w P (.slice A n c) [y]) (hRb:cK w P (.slice B nb cb) body) (hRl:cK w P (.slice C nl cl) (s1::s2::r)) (hP: ∀k,P k->k<b) (hT:dg w b) (hB:Bu w b l) (S:List UInt8) (hS:dB (.mk 4 nm [y] body (s1::s2::r)) i=S) (hl:l.length+S.length<=1000000000):
  Calls prog 176 #[.pointer (some ⟨b,0,none⟩), .agg #[.int .i64 4, .string (ah nm), .slice A n c, .slice B nb cb, .slice C nl cl], .int .i64 (i:Int)] w fun e w'=>e= .returned (.tuple #[])/\Bu w' b (l++S)/\FB b w w':=by
 have HS:=G (show[105,102,32]++cd y++[32]++eM i (bF body (i+1))++([32,101,108,115,101,32]++eM i (bF (s1::s2::r) (i+1)))=S from by rw[<-hS];simp[dB,iJ,bF,eE,mw,BJ,nq]);have hlen:3+(cd y).length+1+(eM i (bF body (i+1))).length+(6+(eM i (bF (s1::s2::r) (i+1))).length)=S.length:=by rw[<-HS.out];simp only[Z,ac,ae]
 clear hS;have hnl:=hRl.len;simp only[ac,ae]at hnl;have hx1:((nl:Int)==1)=false:=by rw[beq_eq_false_iff_ne];omega
 have hx2:0<nl:=by omega
 have hx3:(0:Int)<nl:=by omega
 clear hnl;have hn:=hR.len;simp only[ac,ae]at hn;obtain rfl:n=1:=hn;obtain⟨b0,o0,a0,hA0,hb0,hP0,y00,y10,y20,y30,y40,y50,hRy0⟩:=hR.at_ 0 (by simp);simp only[aB,aP,a_,br,b_]at y00 y10 y20 y30 y40 y50 hRy0;obtain⟨B0,d0,rfl,_⟩:=hRy0.form;have HY0:=G (ax y00 (ax y10 (ax y20 (ax y30 (ax y40 y50)))));have HRy0:=G hRy0;clear y00 y10 y20 y30 y40 y50 hRy0;subst hA0;have HC0:=G (show PS b w.heap.size w P #[.int .i64 4, .string (ah nm), .slice (some ⟨b0,o0,none⟩) 1 c, .slice B nb cb, .slice C nl cl] (.slice (some ⟨b0,o0,none⟩) 1 c) (.slice B nb cb) (.slice C nl cl) (.mk 4 nm [y] body (s1::s2::r)) l _ from⟨am w 72 #[.int .i64 4, .string (ah nm), .slice (some ⟨b0,o0,none⟩) 1 c, .slice B nb cb, .slice C nl cl],hB.ext (I w _),hR.keep (.of_ext (I w _)) (fun _ hb _=>hb),hRb.keep (.of_ext (I w _)) (fun _ hb _=>hb),hRl.keep (.of_ext (I w _)) (fun _ hb _=>hb),aS (I w _) (aG hB.lt),hT.fb (aS (I w _) (aG hB.lt)),bA hB.lt,by decide,hP⟩);have hbc:=HC0.out.box.cell;clear hB hR hT hRb hRl;unfold kD at hbl;unfold kD at hel;go_enter func176,ntmps176;have e0:=(HC0.out.fb.keepP hP).cell (o0) hP0 hb0|>.trans HY0.out.1;have e1:=(HC0.out.fb.keepP hP).cell (o0+1) hP0 hb0|>.trans HY0.out.2.1;have e2:=(HC0.out.fb.keepP hP).cell (o0+2) hP0 hb0|>.trans HY0.out.2.2.1;have e3:=(HC0.out.fb.keepP hP).cell (o0+3) hP0 hb0|>.trans HY0.out.2.2.2.1;have e4:=(HC0.out.fb.keepP hP).cell (o0+4) hP0 hb0|>.trans HY0.out.2.2.2.2.1;have e5:=(HC0.out.fb.keepP hP).cell (o0+5) hP0 hb0|>.trans HY0.out.2.2.2.2.2;go_wp2_with (first|(go_at_call 175;refine(ek y hy [105,102,32] [32] P _ B0 _ d0 b l (HRy0.out.keep (HC0.out.fb.keepP hP) (fun _ hb _=>hb)) hP HC0.out.tab HC0.out.bu (by(try have a1:=Hzc1.out);(try have a2:=Hzc2.out);simp only[Z,ac,ae];omega)).mono ?_;rintro e u1 ⟨rfl,h1,h2⟩;have HC1:=G (HC0.out.wr h1 h2);clear h1 h2 HC0;clear hbc;have hbc:=HC1.out.box.cell)|(go_at_call 94;refine(hbl P _ B nb cb b i (l++([105,102,32]++cd y++[32])) HC1.out.rb hP HC1.out.tab HC1.out.bu (by(try have a1:=Hzc1.out);(try have a2:=Hzc2.out);simp only[Z,ac,ae];omega)).mono ?_;rintro e u2 ⟨rfl,h1,h2⟩;have HC2:=G (HC1.out.wr h1 h2);clear h1 h2 HC1;clear hbc;have hbc:=HC2.out.box.cell)|(go_at_call 91;refine(cm b ((l++([105,102,32]++cd y++[32]))++eM i (bF body (i+1))) [32,101,108,115,101,32] _ HC2.out.bu (by(try have a1:=Hzc1.out);(try have a2:=Hzc2.out);(try simp only[Z,ac,ae]);omega)).mono ?_;rintro e u3 ⟨rfl,h1,h2⟩;have HC3:=G (HC2.out.wr h1 h2);clear h1 h2 HC2;clear hbc;have hbc:=HC3.out.box.cell)|(go_at_call 94;refine(hel P _ C nl cl b i (((l++([105,102,32]++cd y++[32]))++eM i (bF body (i+1)))++[32,101,108,115,101,32]) HC3.out.rl hP HC3.out.tab HC3.out.bu (by(try have a1:=Hzc1.out);(try have a2:=Hzc2.out);(try simp only[Z,ac,ae]);omega)).mono ?_;rintro e u4 ⟨rfl,h1,h2⟩;have HC4:=G (HC3.out.wr h1 h2);clear h1 h2 HC3));first|go_end0|((try simp only[Exit.inBlock,Exit.then]);refine bodyPost_ret (results_none rfl _ _ _) rfl ?_)
 exact⟨rfl,by rw[<-HS.out];have:=HC4.out.bu;simpa[aN]using this,HC4.out.fb⟩
theorem p' (xs:List St) (hx: ∀y,y∈xs->BN y):kD xs:=by
 intro P w B nb cb b i l hR hP hT hB hl;have hn:=hR.len;have hnb:nb<=maxLen:=by
  obtain⟨A',c',_,h|⟨h1,h2,_⟩⟩:=hR.form
  ·rw[hn,h];exact aF _
  ·omega
 unfold maxLen at hnb;have HX:=G hx;generalize hS:eM i (bF xs (i+1))=S at*;have hSe:[123,10]++(bF xs (i+1)).flatMap (fun t=>iW (i+1)++t++[10])++(iW i++[125])=S:=hS;clear hS;generalize hF:(fun t:List UInt8=>iW (i+1)++t++[10])=F at*;have HF:=G (show ∀t,F t=iW (i+1)++t++[10]from fun t=>by rw[<-hF]);have HS:=G hSe;have htl:(iW i).length=i:=by simp[iW]
 have htl1:(iW (i+1)).length=i+1:=by simp[iW]
 have hlen:2+((bF xs (i+1)).flatMap F).length+(i+1)=S.length:=by rw[<-hSe];simp only[Z,ac,ae,htl]
 have hwi:IntKind.i64.wrap ((i:Int)+1)=((i+1:Nat):Int):=by simp[IntKind.wrap,IntKind.signed,IntKind.bits];omega
 have HN:=G hn;have HTL:=G htl;have HTL1:=G htl1;clear hSe hF hx hn htl htl1;have HC0:=G (show PB b w P (.slice B nb cb) xs l w from⟨hB,hR,FB.refl _ _,hT,hP⟩);have HTI:=G (fun w=>qu i (by omega) w);have HTI1:=G (fun w=>qu (i+1) (by omega) w);clear hB hR hT;go_enter func94,ntmps94;go_wp2_with (go_at_call 91;refine(cm b l [123,10] _ HC0.out.bu (by(try have a1:=Hzc1.out);(try have a2:=Hzc2.out);(try simp only[Z,ac,ae]);omega)).mono ?_;rintro e u1 ⟨rfl,h1,h2⟩;have HC1:=G (HC0.out.wr h1 h2);clear h1 h2 HC0)
 go_loopw [14] (fun vi wr=> ∃j:Nat,vi= .int .i64 (j:Int)/\j<=nb/\Hid (PB b w P (.slice B nb cb) xs (l++[123,10]++((bF xs (i+1)).take j).flatMap F) wr)) (fun vi _=>nb-(intOf vi).toNat)
 case atStart=>exact⟨0,rfl,aF _,by simpa using HC1⟩
 case round=>
  clear HC1;obtain⟨j,rfl,hj,HCr⟩:=hrel;by_cases hlt:j<nb
  ·have hlt':(j:Int)<nb:=by omega
   have hjl:j<xs.length:=by have:=HN.out;omega
   have hsl:(bF xs (i+1)).length=xs.length:=by rw[kn];simp
   have hsj:(bF xs (i+1))[j]'(by omega)=dB xs[j] (i+1):=by simp[kn]
   have HT:=G (show((bF xs (i+1)).take (j+1)).flatMap F=((bF xs (i+1)).take j).flatMap F++(iW (i+1)++dB xs[j] (i+1)++[10])from by rw[bp (by omega),fw,hsj,<-HF.out];simp);have hbd:(((bF xs (i+1)).take (j+1)).flatMap F).length<=((bF xs (i+1)).flatMap F).length:=by
    conv=>rhs;rw[<-cG (j+1) (bF xs (i+1)),fw,Z]
    omega
   obtain⟨by0,oy,eu,ev,ez,rfl,hby,hPy,e0,e1,e2,e3,e4,hre,hrb,hrl⟩:=HCr.out.rd.at_ j hjl;have HXy:=G (HX.out _ (ap hjl));generalize xs[j]=y at*;unfold BN at HXy;obtain⟨Ey,ey,rfl,_⟩:=hre.form;obtain⟨By,by_,rfl,_⟩:=hrb.form;obtain⟨Cy,cy,rfl,_⟩:=hrl.form;have HRy:=G (ax hre (ax hrb hrl));have hsz:=HCr.out.bu.lt;have hEA:=I wr (.cells #[.int .i64 y.k, .string (ah y.nm), .slice Ey y.ex.length ey, .slice By y.body.length by_, .slice Cy y.els.length cy] 72);have HC1:=G (HCr.out.ex hEA);have HYB:=G (am wr 72 #[.int .i64 y.k, .string (ah y.nm), .slice Ey y.ex.length ey, .slice By y.body.length by_, .slice Cy y.els.length cy]);have hpy:wr.heap.size≠b:=by omega
   have HRz:=G (ax (hre.keep (.of_ext hEA) (fun _ hb _=>hb)) (ax (hrb.keep (.of_ext hEA) (fun _ hb _=>hb)) (hrl.keep (.of_ext hEA) (fun _ hb _=>hb))));generalize ((bF xs (i+1)).take j).flatMap F=J at*;generalize hJ1:((bF xs (i+1)).take (j+1)).flatMap F=J1 at*;have hJl:=congrArg List.length HT.out;simp only[Z,ac,ae,HTL1.out]at hJl;generalize iW (i+1)=T1 at*;clear hre hrb hrl hsl hsj HRy hEA;go_wp2_with fail;refine ay 6 3 [(5,fun x=>x= .string (ah T1),fun _ _=>True)] mixed (by kernel_rfl) ⟨fun _ _ _ _ _=>trivial,trivial⟩ ?_;repeat (refine sx ?_ (fun w1 hU=> ?_) ?_;rotate_left;(focus go_simp<;>with_reducible rfl);simp only[aY,aX,aW,aV,aU])
   refine so (fun w6 hU hp K hK=> ?_) ?_
   ·clear hp hU;go_simp;refine(HTI1.out w6).mono ?_;rintro e w7 ⟨rfl,hE⟩;exact hK _ _ hE rfl trivial
   rintro _ rfl;simp only[aY,aX,aW,aV,aU];repeat (refine sx ?_ (fun w1 hU=> ?_) ?_;rotate_left;(focus go_simp<;>with_reducible rfl);simp only[aY,aX,aW,aV,aU])
   intro z2 hz2 hp;clear hp;simp only[aa,an];have HC2:=G (HC1.out.ex hz2.un);have HYB2:=G (HYB.out.ext hz2.un);have HRw:=G (ax (HRz.out.1.keep (.of_ext hz2.un) (fun _ hb _=>hb)) (ax (HRz.out.2.1.keep (.of_ext hz2.un) (fun _ hb _=>hb)) (HRz.out.2.2.keep (.of_ext hz2.un) (fun _ hb _=>hb))));clear hz2 HC1;go_wp2_with (first|(go_at_call 91;refine(cm b (l++[123,10]++J) T1 _ HC2.out.bu (by have a3:=HTL1.out;(try have a1:=Hzc1.out);(try have a2:=Hzc2.out);(try simp only[Z,ac,ae]);omega)).mono ?_;rintro e u3 ⟨rfl,h1,h2⟩;have HC3:=G (HC2.out.wr h1 h2);have HYB3:=G (h2.keep _ _ _ hpy (by decide) HYB2.out);have hyc:=HYB3.out.cell;have HRv:=G (ax (HRw.out.1.keep (h2.keepP hP) (fun _ hb _=>hb)) (ax (HRw.out.2.1.keep (h2.keepP hP) (fun _ hb _=>hb)) (HRw.out.2.2.keep (h2.keepP hP) (fun _ hb _=>hb))));clear h1 h2 HC2)|(go_at_call 136;refine(HXy.out P _ Ey By Cy _ ey _ by_ _ cy b (i+1) (l++[123,10]++J++T1) HRv.out.1 HRv.out.2.1 HRv.out.2.2 hP HC3.out.tab HC3.out.bu (by have a3:=HTL1.out;(try have a1:=Hzc1.out);(try have a2:=Hzc2.out);(try simp only[Z,ac,ae]);omega)).mono ?_;rintro e u4 ⟨rfl,h1,h2⟩;have HC4:=G (HC3.out.wr h1 h2);clear h1 h2 HC3 hyc)|(go_at_call 91;refine(cm b (l++[123,10]++J++T1++dB y (i+1)) [10] _ HC4.out.bu (by have a3:=HTL1.out;(try have a1:=Hzc1.out);(try have a2:=Hzc2.out);(try simp only[Z,ac,ae]);omega)).mono ?_;rintro e u5 ⟨rfl,h1,h2⟩;have HC5:=G (HC4.out.wr h1 h2);clear h1 h2 HC4));go_roundw
   case rel=>exact⟨j+1,by go_num,by omega,by have:=HT.out;rw[hJ1,this];simpa[aN]using HC5⟩
   case measure=>simp[intOf];omega
  ·have hlt': ¬(j:Int)<nb:=by omega
   have hjn:j=nb:=by omega
   have HQ:=G (show(bF xs (i+1)).take j=bF xs (i+1)from by rw[hjn,HN.out,bC (by rw[kn];simp)]);rw[HQ.out]at HCr;generalize (bF xs (i+1)).flatMap F=J at*;clear HQ;generalize iW i=T0 at*;have htl0:=HTL.out;obtain⟨c1,Hc1⟩: ∃c,Hid (T0++[125]=c):=⟨_,G rfl⟩
   have hzc1:c1.length=T0.length+1:=by rw[<-Hc1.out,Z];rfl
   have hsc1:ah T0++(⟨#[125]⟩:ByteArray)=ah c1:=by rw[<-Hc1.out];exact dG _ _
   have hmc1: ¬9223372036854775807<T0.length+1:=by omega
   have hkc1: ¬9223372036854775807<1+T0.length:=by omega
   have hqc1T0:(ah T0).size=T0.length:=a6 _;have hqc1l:((⟨#[125]⟩:ByteArray)).size=1:=rfl;have Hzc1:=G hzc1;clear hzc1;clear htl0;go_wp2_with fail;refine ay 6 3 [(4,fun x=>x= .string (ah T0),fun _ _=>True)] mixed (by kernel_rfl) ⟨fun _ _ _ _ _=>trivial,trivial⟩ ?_;repeat (refine sx ?_ (fun w1 hU=> ?_) ?_;rotate_left;(focus go_simp<;>with_reducible rfl);simp only[aY,aX,aW,aV,aU])
   refine so (fun w6 hU hp K hK=> ?_) ?_
   ·clear hp hU;go_simp;refine(HTI.out w6).mono ?_;rintro e w7 ⟨rfl,hE⟩;exact hK _ _ hE rfl trivial
   rintro _ rfl;simp only[aY,aX,aW,aV,aU];repeat (refine sx ?_ (fun w1 hU=> ?_) ?_;rotate_left;(focus go_simp<;>with_reducible rfl);simp only[aY,aX,aW,aV,aU])
   intro z2 hz2 hp;clear hp;simp only[aa,an];have HC2:=G (HCr.out.ex hz2.un);clear hz2 HCr;go_wp2_with (go_at_call 91;refine(cm b (l++[123,10]++J) c1 _ HC2.out.bu (by have a3:=HTL.out;(try have a1:=Hzc1.out);(try have a2:=Hzc2.out);(try simp only[Z,ac,ae]);omega)).mono ?_;rintro e u3 ⟨rfl,h1,h2⟩;have HC3:=G (HC2.out.wr h1 h2);clear h1 h2 HC2)
   go_end0
   exact⟨rfl,by rw[<-HS.out];have:=HC3.out.bu;rw[<-Hc1.out]at this;simpa[aN]using this,HC3.out.fb⟩
end
section
open Go.RowKit
theorem pO: ∀(m:Nat) (x:St),x.wt<=m->x.ok=true->BN x/\(x.k=4->sO x)
 |0,x,hm,_=>absurd hm (by have:=x.wt_eq;omega)
 |m+1, .mk k nm es bd el,hm,h=>by
  have hw:=(St.mk k nm es bd el).wt_eq;simp only[St.nm,St.ex,St.body,St.els]at hw;rw[St.ok,ai,ai,ai]at h;obtain⟨⟨h1,h2⟩,h3,h4⟩:=h;rw[pU]at h2;rw[jr]at h3 h4;have he: ∀y,y∈es->mO y:=fun y hy=>y' (List.all_eq_true.1 h2 y hy);have ihB: ∀y,y∈bd->BN y:=fun y hy=>(pO m y (by have:=bQ hy;omega) (List.all_eq_true.1 h3 y hy)).1;have ihL: ∀y,y∈el->BN y/\(y.k=4->sO y):=fun y hy=>pO m y (by have:=bQ hy;omega) (List.all_eq_true.1 h4 y hy);have hbl:=p' bd ihB;have hel:=p' el (fun y hy=>(ihL y hy).1);have hc:k=4->sO (.mk k nm es bd el):=by
   rintro rfl;rw[if_neg (by decide),if_neg (by decide),if_neg (by decide),if_pos rfl]at h1;simp only[ai,beq_iff_eq]at h1;obtain⟨y,rfl⟩:=List.length_eq_one_iff.1 h1.2;have hy:=he y (by simp);intro P w A B C n c nb cb nl cl b i l hR hRb hRl hP hT hB hl
   match el,hRl,ihL,hel,hl with
   | [],hRl,ihL,hel,hl=>exact Dn nm bd y hy hbl P w A B C n c nb cb nl cl b i l hR hRb hRl hP hT hB _ rfl hl
   | [s],hRl,ihL,hel,hl=>
    by_cases hs:s.k=4
    ·exact Dm nm bd y hy hbl s hs ((ihL s (by simp)).2 hs) P w A B C n c nb cb nl cl b i l hR hRb hRl hP hT hB _ rfl hl
    ·exact Dl nm bd y hy hbl s hs hel P w A B C n c nb cb nl cl b i l hR hRb hRl hP hT hB _ rfl hl
   |s1::s2::r,hRl,ihL,hel,hl=>exact Dk nm bd y hy hbl s1 s2 r hel P w A B C n c nb cb nl cl b i l hR hRb hRl hP hT hB _ rfl hl
  refine⟨?_,hc⟩;intro P w A B C n c nb cb nl cl b i l hR hRb hRl hP hT hB hl;simp only[St.k,St.nm,St.ex,St.body,St.els]at*;by_cases k1:k=1
  ·subst k1;rw[if_pos rfl]at h1;simp only[ai,decide_eq_true_eq]at h1
   match es,he,h1,hR,hl with
   | [],he,h1,hR,hl=>exact B_ nm bd el P w A B C n c nb cb nl cl b i l hR hRb hRl hP hT hB _ rfl hl
   | [y],he,h1,hR,hl=>exact B9 nm bd el y (he y (by simp)) P w A B C n c nb cb nl cl b i l hR hRb hRl hP hT hB _ rfl hl
   |y::z::r,he,h1,hR,hl=>exact absurd h1.1.1.2 (by simp)
  rw[if_neg k1]at h1;by_cases k2:k=2
  ·subst k2;rw[if_pos rfl]at h1;simp only[ai,beq_iff_eq]at h1;obtain⟨y,rfl⟩:=List.length_eq_one_iff.1 h1.1.1.2;exact CX nm bd el y (he y (by simp)) P w A B C n c nb cb nl cl b i l hR hRb hRl hP hT hB _ rfl hl
  rw[if_neg k2]at h1;by_cases k3:k=3
  ·subst k3;rw[if_pos rfl]at h1;simp only[ai,beq_iff_eq]at h1;obtain⟨y,z,rfl⟩: ∃y z,es=[y,z]:=by
    match es,h1 with
    | [],h1=>simp at h1
    | [y],h1=>simp at h1
    | [y,z],h1=>exact⟨y,z,rfl⟩
    |y::z::u::r,h1=>simp at h1
   exact CV nm bd el y z (he y (by simp)) (he z (by simp)) P w A B C n c nb cb nl cl b i l hR hRb hRl hP hT hB _ rfl hl
  rw[if_neg k3]at h1;by_cases k4:k=4
  ·subst k4;exact CU nm bd el es (hc rfl) P w A B C n c nb cb nl cl b i l hR hRb hRl hP hT hB _ rfl hl
  rw[if_neg k4]at h1;by_cases k5:k=5
  ·subst k5;rw[if_pos rfl]at h1;simp only[ai,beq_iff_eq]at h1;obtain⟨y,rfl⟩:=List.length_eq_one_iff.1 h1.1.2;exact CT nm bd el y (he y (by simp)) hbl P w A B C n c nb cb nl cl b i l hR hRb hRl hP hT hB _ rfl hl
  rw[if_neg k5]at h1;by_cases k6:k=6
  ·subst k6;rw[if_pos rfl]at h1;simp only[ai,decide_eq_true_eq]at h1
   match es,he,h1,hR,hl with
   | [],he,h1,hR,hl=>exact B8 nm bd el P w A B C n c nb cb nl cl b i l hR hRb hRl hP hT hB _ rfl hl
   | [y],he,h1,hR,hl=>exact B7 nm bd el y (he y (by simp)) P w A B C n c nb cb nl cl b i l hR hRb hRl hP hT hB _ rfl hl
   |y::z::r,he,h1,hR,hl=>exact absurd h1.1.1.2 (by simp)
  rw[if_neg k6]at h1;by_cases k7:k=7
  ·subst k7;rw[if_pos rfl]at h1;simp only[ai,beq_iff_eq]at h1;obtain⟨y,rfl⟩:=List.length_eq_one_iff.1 h1.1.1.1.2;exact CS nm bd el y (he y (by simp)) P w A B C n c nb cb nl cl b i l hR hRb hRl hP hT hB _ rfl hl
  ·rw[if_neg k7]at h1
   cases h1
theorem za {x:St} (h:x.ok=true):BN x:=(pO _ x (ag _) h).1
theorem zb {xs:List St} (h:m7 xs=true):kD xs:=p' xs fun y hy=>za (by rw[jr]at h;exact List.all_eq_true.1 h y hy)
end
section
open Go.RowKit
theorem mg (sep:List UInt8) (l:List (List UInt8)):Lib.join l sep=dI sep l:=by
 cases l with
 |nil=>rfl
 |cons x r=>rw[Lib.join_cons];simp[Lib.joinTail,dI,List.flatMap_def]
theorem uL (A:Option Addr) (n c:Nat) (ws:List (List UInt8)) (P:Nat->Prop) (w:World) (hw:lk w P (.slice A n c) ws) (hl:(dI [44,32] ws).length<=1000000000):
  Calls prog 93 #[.slice A n c, .string ⟨#[44,32]⟩] w fun e w'=>e= .returned (.string (ah (dI [44,32] ws)))/\au w w':=by
 obtain⟨A',c',hv,h⟩:=hw;injection hv with hA hn hc;subst hA hn hc;rcases h with rfl|⟨h1,h2,b,o,rfl,hP,hb,hcell⟩
 ·refine(Tryz.strings_Join_none A c ⟨#[44,32]⟩ w).mono ?_;rintro e w' ⟨rfl,rfl⟩;exact⟨rfl,aO _⟩
 ·have hm:(ws.map ah).map (·.data.toList)=ws:=by
   rw[List.map_map];have:((fun x:ByteArray=>x.data.toList) ∘ ah)=id:=funext fun l=>gT l;rw[this,List.map_id]
  unfold maxLen at h2
  have:=Tryz.strings_Join b o c (ws.map ah) ⟨#[44,32]⟩ w (fun j x hx=>by
    rw[ij]at hx;obtain⟨y,hy,rfl⟩:=Option.map_eq_some_iff.1 hx;obtain⟨hj,rfl⟩:=List.getElem?_eq_some_iff.1 hy;exact hcell j hj) hb (by
    rw[jy]
    cases ws with
    |nil=>simp
    |cons x r=>
     have:=Lib.join_length x r [44,32];rw[mg]at this;simp only[ac,ae]at this⊢
     omega) (by simp;exact h1) (by rw[hm,show((⟨#[44,32]⟩:ByteArray).data.toList)=[44,32]from rfl,mg];omega)
  rw[hm,jy,show((⟨#[44,32]⟩:ByteArray).data.toList)=[44,32]from rfl,mg]at this;exact this
structure PQ (b px:Nat) (w0:World) (P:Nat->Prop) (vv fv:Value) (p:Pg) (l:List UInt8) (W:World):Prop where
 box:aQ W px 34 #[vv,fv]
 bu:Bu W b l
 rv:li W P vv p.vs
 rf:lW W P fv p.fs
 fb:FB b w0 W
 tab:dg W b
 ne:px≠b
 tt:34≠5
 hP: ∀k,P k->k<b
section
variable {b px:Nat} {w0 W W':World} {P:Nat->Prop} {vv fv:Value} {p:Pg} {l l':List UInt8}
theorem PQ.wr (h:PQ b px w0 P vv fv p l W) (hB:Bu W' b l') (hF:FB b W W'):PQ b px w0 P vv fv p l' W':=
 ⟨hF.keep _ _ _ h.ne h.tt h.box,hB,h.rv.keep (hF.keepP h.hP) (fun _ hb _=>hb),h.rf.keep (hF.keepP h.hP) (fun _ hb _=>hb),h.fb.trans hF,h.tab.fb hF,h.ne,h.tt,h.hP⟩
theorem PQ.ex (h:PQ b px w0 P vv fv p l W) (hE:au W W'):PQ b px w0 P vv fv p l W':=h.wr (h.bu.ext hE) (aS hE (aG h.bu.lt))
end
theorem jI {α:Type} (F:α->List UInt8) (l:List α) (j:Nat):((l.take j).flatMap F).length<=(l.flatMap F).length:=by
 conv=>rhs;rw[<-cG j l,fw,Z]
 omega
theorem ir {α:Type} (F:α->List UInt8) (l:List α) (j:Nat) (h:j<l.length):(l.take (j+1)).flatMap F=(l.take j).flatMap F++F l[j]:=by
 rw[bp h,fw];simp
theorem rX (p:Pg) (hok: ∀f,f∈p.fs->m7 f.body=true) (hsz: ∀v,v∈p.vs->v.sz<=9223372036854775807) (P:Nat->Prop) (w:World) (A B:Option Addr) (n c m d:Nat) (hV:li w P (.slice A n c) p.vs) (hF:lW w P (.slice B m d) p.fs) (hT:dg w w.heap.size) (hl:(iZ p).length<=1000000000):
  Calls prog 57 #[.agg #[.slice A n c, .slice B m d]] w fun e w'=>e= .returned (.string (ah (iZ p)))/\au w w':=by
 have hnv:n=p.vs.length/\n<=maxLen:=by
  obtain⟨A',c',hv,h⟩:=hV;injection hv with _ hn _;refine⟨hn,?_⟩;rcases h with h|⟨h1,h2,_⟩
  ·rw[hn,h];exact aF _
  ·omega
 have hnf:m=p.fs.length/\m<=maxLen:=by
  obtain⟨A',c',hv,h⟩:=hF;injection hv with _ hn _;refine⟨hn,?_⟩;rcases h with h|⟨h1,h2,_⟩
  ·rw[hn,h];exact aF _
  ·omega
 obtain⟨hnv,hnm⟩:=hnv;obtain⟨hnf,hnn⟩:=hnf;unfold maxLen at hnm hnn;have HNV:=G hnv;have HNF:=G hnf;have HSZ:=G hsz;have HOK:=G hok;have HS:=G (show p.vs.flatMap j3++p.fs.flatMap j4=iZ p from rfl);have hlen:(p.vs.flatMap j3).length+(p.fs.flatMap j4).length=(iZ p).length:=by rw[<-HS.out,Z]
 generalize iZ p=S at*;have hE1:=I w (.cells #[.slice A n c, .slice B m d] 34);have hE2:=hE1.trans (I (w.alloc (.cells #[.slice A n c, .slice B m d] 34)) (.cells #[.pointer none, .slice none 0 0] 195));have hs1:(w.alloc (.cells #[.slice A n c, .slice B m d] 34)).heap.size=w.heap.size+1:=Array.size_push _;have hKx:cw P w ((w.alloc (.cells #[.slice A n c, .slice B m d] 34)).alloc (.cells #[.pointer none, .slice none 0 0] 195)):= .of_ext hE2;obtain⟨w0,hw0⟩: ∃W,W=((w.alloc (.cells #[.slice A n c, .slice B m d] 34)).alloc (.cells #[.pointer none, .slice none 0 0] 195)):=⟨_,rfl⟩
 have HE2:=G (show au w w0 from hw0▸hE2)
 have HC0:=G (show PQ (w.heap.size+1) w.heap.size w0 (fun k=>k<w.heap.size) (.slice A n c) (.slice B m d) p [] ((w.alloc (.cells #[.slice A n c, .slice B m d] 34)).alloc (.cells #[.pointer none, .slice none 0 0] 195))from
  ⟨(am w _ _).ext (I _ _),hs1▸Bu.new _,hV.keep hKx (fun _ _ h=>h),hF.keep hKx (fun _ _ h=>h),hw0▸FB.refl _ _,⟨((hT.fb (aS hE2 (ag _)))).1,Nat.lt_succ_of_lt hT.2⟩,lm (Nat.lt_succ_self _),by decide,fun k h=>Nat.lt_succ_of_lt h⟩)
 clear hV hF hT hE1 hE2 hKx hnv hnf hsz hok hw0;generalize hb:w.heap.size+1=b at*;have HXB:=G (show w.heap.size<=b/\True from⟨by omega,trivial⟩);generalize hpx:w.heap.size=px at*;have hbc:=HC0.out.box.cell;go_enter func57,ntmps57;go_wp2_with fail
 go_loopw [11] (fun vi wr=> ∃j:Nat,vi= .int .i64 (j:Int)/\j<=n/\Hid (PQ b px w0 (fun k=>k<px) (.slice A n c) (.slice B m d) p ((p.vs.take j).flatMap j3) wr)) (fun vi _=>n-(intOf vi).toNat)
 case atStart=>exact⟨0,rfl,aF _,HC0⟩
 case round=>
  clear HC0 hbc;obtain⟨j,rfl,hj,HCr⟩:=hrel;by_cases hlt:j<n
  ·have hlt':(j:Int)<n:=by omega
   have hjl:j<p.vs.length:=by have:=HNV.out;omega
   obtain⟨A',c',hv,hh⟩:=HCr.out.rv;injection hv with hA hn' hc';rcases hh with hh|⟨h1,h2,b9,o9,hA2,hP9,hb9,hcl⟩
   ·rw[hh]at hjl;simp at hjl
   obtain⟨e0,e1⟩:=hcl j hjl;have hA3:A=some ⟨b9,o9,none⟩:=hA.trans hA2;subst hA3;clear hcl hA hA2 hn' hc' h1 h2 hP9;have hvz:=HSZ.out _ (ap hjl);have HT:=G (ir j3 p.vs j hjl);have hbd:=jI j3 p.vs (j+1);have HSV:=G (show j3 p.vs[j]=[118,97,114,32]++p.vs[j].nm++(if 0<p.vs[j].sz then[91]++gh p.vs[j].sz.toNat++[93]else[])++[59,10]from rfl);generalize j3 p.vs[j]=SVj at*;generalize p.vs[j].nm=vn at*;generalize p.vs[j].sz=vz at*;generalize (p.vs.take j).flatMap j3=J at*;generalize hJ1:(p.vs.take (j+1)).flatMap j3=J1 at*;have hJl:=congrArg List.length HT.out;simp only[Z]at hJl;have hsz:=HCr.out.bu.lt;have hEA:=I wr (.cells #[.string (ah vn), .int .i64 vz] 85);have HC1:=G (HCr.out.ex hEA);have HYB:=G (am wr 85 #[.string (ah vn), .int .i64 vz]);have hyc:=HYB.out.cell;have hpy:wr.heap.size≠b:=by omega
   clear hEA;by_cases hz:0<vz
   ·have hSl:=congrArg List.length HSV.out;rw[if_pos hz]at HSV hSl;have HIt:=G (fun w h=>qS vz (by omega) hvz w b h);generalize gh vz.toNat=D at*;simp only[Z,ac,ae]at hSl;have HLL:=G (show J.length+(4+vn.length+(1+D.length+1)+2)<=1000000000 from by omega);obtain⟨c1,Hc1⟩: ∃c,Hid ([118,97,114,32]++vn=c):=⟨_,G rfl⟩
    have hzc1:c1.length=4+vn.length:=by rw[<-Hc1.out,Z];(try rfl)
    have hsc1:(⟨#[118,97,114,32]⟩:ByteArray)++ah vn=ah c1:=by rw[<-Hc1.out];exact dG _ _
    have hmc1: ¬9223372036854775807<4+vn.length:=by omega
    have hkc1: ¬9223372036854775807<vn.length+4:=by omega
    have hqc1l:((⟨#[118,97,114,32]⟩:ByteArray)).size=4:=rfl;have hqc1vn:(ah vn).size=vn.length:=a6 _;obtain⟨c2,Hc2⟩: ∃c,Hid ([91]++D=c):=⟨_,G rfl⟩
    have hzc2:c2.length=1+D.length:=by rw[<-Hc2.out,Z];(try rfl)
    have hsc2:(⟨#[91]⟩:ByteArray)++ah D=ah c2:=by rw[<-Hc2.out];exact dG _ _
    have hmc2: ¬9223372036854775807<1+D.length:=by omega
    have hkc2: ¬9223372036854775807<D.length+1:=by omega
    have hqc2l:((⟨#[91]⟩:ByteArray)).size=1:=rfl;have hqc2D:(ah D).size=D.length:=a6 _;obtain⟨c3,Hc3⟩: ∃c,Hid (c2++[93]=c):=⟨_,G rfl⟩
    have hzc3:c3.length=c2.length+1:=by rw[<-Hc3.out,Z];(try rfl)
    have hsc3:ah c2++(⟨#[93]⟩:ByteArray)=ah c3:=by rw[<-Hc3.out];exact dG _ _
    have hmc3: ¬9223372036854775807<c2.length+1:=by omega
    have hkc3: ¬9223372036854775807<1+c2.length:=by omega
    have hqc3c2:(ah c2).size=c2.length:=a6 _;have hqc3l:((⟨#[93]⟩:ByteArray)).size=1:=rfl;have Hzc1:=G hzc1;clear hzc1;have Hzc2:=G hzc2;clear hzc2;have Hzc3:=G hzc3;clear hzc3;clear hSl hJl;go_wp2_with (first|(go_at_call 91;refine(cm b J c1 _ HC1.out.bu (by have a1:=Hzc1.out;have a2:=HLL.out;omega)).mono ?_;rintro e u2 ⟨rfl,h1,h2⟩;have HC2:=G (HC1.out.wr h1 h2);have HYB2:=G (h2.keep _ _ _ hpy (by decide) HYB.out);clear hyc;have hyc:=HYB2.out.cell;clear h1 h2 HC1)|(go_at_call 92;refine(HIt.out _ HC2.out.tab).mono ?_;rintro e u3 ⟨rfl,hE⟩;have HC3:=G (HC2.out.ex hE);clear hE hyc HC2)|(go_at_call 91;refine(cm b (J++c1) c3 _ HC3.out.bu (by have a1:=Hzc1.out;have a2:=Hzc2.out;have a3:=Hzc3.out;have a4:=HLL.out;simp only[Z];omega)).mono ?_;rintro e u4 ⟨rfl,h1,h2⟩;have HC4:=G (HC3.out.wr h1 h2);clear h1 h2 HC3)|(go_at_call 91;refine(cm b (J++c1++c3) [59,10] _ HC4.out.bu (by have a1:=Hzc1.out;have a2:=Hzc2.out;have a3:=Hzc3.out;have a4:=HLL.out;simp only[Z,ac,ae];omega)).mono ?_;rintro e u5 ⟨rfl,h1,h2⟩;have HC5:=G (HC4.out.wr h1 h2);clear h1 h2 HC4));go_roundw
    case rel=>exact⟨j+1,by go_num,by omega,by have h9:=HT.out;have h8:=HSV.out;rw[hJ1,h9,h8,Hc1.out,Hc2.out,Hc3.out];simpa[aN]using HC5⟩
    case measure=>simp[intOf];omega
   ·have hSl:=congrArg List.length HSV.out;rw[if_neg hz]at HSV hSl;simp only[Z,ac,ae]at hSl;have HLL:=G (show J.length+(4+vn.length+2)<=1000000000 from by omega);obtain⟨c1,Hc1⟩: ∃c,Hid ([118,97,114,32]++vn=c):=⟨_,G rfl⟩
    have hzc1:c1.length=4+vn.length:=by rw[<-Hc1.out,Z];(try rfl)
    have hsc1:(⟨#[118,97,114,32]⟩:ByteArray)++ah vn=ah c1:=by rw[<-Hc1.out];exact dG _ _
    have hmc1: ¬9223372036854775807<4+vn.length:=by omega
    have hkc1: ¬9223372036854775807<vn.length+4:=by omega
    have hqc1l:((⟨#[118,97,114,32]⟩:ByteArray)).size=4:=rfl;have hqc1vn:(ah vn).size=vn.length:=a6 _;have Hzc1:=G hzc1;clear hzc1;clear hSl hJl;go_wp2_with (first|(go_at_call 91;refine(cm b J c1 _ HC1.out.bu (by have a1:=Hzc1.out;have a2:=HLL.out;omega)).mono ?_;rintro e u2 ⟨rfl,h1,h2⟩;have HC2:=G (HC1.out.wr h1 h2);have HYB2:=G (h2.keep _ _ _ hpy (by decide) HYB.out);clear hyc;have hyc:=HYB2.out.cell;clear h1 h2 HC1)|(go_at_call 91;refine(cm b (J++c1) [59,10] _ HC2.out.bu (by have a1:=Hzc1.out;have a4:=HLL.out;simp only[Z,ac,ae];omega)).mono ?_;rintro e u5 ⟨rfl,h1,h2⟩;have HC5:=G (HC2.out.wr h1 h2);clear h1 h2 HC2));go_roundw
    case rel=>exact⟨j+1,by go_num,by omega,by have h9:=HT.out;have h8:=HSV.out;rw[hJ1,h9,h8,Hc1.out];simpa[aN]using HC5⟩
    case measure=>simp[intOf];omega
  ·have hlt': ¬(j:Int)<n:=by omega
   have hjn:j=n:=by omega
   have HQ:=G (show p.vs.take j=p.vs from by rw[hjn,HNV.out,bD]);rw[HQ.out]at HCr;clear HQ;have hbc:=HCr.out.box.cell;go_wp2_with fail;clear hlt hlt' hjn hj;generalize hV0:p.vs.flatMap j3=V0 at*
   go_loopw [36] (fun vi wr=> ∃j:Nat,vi= .int .i64 (j:Int)/\j<=m/\Hid (PQ b px w0 (fun k=>k<px) (.slice A n c) (.slice B m d) p (V0++(p.fs.take j).flatMap j4) wr)) (fun vi _=>m-(intOf vi).toNat)
   case atStart=>exact⟨0,rfl,aF _,by simpa using HCr⟩
   case round=>
    clear HCr hbc;rename_i wx;obtain⟨j,rfl,hj,HCr⟩:=hrel;by_cases hlt:j<m
    ·have hlt':(j:Int)<m:=by omega
     have hjl:j<p.fs.length:=by have:=HNF.out;omega
     obtain⟨A',c',hv,hh⟩:=HCr.out.rf;injection hv with hA hn' hc';rcases hh with hh|⟨h1,h2,b9,o9,hA2,hP9,hb9,pv,bv,hcl⟩
     ·rw[hh]at hjl;simp at hjl
     obtain⟨e0,e1,e2,hrn,hrs⟩:=hcl j hjl;have hA3:B=some ⟨b9,o9,none⟩:=hA.trans hA2;subst hA3;clear hcl hA hA2 hn' hc' h1 h2 hP9;have hob:=HOK.out _ (ap hjl);have HT:=G (ir j4 p.fs j hjl);have hbd:=jI j4 p.fs (j+1);have HSV:=G (show j4 p.fs[j]=[102,117,110,99,32]++p.fs[j].nm++[40]++dI [44,32] p.fs[j].ps++[41,32]++eM 0 (bF p.fs[j].body 1)++[10]from rfl);generalize j4 p.fs[j]=SVj at*;generalize p.fs[j].nm=fn at*;generalize p.fs[j].ps=fps at*;generalize p.fs[j].body=fb at*;generalize pv j=pvj at*;generalize bv j=bvj at*
     have HBk:=G (show ∀(P:Nat->Prop) (w:World) (B:Option Addr) (nb cb b:Nat) (l:List UInt8),cK w P (.slice B nb cb) fb->(∀k,P k->k<b)->dg w b->Bu w b l->l.length+(eM 0 (bF fb 1)).length<=1000000000->
      Calls prog 94 #[.pointer (some ⟨b,0,none⟩), .slice B nb cb, .int .i64 0] w (fun e w'=>e= .returned (.tuple #[])/\Bu w' b (l++eM 0 (bF fb 1))/\FB b w w')from fun P w B nb cb b l=>zb hob P w B nb cb b 0 l)
     generalize hJ0:(p.fs.take j).flatMap j4=J0 at*;generalize hJ:V0++J0=J at*;have hJJ:=congrArg List.length hJ;generalize hJ1:(p.fs.take (j+1)).flatMap j4=J1 at*;have hJl:=congrArg List.length HT.out;simp only[Z]at hJl hJJ;obtain⟨Ap,cp,rfl,_⟩:=id hrn;obtain⟨Ab,cbb,rfl,_⟩:=hrs.form;have hsz:=HCr.out.bu.lt;have hEA:=I wr (.cells #[.string (ah fn), .slice Ap fps.length cp, .slice Ab fb.length cbb] 59);have HC1:=G (HCr.out.ex hEA);have HYB:=G (am wr 59 #[.string (ah fn), .slice Ap fps.length cp, .slice Ab fb.length cbb]);have HRn:=G (hrn.keep (.of_ext hEA) (fun _ hb _=>hb));have HRs:=G (hrs.keep (.of_ext hEA) (fun _ hb _=>hb));have hpy:wr.heap.size≠b:=by omega
     have hSl:=congrArg List.length HSV.out;have HBD:=G (show ∀(k:Nat),k<px->k<b from HCr.out.hP);generalize hJs:dI [44,32] fps=Js at*;simp only[Z,ac,ae]at hSl;have HLL:=G (show J.length+(5+fn.length+1+Js.length+2+(eM 0 (bF fb 1)).length+1)<=1000000000 from by omega);obtain⟨c1,Hc1⟩: ∃c,Hid ([102,117,110,99,32]++fn=c):=⟨_,G rfl⟩
     have hzc1:c1.length=5+fn.length:=by rw[<-Hc1.out,Z];(try rfl)
     have hsc1:(⟨#[102,117,110,99,32]⟩:ByteArray)++ah fn=ah c1:=by rw[<-Hc1.out];exact dG _ _
     have hmc1: ¬9223372036854775807<5+fn.length:=by omega
     have hkc1: ¬9223372036854775807<fn.length+5:=by omega
     have hqc1l:((⟨#[102,117,110,99,32]⟩:ByteArray)).size=5:=rfl;have hqc1fn:(ah fn).size=fn.length:=a6 _;obtain⟨c2,Hc2⟩: ∃c,Hid (c1++[40]=c):=⟨_,G rfl⟩
     have hzc2:c2.length=c1.length+1:=by rw[<-Hc2.out,Z];(try rfl)
     have hsc2:ah c1++(⟨#[40]⟩:ByteArray)=ah c2:=by rw[<-Hc2.out];exact dG _ _
     have hmc2: ¬9223372036854775807<c1.length+1:=by omega
     have hkc2: ¬9223372036854775807<1+c1.length:=by omega
     have hqc2c1:(ah c1).size=c1.length:=a6 _;have hqc2l:((⟨#[40]⟩:ByteArray)).size=1:=rfl;obtain⟨c3,Hc3⟩: ∃c,Hid (c2++Js=c):=⟨_,G rfl⟩
     have hzc3:c3.length=c2.length+Js.length:=by rw[<-Hc3.out,Z];(try rfl)
     have hsc3:ah c2++ah Js=ah c3:=by rw[<-Hc3.out];exact dG _ _
     have hmc3: ¬9223372036854775807<c2.length+Js.length:=by omega
     have hkc3: ¬9223372036854775807<Js.length+c2.length:=by omega
     have hqc3c2:(ah c2).size=c2.length:=a6 _;have hqc3Js:(ah Js).size=Js.length:=a6 _;obtain⟨c4,Hc4⟩: ∃c,Hid (c3++[41,32]=c):=⟨_,G rfl⟩
     have hzc4:c4.length=c3.length+2:=by rw[<-Hc4.out,Z];(try rfl)
     have hsc4:ah c3++(⟨#[41,32]⟩:ByteArray)=ah c4:=by rw[<-Hc4.out];exact dG _ _
     have hmc4: ¬9223372036854775807<c3.length+2:=by omega
     have hkc4: ¬9223372036854775807<2+c3.length:=by omega
     have hqc4c3:(ah c3).size=c3.length:=a6 _;have hqc4l:((⟨#[41,32]⟩:ByteArray)).size=2:=rfl;have Hzc1:=G hzc1;clear hzc1;have Hzc2:=G hzc2;clear hzc2;have Hzc3:=G hzc3;clear hzc3;have Hzc4:=G hzc4;clear hzc4;have HJs:=G (fun W (h:lk W (fun k=>k<px) (.slice Ap fps.length cp) fps)=>uL Ap fps.length cp fps (fun k=>k<px) W h (by have a1:=HLL.out;rw[hJs];omega));rw[hJs]at HJs;clear hSl hJl hEA hrn hrs hJs hbd hJJ hob;go_wp2_with fail;have hbw:=aG HC1.out.bu.lt;refine gJ b 11 8 [(7,fun x=>x= .string (ah Js),fun _ _=>True),(10,fun x=>x= .tuple #[.int .i64 c4.length, .nilIface],fun _ wx=>Bu wx b (J++c4))] 10 mixed (by kernel_rfl) hbw ⟨fun _ _ _ _ _=>trivial,fun _ _ _ h hx=>h.ext hx,trivial⟩ ⟨.inr fun _ _ _ _ _=>trivial, .inl rfl,trivial⟩ ?_;repeat (refine sx ?_ (fun w1 hU=> ?_) ?_;rotate_left;(focus have hF:=lK (hU hbw);have f1:=(hF.keep _ _ _ hpy (by decide) HYB.out).cell;clear hF hU;go_simp<;>with_reducible rfl);simp only[aY,aX,aW,aV,aU])
     refine so (fun w6 hU hp K hK=> ?_) ?_
     ·have hR6:=HRn.out.keep ((lK (hU hbw)).keepP HBD.out) (fun _ hb _=>hb);clear hp hU;go_simp;refine(HJs.out w6 hR6).mono ?_;rintro e w7 ⟨rfl,hE⟩;exact hK _ _ hE rfl trivial
     rintro _ rfl;simp only[aY,aX,aW,aV,aU];repeat (refine sx ?_ (fun w1 hU=> ?_) ?_;rotate_left;(focus have hF:=lK (hU hbw);have f1:=(hF.keep _ _ _ hpy (by decide) HYB.out).cell;clear hF hU;go_simp<;>with_reducible rfl);simp only[aY,aX,aW,aV,aU])
     refine bG _ _ (by rfl) rfl ⟨_,rfl⟩ rfl (fun w6 hT hp K hK=> ?_) ?_
     ·have HC6:=G (HC1.out.ex hT.un);clear hp hT;go_simp;refine(cm b J c4 w6 HC6.out.bu (by have a1:=Hzc1.out;have a2:=Hzc2.out;have a3:=Hzc3.out;have a4:=Hzc4.out;have a5:=HLL.out;omega)).mono ?_;rintro e w7 ⟨rfl,h1,h2⟩;exact hK _ _ (fun _=>h2) rfl h1
     rintro _ rfl;simp only[aY,aX,aW,aV,aU];intro v3 hv3 hp;have HC3:=G (HC1.out.wr (hp _ (.head _)) hv3);have HYB3:=G (hv3.keep _ _ _ hpy (by decide) HYB.out);have hyc:=HYB3.out.cell;have HRv:=G (HRs.out.keep (hv3.keepP HBD.out) (fun _ hb _=>hb));clear hv3 hp HC1;simp only[aa,aJ];go_wp2_with (first|(go_at_call 94;refine(HBk.out (fun k=>k<px) _ Ab _ cbb b (J++c4) HRv.out HBD.out HC3.out.tab HC3.out.bu (by have a1:=Hzc1.out;have a2:=Hzc2.out;have a3:=Hzc3.out;have a4:=Hzc4.out;have a5:=HLL.out;simp only[Z];omega)).mono ?_;rintro e u4 ⟨rfl,h1,h2⟩;have HC4:=G (HC3.out.wr h1 h2);clear h1 h2 HC3 hyc)|(go_at_call 91;refine(cm b (J++c4++eM 0 (bF fb 1)) [10] _ HC4.out.bu (by have a1:=Hzc1.out;have a2:=Hzc2.out;have a3:=Hzc3.out;have a4:=Hzc4.out;have a5:=HLL.out;simp only[Z,ac,ae];omega)).mono ?_;rintro e u5 ⟨rfl,h1,h2⟩;have HC5:=G (HC4.out.wr h1 h2);clear h1 h2 HC4));go_roundw
     case rel=>exact⟨j+1,by go_num,by omega,by have h9:=HT.out;have h8:=HSV.out;rw[hJ1,h9,h8,Hc1.out,Hc2.out,Hc3.out,Hc4.out,<-aN,hJ];simpa[aN]using HC5⟩
     case measure=>simp[intOf];omega
    ·have hlt': ¬(j:Int)<m:=by omega
     have hjn:j=m:=by omega
     have HQ:=G (show p.fs.take j=p.fs from by rw[hjn,HNF.out,bD]);rw[HQ.out,HS.out]at HCr;go_wp2_with (go_at_call 95;refine(wL b S _ HCr.out.bu (by omega)).mono ?_;rintro e u9 ⟨rfl,hB9⟩;have HB9:=G hB9;clear hB9);go_ret;exact⟨rfl,show Below w.heap.size w _ from Below.trans HE2.out (Below.mono (Below.trans HCr.out.fb.below HB9.out) (by have:=HXB.out.1;omega))⟩
end
section
open Go.RowKit
theorem rI (l:List UInt8) (hl:l.length<=1073741824) (w:World):Calls prog 68 #[.string (ah l)] w fun e w'=>e= .returned (.bool (!dx l))/\au w w':=by
 have HI:=G (cP l hl);generalize dx l=r at*;go_enter func68,ntmps68;go_wp2_with (go_at_call 66;refine(HI.out _).mono ?_;rintro e w1 ⟨rfl,rfl⟩);go_ret;exact⟨rfl,aO _⟩
def pQ (v:Vr):Bool:=dx v.nm&&decide (0<=v.sz)&&decide (v.sz<=2000)
def nJ (f:Fc):Bool:=dx f.nm&&decide (f.ps.length<=4)&&f.ps.all dx&&f.body.all (fun s=>decide (s.dep<=20)&&s.ok)
def gD (p:Pg):Bool:=p.vs.all pQ&&p.fs.all nJ&&decide (p.vs.length<=20)&&decide (p.fs.length<=20)&&decide ((iZ p).length<=4000)
theorem nI {f:Fc} (h:nJ f=true):m7 f.body=true:=by
 unfold nJ at h;simp only[ai,bY,decide_eq_true_eq]at h;rw[jr,bY];exact fun s hs=>(h.2 s hs).2
end
end Go.Proofs.YtddomeddabfinaaGreatDoor
