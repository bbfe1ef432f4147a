/-
  Parts of the proof: PrE PrF PrG VaI PlS VaJ PaP TyS TyL TyV TyY TyA.
-/
import Derived.Test.YtoedmpgicdekmaaGreatDoorCq12
import Derived.Test.YtoedmpgicdekmaaGreatDoorCq13
import Derived.Test.YtoedmpgicdekmaaGreatDoorCq00
import Derived.BigQuiet
import Derived.Test.YtoedmpgicdekmaaGreatDoorCq02
set_option maxRecDepth 100000
set_option maxHeartbeats 8000000
set_option linter.unusedVariables false
set_option linter.unusedSimpArgs false
set_option linter.unusedSectionVars false
namespace Go.Proofs.YtoedmpgicdekmaaGreatDoor
open Go.Proofs.Tryz
section
open Go.RowKit
theorem rL (i:Nat) (h:i<=1000000000) (w:World):Calls prog 173 #[.string ⟨#[9]⟩, .int .i64 (i:Int)] w fun e w'=>e= .returned (.string (an (jR i)))/\au w w':=by
 refine(Tryz.strings_Repeat ⟨#[9]⟩ i w (by omega) (by show 1*i<=_;omega)).mono ?_;rintro e w' ⟨rfl,h⟩;refine⟨?_,h⟩;have:=Lib.repeatL_replicate 9 1 i;rw[jY]at this;rw[show((⟨#[9]⟩:ByteArray).data.toList)=List.replicate 1 9 from rfl,this];rfl
structure PB (b:Nat) (w0:World) (P:Nat->Prop) (v:Value) (xs:List St) (l:List UInt8) (W:World):Prop where
 bu:Bu W b l
 rd:dS W P v xs
 fb:FB b w0 W
 tab:dK W b
 hP: ∀k,P k->k<b
section
variable {b:Nat} {w0 W W':World} {P:Nat->Prop} {v:Value} {xs:List St} {l l':List UInt8}
theorem PB.wr (h:PB b w0 P v xs l W) (hB:Bu W' b l') (hF:FB b W W'):PB b w0 P v xs l' W':=⟨hB,h.rd.keep (hF.keepP h.hP) (fun _ hb _=>hb),h.fb.trans hF,h.tab.fb hF,h.hP⟩
theorem PB.ex (h:PB b w0 P v xs l W) (hE:au W W'):PB b w0 P v xs l W':=h.wr (h.bu.ext hE) (aQ hE (aF h.bu.lt))
end
theorem Gt (nm:List UInt8) (body:List St) (y:Ex) (hy:nf y) (hbl:kR body) (P:Nat->Prop) (w:World) (A B C:Option Addr) (n c nb cb nl cl b i:Nat) (l:List UInt8) (hR:et w P (.slice A n c) [y]) (hRb:dS w P (.slice B nb cb) body) (hRl:dS w P (.slice C nl cl) []) (hP: ∀k,P k->k<b) (hT:dK w b) (hB:Bu w b l) (S:List UInt8) (hS:d6 (.mk 4 nm [y] body []) i=S) (hl:l.length+S.length<=1000000000):
  Calls prog 217 #[.pointer (some ⟨b,0,none⟩), .agg #[.int .i64 4, .string (an nm), .slice A n c, .slice B nb cb, .slice C nl cl], .int .i64 (i:Int)] w fun e w'=>e= .returned (.tuple #[])/\Bu w' b (l++S)/\FB b w w':=by
 have HS:=G (show[105,102,32]++cL y++[32]++fq i (bW body (i+1))++[]=S from by rw[<-hS];simp[d6,ke,bW,eS,mI,D9,nO]);have hlen:3+(cL y).length+1+(fq i (bW body (i+1))).length+0=S.length:=by rw[<-HS.out];simp only[ab,ae,ag]
 clear hS;have hnl:=hRl.len;simp only[ae,ag]at hnl;obtain rfl:nl=0:=hnl;have hn:=hR.len;simp only[ae,ag]at hn;obtain rfl:n=1:=hn;obtain⟨b0,o0,a0,hA0,hb0,hP0,y00,y10,y20,y30,y40,y50,hRy0⟩:=hR.at_ 0 (by simp);simp only[aE,aL,aV,a7,cD]at y00 y10 y20 y30 y40 y50 hRy0;obtain⟨B0,d0,rfl,_⟩:=hRy0.form;have HY0:=G (aB y00 (aB y10 (aB y20 (aB y30 (aB y40 y50)))));have HRy0:=G hRy0;clear y00 y10 y20 y30 y40 y50 hRy0;subst hA0;have HC0:=G (show PS b w.heap.size w P #[.int .i64 4, .string (an nm), .slice (some ⟨b0,o0,none⟩) 1 c, .slice B nb cb, .slice C 0 cl] (.slice (some ⟨b0,o0,none⟩) 1 c) (.slice B nb cb) (.slice C 0 cl) (.mk 4 nm [y] body []) l _ from⟨aw w 147 #[.int .i64 4, .string (an nm), .slice (some ⟨b0,o0,none⟩) 1 c, .slice B nb cb, .slice C 0 cl],hB.ext (aa w _),hR.keep (.of_ext (aa w _)) (fun _ hb _=>hb),hRb.keep (.of_ext (aa w _)) (fun _ hb _=>hb),hRl.keep (.of_ext (aa w _)) (fun _ hb _=>hb),aQ (aa w _) (aF hB.lt),hT.fb (aQ (aa w _) (aF hB.lt)),bO hB.lt,by decide,hP⟩);have hbc:=HC0.out.box.cell;clear hB hR hT hRb hRl;unfold kR at hbl;go_enter func217,ntmps217;have e0:=(HC0.out.fb.keepP hP).cell (o0) hP0 hb0|>.trans HY0.out.1;have e1:=(HC0.out.fb.keepP hP).cell (o0+1) hP0 hb0|>.trans HY0.out.2.1;have e2:=(HC0.out.fb.keepP hP).cell (o0+2) hP0 hb0|>.trans HY0.out.2.2.1;have e3:=(HC0.out.fb.keepP hP).cell (o0+3) hP0 hb0|>.trans HY0.out.2.2.2.1;have e4:=(HC0.out.fb.keepP hP).cell (o0+4) hP0 hb0|>.trans HY0.out.2.2.2.2.1;have e5:=(HC0.out.fb.keepP hP).cell (o0+5) hP0 hb0|>.trans HY0.out.2.2.2.2.2;go_wp2_with (first|(go_at_call 216;refine(eB y hy [105,102,32] [32] P _ B0 _ d0 b l (HRy0.out.keep (HC0.out.fb.keepP hP) (fun _ hb _=>hb)) hP HC0.out.tab HC0.out.bu (by(try have a1:=Hzc1.out);(try have a2:=Hzc2.out);simp only[ab,ae,ag];omega)).mono ?_;rintro e u1 ⟨rfl,h1,h2⟩;have HC1:=G (HC0.out.wr h1 h2);clear h1 h2 HC0;clear hbc;have hbc:=HC1.out.box.cell)|(go_at_call 121;refine(hbl P _ B nb cb b i (l++([105,102,32]++cL y++[32])) HC1.out.rb hP HC1.out.tab HC1.out.bu (by(try have a1:=Hzc1.out);(try have a2:=Hzc2.out);simp only[ab,ae,ag];omega)).mono ?_;rintro e u2 ⟨rfl,h1,h2⟩;have HC2:=G (HC1.out.wr h1 h2);clear h1 h2 HC1;clear hbc;have hbc:=HC2.out.box.cell));first|go_end0|((try simp only[Exit.inBlock,Exit.then]);refine bodyPost_ret (results_none rfl _ _ _) rfl ?_)
 exact⟨rfl,by rw[<-HS.out];have:=HC2.out.bu;simpa[aJ]using this,HC2.out.fb⟩
theorem Gs (nm:List UInt8) (body:List St) (y:Ex) (hy:nf y) (hbl:kR body) (s:St) (hk:s.k=4) (hch:uF s) (P:Nat->Prop) (w:World) (A B C:Option Addr) (n c nb cb nl cl b i:Nat) (l:List UInt8) (hR:et w P (.slice A n c) [y]) (hRb:dS w P (.slice B nb cb) body) (hRl:dS w P (.slice C nl cl) [s]) (hP: ∀k,P k->k<b) (hT:dK w b) (hB:Bu w b l) (S:List UInt8) (hS:d6 (.mk 4 nm [y] body [s]) i=S) (hl:l.length+S.length<=1000000000):
  Calls prog 217 #[.pointer (some ⟨b,0,none⟩), .agg #[.int .i64 4, .string (an nm), .slice A n c, .slice B nb cb, .slice C nl cl], .int .i64 (i:Int)] w fun e w'=>e= .returned (.tuple #[])/\Bu w' b (l++S)/\FB b w w':=by
 have HS:=G (show[105,102,32]++cL y++[32]++fq i (bW body (i+1))++([32,101,108,115,101,32]++d6 s i)=S from by rw[<-hS];simp[d6,ke,bW,eS,mI,D9,nO,hk]);have hlen:3+(cL y).length+1+(fq i (bW body (i+1))).length+(6+(d6 s i).length)=S.length:=by rw[<-HS.out];simp only[ab,ae,ag]
 clear hS;have hnl:=hRl.len;simp only[ae,ag]at hnl;obtain rfl:nl=1:=hnl;obtain⟨bs,os,su,sv,sz,hCs,hbs,hPs,q0,q1,q2,q3,q4,hse,hsb,hsl⟩:=hRl.at_ 0 (by simp);simp only[aE,aV,a7]at q0 q1 q2 q3 q4 hse hsb hsl;obtain⟨E2,ce2,rfl,_⟩:=hse.form;obtain⟨B2,cb2,rfl,_⟩:=hsb.form;obtain⟨C2,cl2,rfl,_⟩:=hsl.form;subst hCs;have HQ:=G (aB q0 (aB q1 (aB q2 (aB q3 q4))));have HQr:=G (aB hse (aB hsb hsl));clear q0 q1 q2 q3 q4 hse hsb hsl;have hn:=hR.len;simp only[ae,ag]at hn;obtain rfl:n=1:=hn;obtain⟨b0,o0,a0,hA0,hb0,hP0,y00,y10,y20,y30,y40,y50,hRy0⟩:=hR.at_ 0 (by simp);simp only[aE,aL,aV,a7,cD]at y00 y10 y20 y30 y40 y50 hRy0;obtain⟨B0,d0,rfl,_⟩:=hRy0.form;have HY0:=G (aB y00 (aB y10 (aB y20 (aB y30 (aB y40 y50)))));have HRy0:=G hRy0;clear y00 y10 y20 y30 y40 y50 hRy0;subst hA0;have HC0:=G (show PS b w.heap.size w P #[.int .i64 4, .string (an nm), .slice (some ⟨b0,o0,none⟩) 1 c, .slice B nb cb, .slice (some ⟨bs,os,none⟩) 1 cl] (.slice (some ⟨b0,o0,none⟩) 1 c) (.slice B nb cb) (.slice (some ⟨bs,os,none⟩) 1 cl) (.mk 4 nm [y] body [s]) l _ from⟨aw w 147 #[.int .i64 4, .string (an nm), .slice (some ⟨b0,o0,none⟩) 1 c, .slice B nb cb, .slice (some ⟨bs,os,none⟩) 1 cl],hB.ext (aa w _),hR.keep (.of_ext (aa w _)) (fun _ hb _=>hb),hRb.keep (.of_ext (aa w _)) (fun _ hb _=>hb),hRl.keep (.of_ext (aa w _)) (fun _ hb _=>hb),aQ (aa w _) (aF hB.lt),hT.fb (aQ (aa w _) (aF hB.lt)),bO hB.lt,by decide,hP⟩);have hbc:=HC0.out.box.cell;clear hB hR hT hRb hRl;unfold kR at hbl;unfold uF at hch;rw[hk]at HQ hch;go_enter func217,ntmps217;have e0:=(HC0.out.fb.keepP hP).cell (o0) hP0 hb0|>.trans HY0.out.1;have e1:=(HC0.out.fb.keepP hP).cell (o0+1) hP0 hb0|>.trans HY0.out.2.1;have e2:=(HC0.out.fb.keepP hP).cell (o0+2) hP0 hb0|>.trans HY0.out.2.2.1;have e3:=(HC0.out.fb.keepP hP).cell (o0+3) hP0 hb0|>.trans HY0.out.2.2.2.1;have e4:=(HC0.out.fb.keepP hP).cell (o0+4) hP0 hb0|>.trans HY0.out.2.2.2.2.1;have e5:=(HC0.out.fb.keepP hP).cell (o0+5) hP0 hb0|>.trans HY0.out.2.2.2.2.2;go_wp2_with (first|(go_at_call 216;refine(eB y hy [105,102,32] [32] P _ B0 _ d0 b l (HRy0.out.keep (HC0.out.fb.keepP hP) (fun _ hb _=>hb)) hP HC0.out.tab HC0.out.bu (by(try have a1:=Hzc1.out);(try have a2:=Hzc2.out);simp only[ab,ae,ag];omega)).mono ?_;rintro e u1 ⟨rfl,h1,h2⟩;have HC1:=G (HC0.out.wr h1 h2);clear h1 h2 HC0;clear hbc;have hbc:=HC1.out.box.cell)|(go_at_call 121;refine(hbl P _ B nb cb b i (l++([105,102,32]++cL y++[32])) HC1.out.rb hP HC1.out.tab HC1.out.bu (by(try have a1:=Hzc1.out);(try have a2:=Hzc2.out);simp only[ab,ae,ag];omega)).mono ?_;rintro e u2 ⟨rfl,h1,h2⟩;have HC2:=G (HC1.out.wr h1 h2);clear h1 h2 HC1;clear hbc;have hbc:=HC2.out.box.cell;have g0:=(HC2.out.fb.keepP hP).cell (os) hPs hbs|>.trans HQ.out.1;have g1:=(HC2.out.fb.keepP hP).cell (os+1) hPs hbs|>.trans HQ.out.2.1;have g2:=(HC2.out.fb.keepP hP).cell (os+2) hPs hbs|>.trans HQ.out.2.2.1;have g3:=(HC2.out.fb.keepP hP).cell (os+3) hPs hbs|>.trans HQ.out.2.2.2.1;have g4:=(HC2.out.fb.keepP hP).cell (os+4) hPs hbs|>.trans HQ.out.2.2.2.2)|(go_at_call 118;refine(cK b ((l++([105,102,32]++cL y++[32]))++fq i (bW body (i+1))) [32,101,108,115,101,32] _ HC2.out.bu (by(try have a1:=Hzc1.out);(try have a2:=Hzc2.out);(try simp only[ab,ae,ag]);omega)).mono ?_;rintro e u3 ⟨rfl,h1,h2⟩;have HC3:=G (HC2.out.wr h1 h2);clear h1 h2 HC2;clear hbc;have hbc:=HC3.out.box.cell;clear g0 g1 g2 g3 g4;have g0:=(HC3.out.fb.keepP hP).cell (os) hPs hbs|>.trans HQ.out.1;have g1:=(HC3.out.fb.keepP hP).cell (os+1) hPs hbs|>.trans HQ.out.2.1;have g2:=(HC3.out.fb.keepP hP).cell (os+2) hPs hbs|>.trans HQ.out.2.2.1;have g3:=(HC3.out.fb.keepP hP).cell (os+3) hPs hbs|>.trans HQ.out.2.2.2.1;have g4:=(HC3.out.fb.keepP hP).cell (os+4) hPs hbs|>.trans HQ.out.2.2.2.2)|(go_at_call 217;refine(hch P _ E2 B2 C2 _ ce2 _ cb2 _ cl2 b i (((l++([105,102,32]++cL y++[32]))++fq i (bW body (i+1)))++[32,101,108,115,101,32]) (HQr.out.1.keep (HC3.out.fb.keepP hP) (fun _ hb _=>hb)) (HQr.out.2.1.keep (HC3.out.fb.keepP hP) (fun _ hb _=>hb)) (HQr.out.2.2.keep (HC3.out.fb.keepP hP) (fun _ hb _=>hb)) hP HC3.out.tab HC3.out.bu (by(try have a1:=Hzc1.out);(try have a2:=Hzc2.out);(try simp only[ab,ae,ag]);omega)).mono ?_;rintro e u4 ⟨rfl,h1,h2⟩;have HC4:=G (HC3.out.wr h1 h2);clear h1 h2 HC3));first|go_end0|((try simp only[Exit.inBlock,Exit.then]);refine bodyPost_ret (results_none rfl _ _ _) rfl ?_)
 exact⟨rfl,by rw[<-HS.out];have:=HC4.out.bu;simpa[aJ]using this,HC4.out.fb⟩
theorem Gr (nm:List UInt8) (body:List St) (y:Ex) (hy:nf y) (hbl:kR body) (s:St) (hk:s.k≠4) (hel:kR [s]) (P:Nat->Prop) (w:World) (A B C:Option Addr) (n c nb cb nl cl b i:Nat) (l:List UInt8) (hR:et w P (.slice A n c) [y]) (hRb:dS w P (.slice B nb cb) body) (hRl:dS w P (.slice C nl cl) [s]) (hP: ∀k,P k->k<b) (hT:dK w b) (hB:Bu w b l) (S:List UInt8) (hS:d6 (.mk 4 nm [y] body [s]) i=S) (hl:l.length+S.length<=1000000000):
  Calls prog 217 #[.pointer (some ⟨b,0,none⟩), .agg #[.int .i64 4, .string (an nm), .slice A n c, .slice B nb cb, .slice C nl cl], .int .i64 (i:Int)] w fun e w'=>e= .returned (.tuple #[])/\Bu w' b (l++S)/\FB b w w':=by
 have HS:=G (show[105,102,32]++cL y++[32]++fq i (bW body (i+1))++([32,101,108,115,101,32]++fq i (bW [s] (i+1)))=S from by rw[<-hS];simp[d6,ke,bW,eS,mI,D9,nO,hk]);have hlen:3+(cL y).length+1+(fq i (bW body (i+1))).length+(6+(fq i (bW [s] (i+1))).length)=S.length:=by rw[<-HS.out];simp only[ab,ae,ag]
 clear hS;have hnl:=hRl.len;simp only[ae,ag]at hnl;obtain rfl:nl=1:=hnl;obtain⟨bs,os,su,sv,sz,hCs,hbs,hPs,q0,q1,q2,q3,q4,hse,hsb,hsl⟩:=hRl.at_ 0 (by simp);simp only[aE,aV,a7]at q0 q1 q2 q3 q4 hse hsb hsl;obtain⟨E2,ce2,rfl,_⟩:=hse.form;obtain⟨B2,cb2,rfl,_⟩:=hsb.form;obtain⟨C2,cl2,rfl,_⟩:=hsl.form;subst hCs;have HQ:=G (aB q0 (aB q1 (aB q2 (aB q3 q4))));have HQr:=G (aB hse (aB hsb hsl));clear q0 q1 q2 q3 q4 hse hsb hsl;have hn:=hR.len;simp only[ae,ag]at hn;obtain rfl:n=1:=hn;obtain⟨b0,o0,a0,hA0,hb0,hP0,y00,y10,y20,y30,y40,y50,hRy0⟩:=hR.at_ 0 (by simp);simp only[aE,aL,aV,a7,cD]at y00 y10 y20 y30 y40 y50 hRy0;obtain⟨B0,d0,rfl,_⟩:=hRy0.form;have HY0:=G (aB y00 (aB y10 (aB y20 (aB y30 (aB y40 y50)))));have HRy0:=G hRy0;clear y00 y10 y20 y30 y40 y50 hRy0;subst hA0;have HC0:=G (show PS b w.heap.size w P #[.int .i64 4, .string (an nm), .slice (some ⟨b0,o0,none⟩) 1 c, .slice B nb cb, .slice (some ⟨bs,os,none⟩) 1 cl] (.slice (some ⟨b0,o0,none⟩) 1 c) (.slice B nb cb) (.slice (some ⟨bs,os,none⟩) 1 cl) (.mk 4 nm [y] body [s]) l _ from⟨aw w 147 #[.int .i64 4, .string (an nm), .slice (some ⟨b0,o0,none⟩) 1 c, .slice B nb cb, .slice (some ⟨bs,os,none⟩) 1 cl],hB.ext (aa w _),hR.keep (.of_ext (aa w _)) (fun _ hb _=>hb),hRb.keep (.of_ext (aa w _)) (fun _ hb _=>hb),hRl.keep (.of_ext (aa w _)) (fun _ hb _=>hb),aQ (aa w _) (aF hB.lt),hT.fb (aQ (aa w _) (aF hB.lt)),bO hB.lt,by decide,hP⟩);have hbc:=HC0.out.box.cell;clear hB hR hT hRb hRl;unfold kR at hbl;unfold kR at hel;have hx1:(s.k==4)=false:=by rw[beq_eq_false_iff_ne];exact hk
 go_enter func217,ntmps217;have e0:=(HC0.out.fb.keepP hP).cell (o0) hP0 hb0|>.trans HY0.out.1;have e1:=(HC0.out.fb.keepP hP).cell (o0+1) hP0 hb0|>.trans HY0.out.2.1;have e2:=(HC0.out.fb.keepP hP).cell (o0+2) hP0 hb0|>.trans HY0.out.2.2.1;have e3:=(HC0.out.fb.keepP hP).cell (o0+3) hP0 hb0|>.trans HY0.out.2.2.2.1;have e4:=(HC0.out.fb.keepP hP).cell (o0+4) hP0 hb0|>.trans HY0.out.2.2.2.2.1;have e5:=(HC0.out.fb.keepP hP).cell (o0+5) hP0 hb0|>.trans HY0.out.2.2.2.2.2;go_wp2_with (first|(go_at_call 216;refine(eB y hy [105,102,32] [32] P _ B0 _ d0 b l (HRy0.out.keep (HC0.out.fb.keepP hP) (fun _ hb _=>hb)) hP HC0.out.tab HC0.out.bu (by(try have a1:=Hzc1.out);(try have a2:=Hzc2.out);simp only[ab,ae,ag];omega)).mono ?_;rintro e u1 ⟨rfl,h1,h2⟩;have HC1:=G (HC0.out.wr h1 h2);clear h1 h2 HC0;clear hbc;have hbc:=HC1.out.box.cell)|(go_at_call 121;refine(hbl P _ B nb cb b i (l++([105,102,32]++cL y++[32])) HC1.out.rb hP HC1.out.tab HC1.out.bu (by(try have a1:=Hzc1.out);(try have a2:=Hzc2.out);simp only[ab,ae,ag];omega)).mono ?_;rintro e u2 ⟨rfl,h1,h2⟩;have HC2:=G (HC1.out.wr h1 h2);clear h1 h2 HC1;clear hbc;have hbc:=HC2.out.box.cell;have g0:=(HC2.out.fb.keepP hP).cell (os) hPs hbs|>.trans HQ.out.1;have g1:=(HC2.out.fb.keepP hP).cell (os+1) hPs hbs|>.trans HQ.out.2.1;have g2:=(HC2.out.fb.keepP hP).cell (os+2) hPs hbs|>.trans HQ.out.2.2.1;have g3:=(HC2.out.fb.keepP hP).cell (os+3) hPs hbs|>.trans HQ.out.2.2.2.1;have g4:=(HC2.out.fb.keepP hP).cell (os+4) hPs hbs|>.trans HQ.out.2.2.2.2)|(go_at_call 118;refine(cK b ((l++([105,102,32]++cL y++[32]))++fq i (bW body (i+1))) [32,101,108,115,101,32] _ HC2.out.bu (by(try have a1:=Hzc1.out);(try have a2:=Hzc2.out);(try simp only[ab,ae,ag]);omega)).mono ?_;rintro e u3 ⟨rfl,h1,h2⟩;have HC3:=G (HC2.out.wr h1 h2);clear h1 h2 HC2;clear hbc;have hbc:=HC3.out.box.cell)|(go_at_call 121;guard_hyp HC3;refine(hel P _ (some ⟨bs,os,none⟩) 1 cl b i (((l++([105,102,32]++cL y++[32]))++fq i (bW body (i+1)))++[32,101,108,115,101,32]) HC3.out.rl hP HC3.out.tab HC3.out.bu (by(try have a1:=Hzc1.out);(try have a2:=Hzc2.out);(try simp only[ab,ae,ag]);omega)).mono ?_;rintro e u4 ⟨rfl,h1,h2⟩;have HC4:=G (HC3.out.wr h1 h2);clear h1 h2 HC3));first|go_end0|((try simp only[Exit.inBlock,Exit.then]);refine bodyPost_ret (results_none rfl _ _ _) rfl ?_)
 exact⟨rfl,by rw[<-HS.out];have:=HC4.out.bu;simpa[aJ]using this,HC4.out.fb⟩
theorem Gq (nm:List UInt8) (body:List St) (y:Ex) (hy:nf y) (hbl:kR body) (s1 s2:St) (r:List St) (hel:kR (s1::s2::r)) (P:Nat->Prop) (w:World) (A B C:Option Addr) (n c nb cb nl cl b i:Nat) (l:List UInt8) (hR:et w P (.slice A n c) [y]) (hRb:dS w P (.slice B nb cb) body) (hRl:dS w P (.slice C nl cl) (s1::s2::r)) (hP: ∀k,P k->k<b) (hT:dK w b) (hB:Bu w b l) (S:List UInt8) (hS:d6 (.mk 4 nm [y] body (s1::s2::r)) i=S) (hl:l.length+S.length<=1000000000):
  Calls prog 217 #[.pointer (some ⟨b,0,none⟩), .agg #[.int .i64 4, .string (an nm), .slice A n c, .slice B nb cb, .slice C nl cl], .int .i64 (i:Int)] w fun e w'=>e= .returned (.tuple #[])/\Bu w' b (l++S)/\FB b w w':=by
 have HS:=G (show[105,102,32]++cL y++[32]++fq i (bW body (i+1))++([32,101,108,115,101,32]++fq i (bW (s1::s2::r) (i+1)))=S from by rw[<-hS];simp[d6,ke,bW,eS,mI,D9,nO]);have hlen:3+(cL y).length+1+(fq i (bW body (i+1))).length+(6+(fq i (bW (s1::s2::r) (i+1))).length)=S.length:=by rw[<-HS.out];simp only[ab,ae,ag]
 clear hS;have hnl:=hRl.len;simp only[ae,ag]at hnl;have hx1:((nl:Int)==1)=false:=by rw[beq_eq_false_iff_ne];omega
 have hx2:0<nl:=by omega
 have hx3:(0:Int)<nl:=by omega
 clear hnl;have hn:=hR.len;simp only[ae,ag]at hn;obtain rfl:n=1:=hn;obtain⟨b0,o0,a0,hA0,hb0,hP0,y00,y10,y20,y30,y40,y50,hRy0⟩:=hR.at_ 0 (by simp);simp only[aE,aL,aV,a7,cD]at y00 y10 y20 y30 y40 y50 hRy0;obtain⟨B0,d0,rfl,_⟩:=hRy0.form;have HY0:=G (aB y00 (aB y10 (aB y20 (aB y30 (aB y40 y50)))));have HRy0:=G hRy0;clear y00 y10 y20 y30 y40 y50 hRy0;subst hA0;have HC0:=G (show PS b w.heap.size w P #[.int .i64 4, .string (an nm), .slice (some ⟨b0,o0,none⟩) 1 c, .slice B nb cb, .slice C nl cl] (.slice (some ⟨b0,o0,none⟩) 1 c) (.slice B nb cb) (.slice C nl cl) (.mk 4 nm [y] body (s1::s2::r)) l _ from⟨aw w 147 #[.int .i64 4, .string (an nm), .slice (some ⟨b0,o0,none⟩) 1 c, .slice B nb cb, .slice C nl cl],hB.ext (aa w _),hR.keep (.of_ext (aa w _)) (fun _ hb _=>hb),hRb.keep (.of_ext (aa w _)) (fun _ hb _=>hb),hRl.keep (.of_ext (aa w _)) (fun _ hb _=>hb),aQ (aa w _) (aF hB.lt),hT.fb (aQ (aa w _) (aF hB.lt)),bO hB.lt,by decide,hP⟩);have hbc:=HC0.out.box.cell;clear hB hR hT hRb hRl;unfold kR at hbl;unfold kR at hel;go_enter func217,ntmps217;have e0:=(HC0.out.fb.keepP hP).cell (o0) hP0 hb0|>.trans HY0.out.1;have e1:=(HC0.out.fb.keepP hP).cell (o0+1) hP0 hb0|>.trans HY0.out.2.1;have e2:=(HC0.out.fb.keepP hP).cell (o0+2) hP0 hb0|>.trans HY0.out.2.2.1;have e3:=(HC0.out.fb.keepP hP).cell (o0+3) hP0 hb0|>.trans HY0.out.2.2.2.1;have e4:=(HC0.out.fb.keepP hP).cell (o0+4) hP0 hb0|>.trans HY0.out.2.2.2.2.1;have e5:=(HC0.out.fb.keepP hP).cell (o0+5) hP0 hb0|>.trans HY0.out.2.2.2.2.2;go_wp2_with (first|(go_at_call 216;refine(eB y hy [105,102,32] [32] P _ B0 _ d0 b l (HRy0.out.keep (HC0.out.fb.keepP hP) (fun _ hb _=>hb)) hP HC0.out.tab HC0.out.bu (by(try have a1:=Hzc1.out);(try have a2:=Hzc2.out);simp only[ab,ae,ag];omega)).mono ?_;rintro e u1 ⟨rfl,h1,h2⟩;have HC1:=G (HC0.out.wr h1 h2);clear h1 h2 HC0;clear hbc;have hbc:=HC1.out.box.cell)|(go_at_call 121;refine(hbl P _ B nb cb b i (l++([105,102,32]++cL y++[32])) HC1.out.rb hP HC1.out.tab HC1.out.bu (by(try have a1:=Hzc1.out);(try have a2:=Hzc2.out);simp only[ab,ae,ag];omega)).mono ?_;rintro e u2 ⟨rfl,h1,h2⟩;have HC2:=G (HC1.out.wr h1 h2);clear h1 h2 HC1;clear hbc;have hbc:=HC2.out.box.cell)|(go_at_call 118;refine(cK b ((l++([105,102,32]++cL y++[32]))++fq i (bW body (i+1))) [32,101,108,115,101,32] _ HC2.out.bu (by(try have a1:=Hzc1.out);(try have a2:=Hzc2.out);(try simp only[ab,ae,ag]);omega)).mono ?_;rintro e u3 ⟨rfl,h1,h2⟩;have HC3:=G (HC2.out.wr h1 h2);clear h1 h2 HC2;clear hbc;have hbc:=HC3.out.box.cell)|(go_at_call 121;refine(hel P _ C nl cl b i (((l++([105,102,32]++cL y++[32]))++fq i (bW body (i+1)))++[32,101,108,115,101,32]) HC3.out.rl hP HC3.out.tab HC3.out.bu (by(try have a1:=Hzc1.out);(try have a2:=Hzc2.out);(try simp only[ab,ae,ag]);omega)).mono ?_;rintro e u4 ⟨rfl,h1,h2⟩;have HC4:=G (HC3.out.wr h1 h2);clear h1 h2 HC3));first|go_end0|((try simp only[Exit.inBlock,Exit.then]);refine bodyPost_ret (results_none rfl _ _ _) rfl ?_)
 exact⟨rfl,by rw[<-HS.out];have:=HC4.out.bu;simpa[aJ]using this,HC4.out.fb⟩
theorem rh (xs:List St) (hx: ∀y,y∈xs->Ef y):kR xs:=by
 intro P w B nb cb b i l hR hP hT hB hl;have hn:=hR.len;have hnb:nb<=maxLen:=by
  obtain⟨A',c',_,h|⟨h1,h2,_⟩⟩:=hR.form
  ·rw[hn,h];exact aC _
  ·omega
 unfold maxLen at hnb;have HX:=G hx;generalize hS:fq i (bW xs (i+1))=S at*;have hSe:[123,10]++(bW xs (i+1)).flatMap (fun t=>jR (i+1)++t++[10])++(jR i++[125])=S:=hS;clear hS;generalize hF:(fun t:List UInt8=>jR (i+1)++t++[10])=F at*;have HF:=G (show ∀t,F t=jR (i+1)++t++[10]from fun t=>by rw[<-hF]);have HS:=G hSe;have htl:(jR i).length=i:=by simp[jR]
 have htl1:(jR (i+1)).length=i+1:=by simp[jR]
 have hlen:2+((bW xs (i+1)).flatMap F).length+(i+1)=S.length:=by rw[<-hSe];simp only[ab,ae,ag,htl]
 have hwi:IntKind.i64.wrap ((i:Int)+1)=((i+1:Nat):Int):=by simp[IntKind.wrap,IntKind.signed,IntKind.bits];omega
 have HN:=G hn;have HTL:=G htl;have HTL1:=G htl1;clear hSe hF hx hn htl htl1;have HC0:=G (show PB b w P (.slice B nb cb) xs l w from⟨hB,hR,FB.refl _ _,hT,hP⟩);have HTI:=G (fun w=>rL i (by omega) w);have HTI1:=G (fun w=>rL (i+1) (by omega) w);clear hB hR hT;go_enter func121,ntmps121;go_wp2_with (go_at_call 118;refine(cK b l [123,10] _ HC0.out.bu (by(try have a1:=Hzc1.out);(try have a2:=Hzc2.out);(try simp only[ab,ae,ag]);omega)).mono ?_;rintro e u1 ⟨rfl,h1,h2⟩;have HC1:=G (HC0.out.wr h1 h2);clear h1 h2 HC0)
 go_loopw [14] (fun vi wr=> ∃j:Nat,vi= .int .i64 (j:Int)/\j<=nb/\Hid (PB b w P (.slice B nb cb) xs (l++[123,10]++((bW xs (i+1)).take j).flatMap F) wr)) (fun vi _=>nb-(intOf vi).toNat)
 case atStart=>exact⟨0,rfl,aC _,by simpa using HC1⟩
 case round=>
  clear HC1;obtain⟨j,rfl,hj,HCr⟩:=hrel;by_cases hlt:j<nb
  ·have hlt':(j:Int)<nb:=by omega
   have hjl:j<xs.length:=by have:=HN.out;omega
   have hsl:(bW xs (i+1)).length=xs.length:=by rw[kA];simp
   have hsj:(bW xs (i+1))[j]'(by omega)=d6 xs[j] (i+1):=by simp[kA]
   have HT:=G (show((bW xs (i+1)).take (j+1)).flatMap F=((bW xs (i+1)).take j).flatMap F++(jR (i+1)++d6 xs[j] (i+1)++[10])from by rw[aM (by omega),eq,hsj,<-HF.out];simp);have hbd:(((bW xs (i+1)).take (j+1)).flatMap F).length<=((bW xs (i+1)).flatMap F).length:=by
    conv=>rhs;rw[<-cM (j+1) (bW xs (i+1)),eq,ab]
    omega
   obtain⟨by0,oy,eu,ev,ez,rfl,hby,hPy,e0,e1,e2,e3,e4,hre,hrb,hrl⟩:=HCr.out.rd.at_ j hjl;have HXy:=G (HX.out _ (ap hjl));generalize xs[j]=y at*;unfold Ef at HXy;obtain⟨Ey,ey,rfl,_⟩:=hre.form;obtain⟨By,by_,rfl,_⟩:=hrb.form;obtain⟨Cy,cy,rfl,_⟩:=hrl.form;have HRy:=G (aB hre (aB hrb hrl));have hsz:=HCr.out.bu.lt;have hEA:=aa wr (.cells #[.int .i64 y.k, .string (an y.nm), .slice Ey y.ex.length ey, .slice By y.body.length by_, .slice Cy y.els.length cy] 147);have HC1:=G (HCr.out.ex hEA);have HYB:=G (aw wr 147 #[.int .i64 y.k, .string (an y.nm), .slice Ey y.ex.length ey, .slice By y.body.length by_, .slice Cy y.els.length cy]);have hpy:wr.heap.size≠b:=by omega
   have HRz:=G (aB (hre.keep (.of_ext hEA) (fun _ hb _=>hb)) (aB (hrb.keep (.of_ext hEA) (fun _ hb _=>hb)) (hrl.keep (.of_ext hEA) (fun _ hb _=>hb))));generalize ((bW xs (i+1)).take j).flatMap F=J at*;generalize hJ1:((bW xs (i+1)).take (j+1)).flatMap F=J1 at*;have hJl:=congrArg List.length HT.out;simp only[ab,ae,ag,HTL1.out]at hJl;generalize jR (i+1)=T1 at*;clear hre hrb hrl hsl hsj HRy hEA;go_wp2_with fail;refine ay 6 3 [(5,fun x=>x= .string (an T1),fun _ _=>True)] mixed (by kernel_rfl) ⟨fun _ _ _ _ _=>trivial,trivial⟩ ?_;repeat (refine sx ?_ (fun w1 hU=> ?_) ?_;rotate_left;(focus go_simp<;>with_reducible rfl);simp only[bH,bG,bF,bE,bD])
   refine so (fun w6 hU hp K hK=> ?_) ?_
   ·clear hp hU;go_simp;refine(HTI1.out w6).mono ?_;rintro e w7 ⟨rfl,hE⟩;exact hK _ _ hE rfl trivial
   rintro _ rfl;simp only[bH,bG,bF,bE,bD];repeat (refine sx ?_ (fun w1 hU=> ?_) ?_;rotate_left;(focus go_simp<;>with_reducible rfl);simp only[bH,bG,bF,bE,bD])
   intro z2 hz2 hp;clear hp;simp only[ac,aq];have HC2:=G (HC1.out.ex hz2.un);have HYB2:=G (HYB.out.ext hz2.un);have HRw:=G (aB (HRz.out.1.keep (.of_ext hz2.un) (fun _ hb _=>hb)) (aB (HRz.out.2.1.keep (.of_ext hz2.un) (fun _ hb _=>hb)) (HRz.out.2.2.keep (.of_ext hz2.un) (fun _ hb _=>hb))));clear hz2 HC1;go_wp2_with (first|(go_at_call 118;refine(cK b (l++[123,10]++J) T1 _ HC2.out.bu (by have a3:=HTL1.out;(try have a1:=Hzc1.out);(try have a2:=Hzc2.out);(try simp only[ab,ae,ag]);omega)).mono ?_;rintro e u3 ⟨rfl,h1,h2⟩;have HC3:=G (HC2.out.wr h1 h2);have HYB3:=G (h2.keep _ _ _ hpy (by decide) HYB2.out);have hyc:=HYB3.out.cell;have HRv:=G (aB (HRw.out.1.keep (h2.keepP hP) (fun _ hb _=>hb)) (aB (HRw.out.2.1.keep (h2.keepP hP) (fun _ hb _=>hb)) (HRw.out.2.2.keep (h2.keepP hP) (fun _ hb _=>hb))));clear h1 h2 HC2)|(go_at_call 174;refine(HXy.out P _ Ey By Cy _ ey _ by_ _ cy b (i+1) (l++[123,10]++J++T1) HRv.out.1 HRv.out.2.1 HRv.out.2.2 hP HC3.out.tab HC3.out.bu (by have a3:=HTL1.out;(try have a1:=Hzc1.out);(try have a2:=Hzc2.out);(try simp only[ab,ae,ag]);omega)).mono ?_;rintro e u4 ⟨rfl,h1,h2⟩;have HC4:=G (HC3.out.wr h1 h2);clear h1 h2 HC3 hyc)|(go_at_call 118;refine(cK b (l++[123,10]++J++T1++d6 y (i+1)) [10] _ HC4.out.bu (by have a3:=HTL1.out;(try have a1:=Hzc1.out);(try have a2:=Hzc2.out);(try simp only[ab,ae,ag]);omega)).mono ?_;rintro e u5 ⟨rfl,h1,h2⟩;have HC5:=G (HC4.out.wr h1 h2);clear h1 h2 HC4));go_roundw
   case rel=>exact⟨j+1,by go_num,by omega,by have:=HT.out;rw[hJ1,this];simpa[aJ]using HC5⟩
   case measure=>simp[intOf];omega
  ·have hlt': ¬(j:Int)<nb:=by omega
   have hjn:j=nb:=by omega
   have HQ:=G (show(bW xs (i+1)).take j=bW xs (i+1)from by rw[hjn,HN.out,bh (by rw[kA];simp)]);rw[HQ.out]at HCr;generalize (bW xs (i+1)).flatMap F=J at*;clear HQ;generalize jR i=T0 at*;have htl0:=HTL.out;obtain⟨c1,Hc1⟩: ∃c,Hid (T0++[125]=c):=⟨_,G rfl⟩
   have hzc1:c1.length=T0.length+1:=by rw[<-Hc1.out,ab];rfl
   have hsc1:an T0++(⟨#[125]⟩:ByteArray)=an c1:=by rw[<-Hc1.out];exact dQ _ _
   have hmc1: ¬9223372036854775807<T0.length+1:=by omega
   have hkc1: ¬9223372036854775807<1+T0.length:=by omega
   have hqc1T0:(an T0).size=T0.length:=aU _;have hqc1l:((⟨#[125]⟩:ByteArray)).size=1:=rfl;have Hzc1:=G hzc1;clear hzc1;clear htl0;go_wp2_with fail;refine ay 6 3 [(4,fun x=>x= .string (an T0),fun _ _=>True)] mixed (by kernel_rfl) ⟨fun _ _ _ _ _=>trivial,trivial⟩ ?_;repeat (refine sx ?_ (fun w1 hU=> ?_) ?_;rotate_left;(focus go_simp<;>with_reducible rfl);simp only[bH,bG,bF,bE,bD])
   refine so (fun w6 hU hp K hK=> ?_) ?_
   ·clear hp hU;go_simp;refine(HTI.out w6).mono ?_;rintro e w7 ⟨rfl,hE⟩;exact hK _ _ hE rfl trivial
   rintro _ rfl;simp only[bH,bG,bF,bE,bD];repeat (refine sx ?_ (fun w1 hU=> ?_) ?_;rotate_left;(focus go_simp<;>with_reducible rfl);simp only[bH,bG,bF,bE,bD])
   intro z2 hz2 hp;clear hp;simp only[ac,aq];have HC2:=G (HCr.out.ex hz2.un);clear hz2 HCr;go_wp2_with (go_at_call 118;refine(cK b (l++[123,10]++J) c1 _ HC2.out.bu (by have a3:=HTL.out;(try have a1:=Hzc1.out);(try have a2:=Hzc2.out);(try simp only[ab,ae,ag]);omega)).mono ?_;rintro e u3 ⟨rfl,h1,h2⟩;have HC3:=G (HC2.out.wr h1 h2);clear h1 h2 HC2)
   go_end0
   exact⟨rfl,by rw[<-HS.out];have:=HC3.out.bu;rw[<-Hc1.out]at this;simpa[aJ]using this,HC3.out.fb⟩
end
section
open Go.RowKit
theorem qy: ∀(m:Nat) (x:St),x.wt<=m->x.ok=true->Ef x/\(x.k=4->uF x)
 |0,x,hm,_=>absurd hm (by have:=x.wt_eq;omega)
 |m+1, .mk k nm es bd el,hm,h=>by
  have hw:=(St.mk k nm es bd el).wt_eq;simp only[St.nm,St.ex,St.body,St.els]at hw;rw[St.ok,ak,ak,ak]at h;obtain⟨⟨h1,h2⟩,h3,h4⟩:=h;rw[qJ]at h2;rw[jw]at h3 h4;have he: ∀y,y∈es->nf y:=fun y hy=>Bf (List.all_eq_true.1 h2 y hy);have ihB: ∀y,y∈bd->Ef y:=fun y hy=>(qy m y (by have:=co hy;omega) (List.all_eq_true.1 h3 y hy)).1;have ihL: ∀y,y∈el->Ef y/\(y.k=4->uF y):=fun y hy=>qy m y (by have:=co hy;omega) (List.all_eq_true.1 h4 y hy);have hbl:=rh bd ihB;have hel:=rh el (fun y hy=>(ihL y hy).1);have hc:k=4->uF (.mk k nm es bd el):=by
   rintro rfl;rw[if_neg (by decide),if_neg (by decide),if_neg (by decide),if_pos rfl]at h1;simp only[ak,beq_iff_eq]at h1;obtain⟨y,rfl⟩:=List.length_eq_one_iff.1 h1.2;have hy:=he y (by simp);intro P w A B C n c nb cb nl cl b i l hR hRb hRl hP hT hB hl
   match el,hRl,ihL,hel,hl with
   | [],hRl,ihL,hel,hl=>exact Gt nm bd y hy hbl P w A B C n c nb cb nl cl b i l hR hRb hRl hP hT hB _ rfl hl
   | [s],hRl,ihL,hel,hl=>
    by_cases hs:s.k=4
    ·exact Gs nm bd y hy hbl s hs ((ihL s (by simp)).2 hs) P w A B C n c nb cb nl cl b i l hR hRb hRl hP hT hB _ rfl hl
    ·exact Gr nm bd y hy hbl s hs hel P w A B C n c nb cb nl cl b i l hR hRb hRl hP hT hB _ rfl hl
   |s1::s2::r,hRl,ihL,hel,hl=>exact Gq nm bd y hy hbl s1 s2 r hel P w A B C n c nb cb nl cl b i l hR hRb hRl hP hT hB _ rfl hl
  refine⟨?_,hc⟩;intro P w A B C n c nb cb nl cl b i l hR hRb hRl hP hT hB hl;simp only[St.k,St.nm,St.ex,St.body,St.els]at*;by_cases k1:k=1
  ·subst k1;rw[if_pos rfl]at h1;simp only[ak,decide_eq_true_eq]at h1
   match es,he,h1,hR,hl with
   | [],he,h1,hR,hl=>exact Eu nm bd el P w A B C n c nb cb nl cl b i l hR hRb hRl hP hT hB _ rfl hl
   | [y],he,h1,hR,hl=>exact Et nm bd el y (he y (by simp)) P w A B C n c nb cb nl cl b i l hR hRb hRl hP hT hB _ rfl hl
   |y::z::r,he,h1,hR,hl=>exact absurd h1.1.1.2 (by simp)
  rw[if_neg k1]at h1;by_cases k2:k=2
  ·subst k2;rw[if_pos rfl]at h1;simp only[ak,beq_iff_eq]at h1;obtain⟨y,rfl⟩:=List.length_eq_one_iff.1 h1.1.1.2;exact FR nm bd el y (he y (by simp)) P w A B C n c nb cb nl cl b i l hR hRb hRl hP hT hB _ rfl hl
  rw[if_neg k2]at h1;by_cases k3:k=3
  ·subst k3;rw[if_pos rfl]at h1;simp only[ak,beq_iff_eq]at h1;obtain⟨y,z,rfl⟩: ∃y z,es=[y,z]:=by
    match es,h1 with
    | [],h1=>simp at h1
    | [y],h1=>simp at h1
    | [y,z],h1=>exact⟨y,z,rfl⟩
    |y::z::u::r,h1=>simp at h1
   exact FP nm bd el y z (he y (by simp)) (he z (by simp)) P w A B C n c nb cb nl cl b i l hR hRb hRl hP hT hB _ rfl hl
  rw[if_neg k3]at h1;by_cases k4:k=4
  ·subst k4;exact FO nm bd el es (hc rfl) P w A B C n c nb cb nl cl b i l hR hRb hRl hP hT hB _ rfl hl
  rw[if_neg k4]at h1;by_cases k5:k=5
  ·subst k5;rw[if_pos rfl]at h1;simp only[ak,beq_iff_eq]at h1;obtain⟨y,rfl⟩:=List.length_eq_one_iff.1 h1.1.2;exact FN nm bd el y (he y (by simp)) hbl P w A B C n c nb cb nl cl b i l hR hRb hRl hP hT hB _ rfl hl
  rw[if_neg k5]at h1;by_cases k6:k=6
  ·subst k6;rw[if_pos rfl]at h1;simp only[ak,decide_eq_true_eq]at h1
   match es,he,h1,hR,hl with
   | [],he,h1,hR,hl=>exact Es nm bd el P w A B C n c nb cb nl cl b i l hR hRb hRl hP hT hB _ rfl hl
   | [y],he,h1,hR,hl=>exact Ep nm bd el y (he y (by simp)) P w A B C n c nb cb nl cl b i l hR hRb hRl hP hT hB _ rfl hl
   |y::z::r,he,h1,hR,hl=>exact absurd h1.1.1.2 (by simp)
  rw[if_neg k6]at h1;by_cases k7:k=7
  ·subst k7;rw[if_pos rfl]at h1;simp only[ak,beq_iff_eq]at h1;obtain⟨y,rfl⟩:=List.length_eq_one_iff.1 h1.1.1.1.2;exact FM nm bd el y (he y (by simp)) P w A B C n c nb cb nl cl b i l hR hRb hRl hP hT hB _ rfl hl
  ·rw[if_neg k7]at h1
   cases h1
theorem Bg {x:St} (h:x.ok=true):Ef x:=(qy _ x (ah _) h).1
theorem Bh {xs:List St} (h:pT xs=true):kR xs:=rh xs fun y hy=>Bg (by rw[jw]at h;exact List.all_eq_true.1 h y hy)
end
section
open Go.RowKit
theorem mx (sep:List UInt8) (l:List (List UInt8)):Lib.join l sep=eb sep l:=by
 cases l with
 |nil=>rfl
 |cons x r=>rw[Lib.join_cons];simp[Lib.joinTail,eb,List.flatMap_def]
theorem wJ (A:Option Addr) (n c:Nat) (ws:List (List UInt8)) (P:Nat->Prop) (w:World) (hw:pC w P (.slice A n c) ws) (hl:(eb [44,32] ws).length<=1000000000):
  Calls prog 120 #[.slice A n c, .string ⟨#[44,32]⟩] w fun e w'=>e= .returned (.string (an (eb [44,32] ws)))/\au w w':=by
 obtain⟨A',c',hv,h⟩:=hw;injection hv with hA hn hc;subst hA hn hc;rcases h with rfl|⟨h1,h2,b,o,rfl,hP,hb,hcell⟩
 ·refine(Tryz.strings_Join_none A c ⟨#[44,32]⟩ w).mono ?_;rintro e w' ⟨rfl,rfl⟩;exact⟨rfl,aG _⟩
 ·have hm:(ws.map an).map (·.data.toList)=ws:=by
   rw[lz];have:((fun x:ByteArray=>x.data.toList) ∘ an)=id:=funext fun l=>ic l;rw[this,List.map_id]
  unfold maxLen at h2
  have:=Tryz.strings_Join b o c (ws.map an) ⟨#[44,32]⟩ w (fun j x hx=>by
    rw[cV]at hx;obtain⟨y,hy,rfl⟩:=Option.map_eq_some_iff.1 hx;obtain⟨hj,rfl⟩:=List.getElem?_eq_some_iff.1 hy;exact hcell j hj) hb (by
    rw[ee]
    cases ws with
    |nil=>simp
    |cons x r=>
     have:=Lib.join_length x r [44,32];rw[mx]at this;simp only[ae,ag]at this⊢
     omega) (by simp;exact h1) (by rw[hm,show((⟨#[44,32]⟩:ByteArray).data.toList)=[44,32]from rfl,mx];omega)
  rw[hm,ee,show((⟨#[44,32]⟩:ByteArray).data.toList)=[44,32]from rfl,mx]at this;exact this
structure PQ (b px:Nat) (w0:World) (P:Nat->Prop) (vv fv:Value) (p:Pg) (l:List UInt8) (W:World):Prop where
 box:aP W px 31 #[vv,fv]
 bu:Bu W b l
 rv:nG W P vv p.vs
 rf:oT W P fv p.fs
 fb:FB b w0 W
 tab:dK W b
 ne:px≠b
 tt:31≠5
 hP: ∀k,P k->k<b
section
variable {b px:Nat} {w0 W W':World} {P:Nat->Prop} {vv fv:Value} {p:Pg} {l l':List UInt8}
theorem PQ.wr (h:PQ b px w0 P vv fv p l W) (hB:Bu W' b l') (hF:FB b W W'):PQ b px w0 P vv fv p l' W':=
 ⟨hF.keep _ _ _ h.ne h.tt h.box,hB,h.rv.keep (hF.keepP h.hP) (fun _ hb _=>hb),h.rf.keep (hF.keepP h.hP) (fun _ hb _=>hb),h.fb.trans hF,h.tab.fb hF,h.ne,h.tt,h.hP⟩
theorem PQ.ex (h:PQ b px w0 P vv fv p l W) (hE:au W W'):PQ b px w0 P vv fv p l W':=h.wr (h.bu.ext hE) (aQ hE (aF h.bu.lt))
end
theorem jK {α:Type} (F:α->List UInt8) (l:List α) (j:Nat):((l.take j).flatMap F).length<=(l.flatMap F).length:=by
 conv=>rhs;rw[<-cM j l,eq,ab]
 omega
theorem iH {α:Type} (F:α->List UInt8) (l:List α) (j:Nat) (h:j<l.length):(l.take (j+1)).flatMap F=(l.take j).flatMap F++F l[j]:=by
 rw[aM h,eq];simp
theorem tQ (p:Pg) (hok: ∀f,f∈p.fs->pT f.body=true) (hsz: ∀v,v∈p.vs->v.sz<=9223372036854775807) (P:Nat->Prop) (w:World) (A B:Option Addr) (n c m d:Nat) (hV:nG w P (.slice A n c) p.vs) (hF:oT w P (.slice B m d) p.fs) (hT:dK w w.heap.size) (hl:(li p).length<=1000000000):
  Calls prog 62 #[.agg #[.slice A n c, .slice B m d]] w fun e w'=>e= .returned (.string (an (li p)))/\au w w':=by
 have hnv:n=p.vs.length/\n<=maxLen:=by
  obtain⟨A',c',hv,h⟩:=hV;injection hv with _ hn _;refine⟨hn,?_⟩;rcases h with h|⟨h1,h2,_⟩
  ·rw[hn,h];exact aC _
  ·omega
 have hnf:m=p.fs.length/\m<=maxLen:=by
  obtain⟨A',c',hv,h⟩:=hF;injection hv with _ hn _;refine⟨hn,?_⟩;rcases h with h|⟨h1,h2,_⟩
  ·rw[hn,h];exact aC _
  ·omega
 obtain⟨hnv,hnm⟩:=hnv;obtain⟨hnf,hnn⟩:=hnf;unfold maxLen at hnm hnn;have HNV:=G hnv;have HNF:=G hnf;have HSZ:=G hsz;have HOK:=G hok;have HS:=G (show p.vs.flatMap lh++p.fs.flatMap lk=li p from rfl);have hlen:(p.vs.flatMap lh).length+(p.fs.flatMap lk).length=(li p).length:=by rw[<-HS.out,ab]
 generalize li p=S at*;have hE1:=aa w (.cells #[.slice A n c, .slice B m d] 31);have hE2:=hE1.trans (aa (w.alloc (.cells #[.slice A n c, .slice B m d] 31)) (.cells #[.pointer none, .slice none 0 0] 217));have hs1:(w.alloc (.cells #[.slice A n c, .slice B m d] 31)).heap.size=w.heap.size+1:=Array.size_push _;have hKx:dm P w ((w.alloc (.cells #[.slice A n c, .slice B m d] 31)).alloc (.cells #[.pointer none, .slice none 0 0] 217)):= .of_ext hE2;obtain⟨w0,hw0⟩: ∃W,W=((w.alloc (.cells #[.slice A n c, .slice B m d] 31)).alloc (.cells #[.pointer none, .slice none 0 0] 217)):=⟨_,rfl⟩
 have HE2:=G (show au w w0 from hw0▸hE2)
 have HC0:=G (show PQ (w.heap.size+1) w.heap.size w0 (fun k=>k<w.heap.size) (.slice A n c) (.slice B m d) p [] ((w.alloc (.cells #[.slice A n c, .slice B m d] 31)).alloc (.cells #[.pointer none, .slice none 0 0] 217))from
  ⟨(aw w _ _).ext (aa _ _),hs1▸Bu.new _,hV.keep hKx (fun _ _ h=>h),hF.keep hKx (fun _ _ h=>h),hw0▸FB.refl _ _,⟨((hT.fb (aQ hE2 (ah _)))).1,Nat.lt_succ_of_lt hT.2⟩,fu (dt _),by decide,fun k h=>Nat.lt_succ_of_lt h⟩)
 clear hV hF hT hE1 hE2 hKx hnv hnf hsz hok hw0;generalize hb:w.heap.size+1=b at*;have HXB:=G (show w.heap.size<=b/\True from⟨by omega,trivial⟩);generalize hpx:w.heap.size=px at*;have hbc:=HC0.out.box.cell;go_enter func62,ntmps62;go_wp2_with fail
 go_loopw [11] (fun vi wr=> ∃j:Nat,vi= .int .i64 (j:Int)/\j<=n/\Hid (PQ b px w0 (fun k=>k<px) (.slice A n c) (.slice B m d) p ((p.vs.take j).flatMap lh) wr)) (fun vi _=>n-(intOf vi).toNat)
 case atStart=>exact⟨0,rfl,aC _,HC0⟩
 case round=>
  clear HC0 hbc;obtain⟨j,rfl,hj,HCr⟩:=hrel;by_cases hlt:j<n
  ·have hlt':(j:Int)<n:=by omega
   have hjl:j<p.vs.length:=by have:=HNV.out;omega
   obtain⟨A',c',hv,hh⟩:=HCr.out.rv;injection hv with hA hn' hc';rcases hh with hh|⟨h1,h2,b9,o9,hA2,hP9,hb9,hcl⟩
   ·rw[hh]at hjl;simp at hjl
   obtain⟨e0,e1⟩:=hcl j hjl;have hA3:A=some ⟨b9,o9,none⟩:=hA.trans hA2;subst hA3;clear hcl hA hA2 hn' hc' h1 h2 hP9;have hvz:=HSZ.out _ (ap hjl);have HT:=G (iH lh p.vs j hjl);have hbd:=jK lh p.vs (j+1);have HSV:=G (show lh p.vs[j]=[118,97,114,32]++p.vs[j].nm++(if 0<p.vs[j].sz then[91]++ko p.vs[j].sz.toNat++[93]else[])++[59,10]from rfl);generalize lh p.vs[j]=SVj at*;generalize p.vs[j].nm=vn at*;generalize p.vs[j].sz=vz at*;generalize (p.vs.take j).flatMap lh=J at*;generalize hJ1:(p.vs.take (j+1)).flatMap lh=J1 at*;have hJl:=congrArg List.length HT.out;simp only[ab]at hJl;have hsz:=HCr.out.bu.lt;have hEA:=aa wr (.cells #[.string (an vn), .int .i64 vz] 76);have HC1:=G (HCr.out.ex hEA);have HYB:=G (aw wr 76 #[.string (an vn), .int .i64 vz]);have hyc:=HYB.out.cell;have hpy:wr.heap.size≠b:=by omega
   clear hEA;by_cases hz:0<vz
   ·have hSl:=congrArg List.length HSV.out;rw[if_pos hz]at HSV hSl;have HIt:=G (fun w h=>sw vz (by omega) hvz w b h);generalize ko vz.toNat=D at*;simp only[ab,ae,ag]at hSl;have HLL:=G (show J.length+(4+vn.length+(1+D.length+1)+2)<=1000000000 from by omega);obtain⟨c1,Hc1⟩: ∃c,Hid ([118,97,114,32]++vn=c):=⟨_,G rfl⟩
    have hzc1:c1.length=4+vn.length:=by rw[<-Hc1.out,ab];(try rfl)
    have hsc1:(⟨#[118,97,114,32]⟩:ByteArray)++an vn=an c1:=by rw[<-Hc1.out];exact dQ _ _
    have hmc1: ¬9223372036854775807<4+vn.length:=by omega
    have hkc1: ¬9223372036854775807<vn.length+4:=by omega
    have hqc1l:((⟨#[118,97,114,32]⟩:ByteArray)).size=4:=rfl;have hqc1vn:(an vn).size=vn.length:=aU _;obtain⟨c2,Hc2⟩: ∃c,Hid ([91]++D=c):=⟨_,G rfl⟩
    have hzc2:c2.length=1+D.length:=by rw[<-Hc2.out,ab];(try rfl)
    have hsc2:(⟨#[91]⟩:ByteArray)++an D=an c2:=by rw[<-Hc2.out];exact dQ _ _
    have hmc2: ¬9223372036854775807<1+D.length:=by omega
    have hkc2: ¬9223372036854775807<D.length+1:=by omega
    have hqc2l:((⟨#[91]⟩:ByteArray)).size=1:=rfl;have hqc2D:(an D).size=D.length:=aU _;obtain⟨c3,Hc3⟩: ∃c,Hid (c2++[93]=c):=⟨_,G rfl⟩
    have hzc3:c3.length=c2.length+1:=by rw[<-Hc3.out,ab];(try rfl)
    have hsc3:an c2++(⟨#[93]⟩:ByteArray)=an c3:=by rw[<-Hc3.out];exact dQ _ _
    have hmc3: ¬9223372036854775807<c2.length+1:=by omega
    have hkc3: ¬9223372036854775807<1+c2.length:=by omega
    have hqc3c2:(an c2).size=c2.length:=aU _;have hqc3l:((⟨#[93]⟩:ByteArray)).size=1:=rfl;have Hzc1:=G hzc1;clear hzc1;have Hzc2:=G hzc2;clear hzc2;have Hzc3:=G hzc3;clear hzc3;clear hSl hJl;go_wp2_with (first|(go_at_call 118;refine(cK b J c1 _ HC1.out.bu (by have a1:=Hzc1.out;have a2:=HLL.out;omega)).mono ?_;rintro e u2 ⟨rfl,h1,h2⟩;have HC2:=G (HC1.out.wr h1 h2);have HYB2:=G (h2.keep _ _ _ hpy (by decide) HYB.out);clear hyc;have hyc:=HYB2.out.cell;clear h1 h2 HC1)|(go_at_call 119;refine(HIt.out _ HC2.out.tab).mono ?_;rintro e u3 ⟨rfl,hE⟩;have HC3:=G (HC2.out.ex hE);clear hE hyc HC2)|(go_at_call 118;refine(cK b (J++c1) c3 _ HC3.out.bu (by have a1:=Hzc1.out;have a2:=Hzc2.out;have a3:=Hzc3.out;have a4:=HLL.out;simp only[ab];omega)).mono ?_;rintro e u4 ⟨rfl,h1,h2⟩;have HC4:=G (HC3.out.wr h1 h2);clear h1 h2 HC3)|(go_at_call 118;refine(cK b (J++c1++c3) [59,10] _ HC4.out.bu (by have a1:=Hzc1.out;have a2:=Hzc2.out;have a3:=Hzc3.out;have a4:=HLL.out;simp only[ab,ae,ag];omega)).mono ?_;rintro e u5 ⟨rfl,h1,h2⟩;have HC5:=G (HC4.out.wr h1 h2);clear h1 h2 HC4));go_roundw
    case rel=>exact⟨j+1,by go_num,by omega,by have h9:=HT.out;have h8:=HSV.out;rw[hJ1,h9,h8,Hc1.out,Hc2.out,Hc3.out];simpa[aJ]using HC5⟩
    case measure=>simp[intOf];omega
   ·have hSl:=congrArg List.length HSV.out;rw[if_neg hz]at HSV hSl;simp only[ab,ae,ag]at hSl;have HLL:=G (show J.length+(4+vn.length+2)<=1000000000 from by omega);obtain⟨c1,Hc1⟩: ∃c,Hid ([118,97,114,32]++vn=c):=⟨_,G rfl⟩
    have hzc1:c1.length=4+vn.length:=by rw[<-Hc1.out,ab];(try rfl)
    have hsc1:(⟨#[118,97,114,32]⟩:ByteArray)++an vn=an c1:=by rw[<-Hc1.out];exact dQ _ _
    have hmc1: ¬9223372036854775807<4+vn.length:=by omega
    have hkc1: ¬9223372036854775807<vn.length+4:=by omega
    have hqc1l:((⟨#[118,97,114,32]⟩:ByteArray)).size=4:=rfl;have hqc1vn:(an vn).size=vn.length:=aU _;have Hzc1:=G hzc1;clear hzc1;clear hSl hJl;go_wp2_with (first|(go_at_call 118;refine(cK b J c1 _ HC1.out.bu (by have a1:=Hzc1.out;have a2:=HLL.out;omega)).mono ?_;rintro e u2 ⟨rfl,h1,h2⟩;have HC2:=G (HC1.out.wr h1 h2);have HYB2:=G (h2.keep _ _ _ hpy (by decide) HYB.out);clear hyc;have hyc:=HYB2.out.cell;clear h1 h2 HC1)|(go_at_call 118;refine(cK b (J++c1) [59,10] _ HC2.out.bu (by have a1:=Hzc1.out;have a4:=HLL.out;simp only[ab,ae,ag];omega)).mono ?_;rintro e u5 ⟨rfl,h1,h2⟩;have HC5:=G (HC2.out.wr h1 h2);clear h1 h2 HC2));go_roundw
    case rel=>exact⟨j+1,by go_num,by omega,by have h9:=HT.out;have h8:=HSV.out;rw[hJ1,h9,h8,Hc1.out];simpa[aJ]using HC5⟩
    case measure=>simp[intOf];omega
  ·have hlt': ¬(j:Int)<n:=by omega
   have hjn:j=n:=by omega
   have HQ:=G (show p.vs.take j=p.vs from by rw[hjn,HNV.out,bQ]);rw[HQ.out]at HCr;clear HQ;have hbc:=HCr.out.box.cell;go_wp2_with fail;clear hlt hlt' hjn hj;generalize hV0:p.vs.flatMap lh=V0 at*
   go_loopw [36] (fun vi wr=> ∃j:Nat,vi= .int .i64 (j:Int)/\j<=m/\Hid (PQ b px w0 (fun k=>k<px) (.slice A n c) (.slice B m d) p (V0++(p.fs.take j).flatMap lk) wr)) (fun vi _=>m-(intOf vi).toNat)
   case atStart=>exact⟨0,rfl,aC _,by simpa using HCr⟩
   case round=>
    clear HCr hbc;rename_i wx;obtain⟨j,rfl,hj,HCr⟩:=hrel;by_cases hlt:j<m
    ·have hlt':(j:Int)<m:=by omega
     have hjl:j<p.fs.length:=by have:=HNF.out;omega
     obtain⟨A',c',hv,hh⟩:=HCr.out.rf;injection hv with hA hn' hc';rcases hh with hh|⟨h1,h2,b9,o9,hA2,hP9,hb9,pv,bv,hcl⟩
     ·rw[hh]at hjl;simp at hjl
     obtain⟨e0,e1,e2,hrn,hrs⟩:=hcl j hjl;have hA3:B=some ⟨b9,o9,none⟩:=hA.trans hA2;subst hA3;clear hcl hA hA2 hn' hc' h1 h2 hP9;have hob:=HOK.out _ (ap hjl);have HT:=G (iH lk p.fs j hjl);have hbd:=jK lk p.fs (j+1);have HSV:=G (show lk p.fs[j]=[102,117,110,99,32]++p.fs[j].nm++[40]++eb [44,32] p.fs[j].ps++[41,32]++fq 0 (bW p.fs[j].body 1)++[10]from rfl);generalize lk p.fs[j]=SVj at*;generalize p.fs[j].nm=fn at*;generalize p.fs[j].ps=fps at*;generalize p.fs[j].body=fb at*;generalize pv j=pvj at*;generalize bv j=bvj at*
     have HBk:=G (show ∀(P:Nat->Prop) (w:World) (B:Option Addr) (nb cb b:Nat) (l:List UInt8),dS w P (.slice B nb cb) fb->(∀k,P k->k<b)->dK w b->Bu w b l->l.length+(fq 0 (bW fb 1)).length<=1000000000->
      Calls prog 121 #[.pointer (some ⟨b,0,none⟩), .slice B nb cb, .int .i64 0] w (fun e w'=>e= .returned (.tuple #[])/\Bu w' b (l++fq 0 (bW fb 1))/\FB b w w')from fun P w B nb cb b l=>Bh hob P w B nb cb b 0 l)
     generalize hJ0:(p.fs.take j).flatMap lk=J0 at*;generalize hJ:V0++J0=J at*;have hJJ:=congrArg List.length hJ;generalize hJ1:(p.fs.take (j+1)).flatMap lk=J1 at*;have hJl:=congrArg List.length HT.out;simp only[ab]at hJl hJJ;obtain⟨Ap,cp,rfl,_⟩:=id hrn;obtain⟨Ab,cbb,rfl,_⟩:=hrs.form;have hsz:=HCr.out.bu.lt;have hEA:=aa wr (.cells #[.string (an fn), .slice Ap fps.length cp, .slice Ab fb.length cbb] 81);have HC1:=G (HCr.out.ex hEA);have HYB:=G (aw wr 81 #[.string (an fn), .slice Ap fps.length cp, .slice Ab fb.length cbb]);have HRn:=G (hrn.keep (.of_ext hEA) (fun _ hb _=>hb));have HRs:=G (hrs.keep (.of_ext hEA) (fun _ hb _=>hb));have hpy:wr.heap.size≠b:=by omega
     have hSl:=congrArg List.length HSV.out;have HBD:=G (show ∀(k:Nat),k<px->k<b from HCr.out.hP);generalize hJs:eb [44,32] fps=Js at*;simp only[ab,ae,ag]at hSl;have HLL:=G (show J.length+(5+fn.length+1+Js.length+2+(fq 0 (bW fb 1)).length+1)<=1000000000 from by omega);obtain⟨c1,Hc1⟩: ∃c,Hid ([102,117,110,99,32]++fn=c):=⟨_,G rfl⟩
     have hzc1:c1.length=5+fn.length:=by rw[<-Hc1.out,ab];(try rfl)
     have hsc1:(⟨#[102,117,110,99,32]⟩:ByteArray)++an fn=an c1:=by rw[<-Hc1.out];exact dQ _ _
     have hmc1: ¬9223372036854775807<5+fn.length:=by omega
     have hkc1: ¬9223372036854775807<fn.length+5:=by omega
     have hqc1l:((⟨#[102,117,110,99,32]⟩:ByteArray)).size=5:=rfl;have hqc1fn:(an fn).size=fn.length:=aU _;obtain⟨c2,Hc2⟩: ∃c,Hid (c1++[40]=c):=⟨_,G rfl⟩
     have hzc2:c2.length=c1.length+1:=by rw[<-Hc2.out,ab];(try rfl)
     have hsc2:an c1++(⟨#[40]⟩:ByteArray)=an c2:=by rw[<-Hc2.out];exact dQ _ _
     have hmc2: ¬9223372036854775807<c1.length+1:=by omega
     have hkc2: ¬9223372036854775807<1+c1.length:=by omega
     have hqc2c1:(an c1).size=c1.length:=aU _;have hqc2l:((⟨#[40]⟩:ByteArray)).size=1:=rfl;obtain⟨c3,Hc3⟩: ∃c,Hid (c2++Js=c):=⟨_,G rfl⟩
     have hzc3:c3.length=c2.length+Js.length:=by rw[<-Hc3.out,ab];(try rfl)
     have hsc3:an c2++an Js=an c3:=by rw[<-Hc3.out];exact dQ _ _
     have hmc3: ¬9223372036854775807<c2.length+Js.length:=by omega
     have hkc3: ¬9223372036854775807<Js.length+c2.length:=by omega
     have hqc3c2:(an c2).size=c2.length:=aU _;have hqc3Js:(an Js).size=Js.length:=aU _;obtain⟨c4,Hc4⟩: ∃c,Hid (c3++[41,32]=c):=⟨_,G rfl⟩
     have hzc4:c4.length=c3.length+2:=by rw[<-Hc4.out,ab];(try rfl)
     have hsc4:an c3++(⟨#[41,32]⟩:ByteArray)=an c4:=by rw[<-Hc4.out];exact dQ _ _
     have hmc4: ¬9223372036854775807<c3.length+2:=by omega
     have hkc4: ¬9223372036854775807<2+c3.length:=by omega
     have hqc4c3:(an c3).size=c3.length:=aU _;have hqc4l:((⟨#[41,32]⟩:ByteArray)).size=2:=rfl;have Hzc1:=G hzc1;clear hzc1;have Hzc2:=G hzc2;clear hzc2;have Hzc3:=G hzc3;clear hzc3;have Hzc4:=G hzc4;clear hzc4;have HJs:=G (fun W (h:pC W (fun k=>k<px) (.slice Ap fps.length cp) fps)=>wJ Ap fps.length cp fps (fun k=>k<px) W h (by have a1:=HLL.out;rw[hJs];omega));rw[hJs]at HJs;clear hSl hJl hEA hrn hrs hJs hbd hJJ hob;go_wp2_with fail;have hbw:=aF HC1.out.bu.lt;refine gW b 11 8 [(7,fun x=>x= .string (an Js),fun _ _=>True),(10,fun x=>x= .tuple #[.int .i64 c4.length, .nilIface],fun _ wx=>Bu wx b (J++c4))] 10 mixed (by kernel_rfl) hbw ⟨fun _ _ _ _ _=>trivial,fun _ _ _ h hx=>h.ext hx,trivial⟩ ⟨.inr fun _ _ _ _ _=>trivial, .inl rfl,trivial⟩ ?_;repeat (refine sx ?_ (fun w1 hU=> ?_) ?_;rotate_left;(focus have hF:=lR (hU hbw);have f1:=(hF.keep _ _ _ hpy (by decide) HYB.out).cell;clear hF hU;go_simp<;>with_reducible rfl);simp only[bH,bG,bF,bE,bD])
     refine so (fun w6 hU hp K hK=> ?_) ?_
     ·have hR6:=HRn.out.keep ((lR (hU hbw)).keepP HBD.out) (fun _ hb _=>hb);clear hp hU;go_simp;refine(HJs.out w6 hR6).mono ?_;rintro e w7 ⟨rfl,hE⟩;exact hK _ _ hE rfl trivial
     rintro _ rfl;simp only[bH,bG,bF,bE,bD];repeat (refine sx ?_ (fun w1 hU=> ?_) ?_;rotate_left;(focus have hF:=lR (hU hbw);have f1:=(hF.keep _ _ _ hpy (by decide) HYB.out).cell;clear hF hU;go_simp<;>with_reducible rfl);simp only[bH,bG,bF,bE,bD])
     refine kf _ _ (by rfl) rfl ⟨_,rfl⟩ rfl (fun w6 hT hp K hK=> ?_) ?_
     ·have HC6:=G (HC1.out.ex hT.un);clear hp hT;go_simp;refine(cK b J c4 w6 HC6.out.bu (by have a1:=Hzc1.out;have a2:=Hzc2.out;have a3:=Hzc3.out;have a4:=Hzc4.out;have a5:=HLL.out;omega)).mono ?_;rintro e w7 ⟨rfl,h1,h2⟩;exact hK _ _ (fun _=>h2) rfl h1
     rintro _ rfl;simp only[bH,bG,bF,bE,bD];intro v3 hv3 hp;have HC3:=G (HC1.out.wr (hp _ (.head _)) hv3);have HYB3:=G (hv3.keep _ _ _ hpy (by decide) HYB.out);have hyc:=HYB3.out.cell;have HRv:=G (HRs.out.keep (hv3.keepP HBD.out) (fun _ hb _=>hb));clear hv3 hp HC1;simp only[ac,aO];go_wp2_with (first|(go_at_call 121;refine(HBk.out (fun k=>k<px) _ Ab _ cbb b (J++c4) HRv.out HBD.out HC3.out.tab HC3.out.bu (by have a1:=Hzc1.out;have a2:=Hzc2.out;have a3:=Hzc3.out;have a4:=Hzc4.out;have a5:=HLL.out;simp only[ab];omega)).mono ?_;rintro e u4 ⟨rfl,h1,h2⟩;have HC4:=G (HC3.out.wr h1 h2);clear h1 h2 HC3 hyc)|(go_at_call 118;refine(cK b (J++c4++fq 0 (bW fb 1)) [10] _ HC4.out.bu (by have a1:=Hzc1.out;have a2:=Hzc2.out;have a3:=Hzc3.out;have a4:=Hzc4.out;have a5:=HLL.out;simp only[ab,ae,ag];omega)).mono ?_;rintro e u5 ⟨rfl,h1,h2⟩;have HC5:=G (HC4.out.wr h1 h2);clear h1 h2 HC4));go_roundw
     case rel=>exact⟨j+1,by go_num,by omega,by have h9:=HT.out;have h8:=HSV.out;rw[hJ1,h9,h8,Hc1.out,Hc2.out,Hc3.out,Hc4.out,<-aJ,hJ];simpa[aJ]using HC5⟩
     case measure=>simp[intOf];omega
    ·have hlt': ¬(j:Int)<m:=by omega
     have hjn:j=m:=by omega
     have HQ:=G (show p.fs.take j=p.fs from by rw[hjn,HNF.out,bQ]);rw[HQ.out,HS.out]at HCr;go_wp2_with (go_at_call 122;refine(yH b S _ HCr.out.bu (by omega)).mono ?_;rintro e u9 ⟨rfl,hB9⟩;have HB9:=G hB9;clear hB9);go_ret;exact⟨rfl,show Below w.heap.size w _ from Below.trans HE2.out (Below.mono (Below.trans HCr.out.fb.below HB9.out) (by have:=HXB.out.1;omega))⟩
end
section
open Go.RowKit
theorem tA (l:List UInt8) (hl:l.length<=1073741824) (w:World):Calls prog 59 #[.string (an l)] w fun e w'=>e= .returned (.bool (!dV l))/\au w w':=by
 have HI:=G (df l hl);generalize dV l=r at*;go_enter func59,ntmps59;go_wp2_with (go_at_call 57;refine(HI.out _).mono ?_;rintro e w1 ⟨rfl,rfl⟩);go_ret;exact⟨rfl,aG _⟩
def tq (v:Vr):Bool:=dV v.nm&&decide (0<=v.sz)&&decide (v.sz<=2000)
def pp (f:Fc):Bool:=dV f.nm&&decide (f.ps.length<=4)&&f.ps.all dV&&f.body.all (fun s=>decide (s.dep<=20)&&s.ok)
def mr (p:Pg):Bool:=p.vs.all tq&&p.fs.all pp&&decide (p.vs.length<=20)&&decide (p.fs.length<=20)&&decide ((li p).length<=4000)
theorem r9 {f:Fc} (h:pp f=true):pT f.body=true:=by
 unfold pp at h;simp only[ak,cB,decide_eq_true_eq]at h;rw[jw,cB];exact fun s hs=>(h.2 s hs).2
end
section
open Go.RowKit
def ny (i:Nat) (ts:List (List UInt8)):Nat:=(ts.map fun t=>t.length+i).sum
theorem f_ (i:Nat) (t:List UInt8) (ts:List (List UInt8)):ny i (t::ts)=t.length+i+ny i ts:=by simp[ny]
theorem j9 {i j:Nat} (h:i<=j): ∀ts,ny i ts<=ny j ts
 | []=>ah _
 |t::ts=>by have:=j9 h ts;rw[f_,f_];omega
theorem tK (i:Nat): ∀ts:List (List UInt8),(ts.headD []).length<=ny i ts
 | []=>by simp[ny]
 |t::ts=>by rw[f_];simp;omega
theorem uN (i:Nat): ∀ts:List (List UInt8),(ts.headD []).length+(ts.tail.headD []).length<=ny i ts
 | []=>by simp[ny]
 | [t]=>by rw[f_];simp[ny]<;>omega
 |t::u::ts=>by rw[f_,f_];simp;omega
theorem tT {k:Int} {op nm tx:List UInt8} {v:Int} {ps:List Int} {ss:List (List UInt8)} (hv:k=1->v<=2147483647):
  (tU k op nm tx v ps ss).length<=10+op.length+nm.length+2*tx.length+ny 2 ss:=by
 have h1:=tK 2 ss;have h2:=uN 2 ss;have h3:=pW [44,32] ss;have h4:=tZ tx;have h5:=nB (decide (ps.headD 0<7)) (ss.headD []);have h6:=nB (decide (ps.headD 0<nC op)) (ss.headD []);have h7:=nB (decide (ps.tail.headD 0<=nC op)) (ss.tail.headD []);have h8:k=1->(ko v.toNat).length<=10:=fun h=>sM (hv h);simp only[ae,ag]at h3;change _<=ny 2 ss at h3;unfold tU;split
 ·have:=h8 (by assumption);omega
 repeat' split
 all_goals (try simp only[ab,ae,ag])
 all_goals omega
mutual
theorem rP: ∀x:Ex,x.ok=true->(cL x).length+2<=12*x.wt
 | .mk k op nm tx v a,h=>by
  rw[Ex.ok,ak]at h;have ha:=nT a h.2
  have hs:=tT (k:=k) (op:=op) (nm:=nm) (tx:=tx) (v:=v) (ps:=a.map Ex.prec) (ss:=eS a) (fun e=>by
   subst e;have h1:=h.1;rw[if_pos rfl]at h1;simp only[ak,decide_eq_true_eq]at h1
   exact h1.1.1.2)
  rw[cL,Ex.wt];omega
theorem nT: ∀l:List Ex,xy l=true->ny 2 (eS l)<=12*jF l
 | [],_=>by simp[eS,ny]
 |x::r,h=>by
  rw[xy,ak]at h;have:=rP x h.1;have:=nT r h.2;rw[eS,f_,jF];omega
end
theorem oM (i:Nat) (ts:List (List UInt8)):(fq i ts).length=3+i+ny (i+2) ts:=by
 have h: ∀ts:List (List UInt8),(ts.flatMap (fun t=>jR (i+1)++t++[10])).length=ny (i+2) ts:=by
  intro ts
  induction ts with
  |nil=>rfl
  |cons t r ih=>rw[br,ab,ih,f_];simp[jR];omega
 unfold fq;rw[ab,ab,h];simp[jR];omega
theorem tS {i:Nat} {k:Int} {nm:List UInt8} {es bs ls l0:List (List UInt8)} {na:Bool} {E B L:Nat} (he:ny 0 es<=E) (hb:ny (i+2) bs<=B)
  (hl:ny (i+2) ls<=L) (h0:ny 0 l0<=L):(ke i k nm es bs ls l0 na).length<=20+2*i+nm.length+E+B+L:=by
 have h1:=tK 0 es;have h2:=uN 0 es;have h3:=tK 0 l0;have h4:=oM i bs;have h5:=oM i ls;unfold ke;repeat' split
 all_goals simp only[ab,ae,ag,x8,Fp,D9,nO,x7,nv]
 all_goals omega
theorem Co (i:Nat) (ts:List (List UInt8)):ny 0 ts<=ny i ts:=j9 (aC _) ts
mutual
theorem v_: ∀(x:St) (i:Nat),x.ok=true->i+x.dep<=21->(d6 x i).length+i+2<=150*x.wt
 | .mk k nm e b l,i,h,hd=>by
  rw[St.ok]at h;simp only[ak]at h;rw[St.dep]at hd;have h1:=nT e h.1.2;have hb:=iX b (i+1);have hl:=iX l (i+1);have h0:=iX l i;have hb':=hb h.2.1 (by omega);have hl':=hl h.2.2 (by omega);have h0':=h0 h.2.2 (by omega);have m1:=j9 (show i+2<=i+1+2 by omega) (bW b (i+1));have m2:=j9 (show i+2<=i+1+2 by omega) (bW l (i+1));have m3:=Co 2 (eS e);have m4:=Co (i+2) (bW l i);have:=tS (i:=i) (k:=k) (nm:=nm) (es:=eS e) (bs:=bW b (i+1)) (ls:=bW l (i+1)) (l0:=bW l i) (na:=mI l) (E:=12*jF e) (B:=150*gF b) (L:=150*gF l)
   (by omega) (by omega) (by omega) (by omega)
  rw[d6,St.wt];omega
theorem iX: ∀(l:List St) (i:Nat),pT l=true->i+gg l<=21->ny (i+2) (bW l i)<=150*gF l
 | [],i,_,_=>by simp[bW,ny]
 |x::r,i,h,hd=>by
  rw[pT,ak]at h;rw[gg]at hd;have:=v_ x i h.1 (by omega);have:=iX r i h.2 (by omega);rw[bW,f_,gF];omega
end
theorem j_ {α:Type} (f g:α->Nat): ∀(l:List α),(∀x,x∈l->f x<=g x)->(l.map f).sum<=(l.map g).sum
 | [],_=>ah _
 |x::r,h=>by
  have:=j_ f g r (fun y hy=>h y (gE _ hy));have:=h x (fQ ..);simp only[bS,fI];omega
theorem g7 {α:Type} (c:Nat): ∀(l:List α),(l.map fun _=>c).sum=c*l.length
 | []=>rfl
 |x::r=>by rw[bS,fI,g7 c r,ae,Nat.mul_succ];omega
theorem ot {l:List UInt8} (h:dV l=true):l.length<=14:=by
 unfold dV at h;simp only[ak,decide_eq_true_eq]at h;exact h.1.1.2
theorem yk {v:Vr} (h:tq v=true):(lh v).length<=40:=by
 unfold tq at h;simp only[ak,decide_eq_true_eq]at h;have:=ot h.1.1;have:=sM (v:=v.sz) (by omega);unfold lh;split<;>simp only[ab,ae,ag,x8]<;>omega
theorem Bn {f:Fc} (h:pp f=true):gg f.body<=20:=by
 unfold pp at h;simp only[ak,cB,decide_eq_true_eq]at h;have h2:=h.2;clear h;generalize f.body=l at*
 induction l with
 |nil=>exact aC _
 |cons x r ih=>
  have:=ih fun s hs=>h2 s (gE _ hs);have:=(h2 x (fQ ..)).1;rw[gg];omega
theorem yn {f:Fc} (h:pp f=true):(lk f).length<=100+150*gF f.body:=by
 have hb:=iX f.body 1 (r9 h) (by have:=Bn h;omega);have hk:=oM 0 (bW f.body 1);have hj:=pW [44,32] f.ps;have hm:=j9 (show 0+2<=1+2 by omega) (bW f.body 1);unfold pp at h;simp only[ak,cB,decide_eq_true_eq]at h;have h1:=ot h.1.1.1;have h2:=j_ (fun s:List UInt8=>s.length+[44,32].length) (fun _=>16) f.ps (fun s hs=>by have:=ot (h.1.2 s hs);simp;omega);rw[g7]at h2;unfold lk;simp only[ab,ae,ag,x9];omega
theorem ym {p:Pg} (hv:p.vs.all tq=true) (hf:p.fs.all pp=true) (h1:p.vs.length<=20) (h2:p.fs.length<=20):(li p).length<=2800+150*(p.fs.map fun f=>gF f.body).sum:=by
 have a1:(p.vs.flatMap lh).length<=40*p.vs.length:=by
  rw[gT];have:=j_ (fun v=>(lh v).length) (fun _=>40) p.vs (fun v hm=>yk (List.all_eq_true.1 hv v hm));rwa [g7]at this
 have a2:(p.fs.flatMap lk).length<=100*p.fs.length+150*(p.fs.map fun f=>gF f.body).sum:=by
  rw[gT];have:=j_ (fun f=>(lk f).length) (fun f=>100+150*gF f.body) p.fs (fun f hm=>yn (List.all_eq_true.1 hf f hm));have e: ∀l:List Fc,(l.map fun f=>100+150*gF f.body).sum=100*l.length+150*(l.map fun f=>gF f.body).sum:=by
   intro l
   induction l with
   |nil=>rfl
   |cons f r ih=>simp only[bS,fI,ae,ih];omega
  rwa [e]at this
 unfold li;rw[ab];omega
def Fc.wt (f:Fc):Nat:=f.nm.length+(f.ps.map fun s=>s.length+1).sum+gF f.body
def qA (p:Pg):Nat:=(p.vs.map fun v=>v.nm.length+1).sum+(p.fs.map fun f=>f.wt+1).sum
theorem yO (p:Pg):(p.fs.map fun f=>gF f.body).sum<=qA p:=by
 have:=j_ (fun f:Fc=>gF f.body) (fun f=>f.wt+1) p.fs (fun f _=>by unfold Fc.wt;omega);unfold qA;omega
theorem qP {α:Type} (f:α->Nat): ∀(l:List α) (x:α),x∈l->f x<=(l.map f).sum
 |y::r,x,h=>by
  rw[bS,fI];rcases List.mem_cons.1 h with rfl|h
  ·omega
  ·have:=qP f r x h;omega
end
section
open Go.RowKit
structure VQ (px:Nat) (w0:World) (P:Nat->Prop) (vv fv:Value) (p:Pg) (W:World):Prop where
 box:aP W px 31 #[vv,fv]
 rv:nG W P vv p.vs
 rf:oT W P fv p.fs
 ext:au w0 W
theorem VQ.ex {px:Nat} {w0 W W':World} {P:Nat->Prop} {vv fv:Value} {p:Pg} (h:VQ px w0 P vv fv p W) (hE:au W W'):VQ px w0 P vv fv p W':=
 ⟨h.box.ext hE,h.rv.keep (.of_ext hE) (fun _ hb _=>hb),h.rf.keep (.of_ext hE) (fun _ hb _=>hb),h.ext.trans hE⟩
def qH (s:St):Bool:=decide (s.dep<=20)&&s.ok
theorem gS {α:Type} (f:α->Bool) (l:List α) (j:Nat) (h:j<l.length) (hf:f l[j]=false):l.all f=false:=by
 cases hh:l.all f with
 |false=>rfl
 |true=>rw[cB]at hh;have:=hh _ (ap h);rw[hf]at this;cases this
theorem ir {α:Type} (f:α->Bool) (l:List α) (j:Nat) (h:j<l.length) (h1:(l.take j).all f=true) (h2:f l[j]=true):(l.take (j+1)).all f=true:=by
 rw[aM h,gP,h1];simp[h2]
theorem vL (p:Pg) (hvn: ∀v,v∈p.vs->v.nm.length<=1073741824) (P:Nat->Prop) (w:World) (A B:Option Addr) (n c m d:Nat) (hfn: ∀f,f∈p.fs->f.nm.length<=1073741824/\(∀y,y∈f.ps->y.length<=1073741824)/\ ∀s,s∈f.body->s.wt<=1073741824) (hsrc:p.vs.all tq=true->p.fs.all pp=true->p.vs.length<=20->p.fs.length<=20->(li p).length<=1000000000) (hV:nG w P (.slice A n c) p.vs) (hF:oT w P (.slice B m d) p.fs) (hT:dK w w.heap.size):
  Calls prog 28 #[.agg #[.slice A n c, .slice B m d]] w fun e w'=>e= .returned (.bool (mr p))/\au w w':=by
 have hnv:n=p.vs.length/\n<=maxLen:=by
  obtain⟨A',c',hv,h⟩:=hV;injection hv with _ hn _;refine⟨hn,?_⟩;rcases h with h|⟨h1,h2,_⟩
  ·rw[hn,h];exact aC _
  ·omega
 have hnf:m=p.fs.length/\m<=maxLen:=by
  obtain⟨A',c',hv,h⟩:=hF;injection hv with _ hn _;refine⟨hn,?_⟩;rcases h with h|⟨h1,h2,_⟩
  ·rw[hn,h];exact aC _
  ·omega
 obtain⟨hnv,hnm⟩:=hnv;obtain⟨hnf,hnn⟩:=hnf;unfold maxLen at hnm hnn;have HNV:=G hnv;have HNF:=G hnf;have HVN:=G hvn;have HFN0:=G hfn;have HSRC:=G hsrc;have HTAB:=G hT;generalize hR:mr p=R;have HR:=G hR;have hEb:=aa w (.cells #[.slice A n c, .slice B m d] 31);have HC0:=G (show VQ w.heap.size w P (.slice A n c) (.slice B m d) p (w.alloc (.cells #[.slice A n c, .slice B m d] 31))from⟨aw w _ _,hV.keep (.of_ext hEb) (fun _ hb _=>hb),hF.keep (.of_ext hEb) (fun _ hb _=>hb),hEb⟩);have hbc:=HC0.out.box.cell;clear hnv hnf hvn hfn hsrc hR hEb hV hF hT;go_enter func28,ntmps28;go_wp2_with fail
 go_loopw [12] (fun vi wr=> ∃j:Nat,vi= .int .i64 (j:Int)/\j<=n/\Hid ((p.vs.take j).all tq=true)/\Hid (VQ w.heap.size w P (.slice A n c) (.slice B m d) p wr)) (fun vi _=>n-(intOf vi).toNat)
 case atStart=>exact⟨0,rfl,aC _,G (by simp),HC0⟩
 case round=>
  clear HC0 hbc;obtain⟨j,rfl,hj,HA,HCr⟩:=hrel;by_cases hlt:j<n
  ·have hlt':(j:Int)<n:=by omega
   have hjl:j<p.vs.length:=by have:=HNV.out;omega
   obtain⟨A',c',hv,hh⟩:=HCr.out.rv;injection hv with hA hn' hc';rcases hh with hh|⟨h1,h2,b9,o9,hA2,hP9,hb9,hcl⟩
   ·rw[hh]at hjl;simp at hjl
   obtain⟨e0,e1⟩:=hcl j hjl;have hA3:A=some ⟨b9,o9,none⟩:=hA.trans hA2;subst hA3;clear hcl hA hA2 hn' hc' h1 h2 hP9;have hvl:=HVN.out _ (ap hjl);have HBAD:=G (fun h:tq p.vs[j]=false=>show R=false by rw[<-HR.out,mr,gS tq p.vs j hjl h];rfl);have HGOOD:=G (fun h:tq p.vs[j]=true=>ir tq p.vs j hjl HA.out h);have HOKV:=G (show tq p.vs[j]=(dV p.vs[j].nm&&decide (0<=p.vs[j].sz)&&decide (p.vs[j].sz<=2000))from rfl);generalize tq p.vs[j]=ov at*;generalize p.vs[j].nm=vn at*;generalize p.vs[j].sz=vz at*;have HI:=G (df vn hvl);generalize dV vn=bn at*;have HC1:=G (HCr.out.ex (aa wr (.cells #[.string (an vn), .int .i64 vz] 76)));have hyc:=(aw wr 76 #[.string (an vn), .int .i64 vz]).cell;by_cases hok:bn=true/\0<=vz/\vz<=2000
   ·obtain⟨rfl,hz0,hz1⟩:=hok;have HT:=G (HGOOD.out (by rw[HOKV.out];simp[hz0,hz1]));have hz2: ¬vz<0:=by omega
    have hz3: ¬2000<vz:=by omega
    go_wp2_with (go_at_call 57;refine(HI.out _).mono ?_;rintro e w1 ⟨rfl,rfl⟩);go_roundw
    case rel=>exact⟨j+1,by go_num,by omega,HT,HC1⟩
    case measure=>simp[intOf];omega
   ·have HFN:=G (HBAD.out (by
     rw[HOKV.out]
     cases bn with
     |false=>rfl
     |true=>
      by_cases h0:0<=vz
      ·have h1: ¬vz<=2000:=fun h=>hok ⟨rfl,h0,h⟩;simp[h1]
      ·simp[h0]))
    have HZ:=G HC1.out.ext
    cases bn with
    |false=>
     clear hok;go_wp2_with (go_at_call 57;refine(HI.out _).mono ?_;rintro e w1 ⟨rfl,rfl⟩);go_ret;exact⟨by rw[HFN.out];rfl,HZ.out⟩
    |true=>
     by_cases hz0:vz<0
     ·clear hok;go_wp2_with (go_at_call 57;refine(HI.out _).mono ?_;rintro e w1 ⟨rfl,rfl⟩);go_ret;exact⟨by rw[HFN.out];rfl,HZ.out⟩
     ·have hz1:2000<vz:=by
       by_cases h:2000<vz
       ·exact h
       ·exact absurd ⟨rfl,by omega,by omega⟩ hok
      clear hok;go_wp2_with (go_at_call 57;refine(HI.out _).mono ?_;rintro e w1 ⟨rfl,rfl⟩);go_ret;exact⟨by rw[HFN.out];rfl,HZ.out⟩
  ·have hlt': ¬(j:Int)<n:=by omega
   have hjn:j=n:=by omega
   have HQ:=G (show p.vs.all tq=true by have:=HA.out;rwa [hjn,HNV.out,bQ]at this);have hbc:=HCr.out.box.cell;go_wp2_with fail;clear hlt hlt' hjn hj HA
   go_loopw [34] (fun vi wr=> ∃j:Nat,vi= .int .i64 (j:Int)/\j<=m/\Hid ((p.fs.take j).all pp=true)/\Hid (VQ w.heap.size w P (.slice A n c) (.slice B m d) p wr)) (fun vi _=>m-(intOf vi).toNat)
   case atStart=>exact⟨0,rfl,aC _,G (by simp),HCr⟩
   case round=>
    clear HCr hbc;obtain⟨j,rfl,hj,HA,HCr⟩:=hrel;by_cases hlt:j<m
    ·have hlt':(j:Int)<m:=by omega
     have hjl:j<p.fs.length:=by have:=HNF.out;omega
     obtain⟨A',c',hv,hh⟩:=HCr.out.rf;injection hv with hA hn' hc';rcases hh with hh|⟨h1,h2,b9,o9,hA2,hP9,hb9,pv,bv,hcl⟩
     ·rw[hh]at hjl;simp at hjl
     obtain⟨e0,e1,e2,hrn,hrs⟩:=hcl j hjl;have hA3:B=some ⟨b9,o9,none⟩:=hA.trans hA2;subst hA3;clear hcl hA hA2 hn' hc' h1 h2 hP9;obtain⟨hfl,hfp,hfw⟩:=HFN0.out _ (ap hjl);have HBAD:=G (fun h:pp p.fs[j]=false=>show R=false by rw[<-HR.out,mr,gS pp p.fs j hjl h];simp);have HGOOD:=G (fun h:pp p.fs[j]=true=>ir pp p.fs j hjl HA.out h);have HOKF:=G (show pp p.fs[j]=(dV p.fs[j].nm&&decide (p.fs[j].ps.length<=4)&&p.fs[j].ps.all dV&&p.fs[j].body.all qH)from rfl);generalize pp p.fs[j]=ov at*;generalize p.fs[j].nm=fn at*;generalize p.fs[j].ps=fps at*;generalize p.fs[j].body=fb at*;generalize pv j=pvj at*;generalize bv j=bvj at*;obtain⟨Ap,cp,rfl,hcap⟩:=id hrn;obtain⟨Ab,cbb,rfl,hbl⟩:=hrs.form;have hbl:fb.length<=maxLen:=by
      rcases hbl with h|⟨h1,h2,_⟩
      ·rw[h];exact aC _
      ·omega
     unfold maxLen at hbl;have HI:=G (df fn hfl);generalize dV fn=bn at*;have hEA:=aa wr (.cells #[.string (an fn), .slice Ap fps.length cp, .slice Ab fb.length cbb] 81);have HC1:=G (HCr.out.ex hEA);have HYB:=G (aw wr 81 #[.string (an fn), .slice Ap fps.length cp, .slice Ab fb.length cbb]);have hyc:=HYB.out.cell;have HRn:=G (hrn.keep (.of_ext hEA) (fun _ hb _=>hb));have HRs:=G (hrs.keep (.of_ext hEA) (fun _ hb _=>hb));have HCON:=G (fun(W:World) (h:pC W P (.slice Ap fps.length cp) fps) (h4:fps.length<=1073741824)=>zQ (fun y=> !dV y) fps P W Ap fps.length cp h h4 (fun y hy w' _=>tA y (hfp y hy) w'));clear hEA hrn hrs hcap
     cases bn with
     |false=>
      have HFN:=G (HBAD.out (by rw[HOKF.out];simp));have HZ:=G HC1.out.ext;go_wp2_with (go_at_call 57;refine(HI.out _).mono ?_;rintro e w1 ⟨rfl,rfl⟩);go_ret;exact⟨by rw[HFN.out];rfl,HZ.out⟩
     |true=>
      by_cases h4:4<fps.length
      ·have HFN:=G (HBAD.out (by rw[HOKF.out];simp[show ¬fps.length<=4 from by omega]));have HZ:=G HC1.out.ext;have h4i:(4:Int)<fps.length:=by omega
       go_wp2_with (go_at_call 57;refine(HI.out _).mono ?_;rintro e w1 ⟨rfl,rfl⟩);go_ret;exact⟨by rw[HFN.out];rfl,HZ.out⟩
      ·have h4i: ¬(4:Int)<fps.length:=by omega
       have HCO:=G (HCON.out _ HRn.out (by omega));have HAL:=G (show fps.any (fun y=> !dV y)= !fps.all dV from by rw[List.not_all_eq_any_not]);rw[HAL.out]at HCO;clear HAL HCON
       cases hal:fps.all dV with
       |false=>
        rw[hal]at HCO;have HFN:=G (HBAD.out (by rw[HOKF.out,hal];simp));clear hal;go_wp2_with (first|(go_at_call 57;refine(HI.out _).mono ?_;rintro e w1 ⟨rfl,rfl⟩)|(go_at_call 58;refine HCO.out.mono ?_;rintro e w3 ⟨rfl,hE⟩;have HZ:=G (HC1.out.ex hE).ext;clear hE));go_ret;exact⟨by rw[HFN.out];rfl,HZ.out⟩
       |true=>
        rw[hal]at HCO;have HT0:=G (show ov=fb.all qH from by rw[HOKF.out,hal];simp[show fps.length<=4 from by omega]);clear hal;go_wp2_with (first|(go_at_call 57;refine(HI.out _).mono ?_;rintro e w1 ⟨rfl,rfl⟩)|(go_at_call 58;refine HCO.out.mono ?_;rintro e w3 ⟨rfl,hE⟩;have HC2:=G (HC1.out.ex hE);have HYB2:=G (HYB.out.ext hE);clear hyc;have hyc:=HYB2.out.cell;have HRw:=G (HRs.out.keep (.of_ext hE) (fun _ hb _=>hb));clear hE HC1));clear hyc
        go_loopw [56] (fun vk wr=> ∃k:Nat,vk= .int .i64 (k:Int)/\k<=fb.length/\Hid ((fb.take k).all qH=true)/\Hid (VQ w.heap.size w P (.slice A n c) (.slice (some ⟨b9,o9,none⟩) m d) p wr)/\Hid (dS wr P (.slice Ab fb.length cbb) fb)) (fun vk _=>fb.length-(intOf vk).toNat)
        case atStart=>exact⟨0,rfl,aC _,G (by simp),HC2,HRw⟩
        case round=>
         clear HC2 HRw HYB2 HYB HRs HRn HCO HCr;obtain⟨k,rfl,hk,HAk,HCq,HRq⟩:=hrel;by_cases hkl:k<fb.length
         ·have hkl':(k:Int)<fb.length:=by omega
          obtain⟨bs,os,eu,ev,ez,rfl,hbs,hPs,q0,q1,q2,q3,q4,hre,hrb,hrl⟩:=HRq.out.at_ k hkl;have hw:=hfw _ (ap hkl);have HBk:=G (fun h:qH fb[k]=false=>HBAD.out (by rw[HT0.out,gS qH fb k hkl h]));have HGk:=G (fun h:qH fb[k]=true=>ir qH fb k hkl HAk.out h);have HOk:=G (show qH fb[k]=(decide (fb[k].dep<=20)&&fb[k].ok)from rfl);generalize qH fb[k]=os1 at*;generalize fb[k]=y at*;obtain⟨Ey,ey,rfl,_⟩:=hre.form;obtain⟨By,by_,rfl,_⟩:=hrb.form;obtain⟨Cy,cy,rfl,_⟩:=hrl.form;have hEA:=aa wr (.cells #[.int .i64 y.k, .string (an y.nm), .slice Ey y.ex.length ey, .slice By y.body.length by_, .slice Cy y.els.length cy] 147);have HC3:=G (HCq.out.ex hEA);have HR3:=G (HRq.out.keep (.of_ext hEA) (fun _ hb _=>hb) (Q:=P));have HYS:=G (aw wr 147 #[.int .i64 y.k, .string (an y.nm), .slice Ey y.ex.length ey, .slice By y.body.length by_, .slice Cy y.els.length cy]);have hys:=HYS.out.cell;have HS3:=G (aB (hre.keep (.of_ext hEA) (fun _ hb _=>hb) (Q:=P)) (aB (hrb.keep (.of_ext hEA) (fun _ hb _=>hb) (Q:=P)) (hrl.keep (.of_ext hEA) (fun _ hb _=>hb) (Q:=P))));have HD:=G (fun W h1 h2 h3=>rT y.wt y (ah _) hw P W Ey By Cy y.ex.length ey y.body.length by_ y.els.length cy h1 h2 h3);have HVd:=G (fun W h1 h2 h3=>nP y.wt y (ah _) hw P W Ey By Cy y.ex.length ey y.body.length by_ y.els.length cy h1 h2 h3);clear hre hrb hrl hEA hw;generalize y.dep=dd at*;generalize y.ok=ok1 at*;by_cases hd:dd<=20
          ·have hdi: ¬(20:Int)<dd:=by omega
           cases ok1 with
           |true=>
            have HTk:=G (HGk.out (by rw[HOk.out];simp[hd]));go_wp2_with (first|(go_at_call 60;refine(HD.out _ HS3.out.1 HS3.out.2.1 HS3.out.2.2).mono ?_;rintro e w4 ⟨rfl,hE⟩;have HC4:=G (HC3.out.ex hE);have HR4:=G (HR3.out.keep (.of_ext hE) (fun _ hb _=>hb) (Q:=P));have HYS2:=G (HYS.out.ext hE);clear hys;have hys:=HYS2.out.cell;have HS4:=G (aB (HS3.out.1.keep (.of_ext hE) (fun _ hb _=>hb) (Q:=P)) (aB (HS3.out.2.1.keep (.of_ext hE) (fun _ hb _=>hb) (Q:=P)) (HS3.out.2.2.keep (.of_ext hE) (fun _ hb _=>hb) (Q:=P))));clear hE HC3)|(go_at_call 61;refine(HVd.out _ HS4.out.1 HS4.out.2.1 HS4.out.2.2).mono ?_;rintro e w5 ⟨rfl,hE⟩;have HC5:=G (HC4.out.ex hE);have HR5:=G (HR4.out.keep (.of_ext hE) (fun _ hb _=>hb) (Q:=P));clear hE HC4));go_roundw
            case rel=>exact⟨k+1,by go_num,by omega,HTk,HC5,HR5⟩
            case measure=>simp[intOf];omega
           |false=>
            have HFN:=G (HBk.out (by rw[HOk.out];simp));go_wp2_with (first|(go_at_call 60;refine(HD.out _ HS3.out.1 HS3.out.2.1 HS3.out.2.2).mono ?_;rintro e w4 ⟨rfl,hE⟩;have HC4:=G (HC3.out.ex hE);have HR4:=G (HR3.out.keep (.of_ext hE) (fun _ hb _=>hb) (Q:=P));have HYS2:=G (HYS.out.ext hE);clear hys;have hys:=HYS2.out.cell;have HS4:=G (aB (HS3.out.1.keep (.of_ext hE) (fun _ hb _=>hb) (Q:=P)) (aB (HS3.out.2.1.keep (.of_ext hE) (fun _ hb _=>hb) (Q:=P)) (HS3.out.2.2.keep (.of_ext hE) (fun _ hb _=>hb) (Q:=P))));clear hE HC3)|(go_at_call 61;refine(HVd.out _ HS4.out.1 HS4.out.2.1 HS4.out.2.2).mono ?_;rintro e w5 ⟨rfl,hE⟩;have HZ:=G (HC4.out.ex hE).ext;clear hE HC4));go_ret;exact⟨by rw[HFN.out];rfl,HZ.out⟩
          ·have hdi:(20:Int)<dd:=by omega
           have HFN:=G (HBk.out (by rw[HOk.out];simp[hd]));go_wp2_with (go_at_call 60;refine(HD.out _ HS3.out.1 HS3.out.2.1 HS3.out.2.2).mono ?_;rintro e w4 ⟨rfl,hE⟩;have HZ:=G (HC3.out.ex hE).ext;clear hE HC3);go_ret;exact⟨by rw[HFN.out];rfl,HZ.out⟩
         ·have hkl': ¬(k:Int)<fb.length:=by omega
          have hkn:k=fb.length:=by omega
          have HT:=G (HGOOD.out (by have:=HAk.out;rw[hkn,bQ]at this;rw[HT0.out];exact this));go_wp2_with fail;go_roundw
          case rel=>exact⟨j+1,by go_num,by omega,HT,HCq⟩
          case measure=>simp[intOf];omega
    ·have hlt': ¬(j:Int)<m:=by omega
     have hjn:j=m:=by omega
     have HQF:=G (show p.fs.all pp=true by have:=HA.out;rwa [hjn,HNF.out,bQ]at this);have HRR:=G (show R=(decide (n<=20)&&decide (m<=20)&&decide ((li p).length<=4000)) by rw[<-HR.out,mr,HQ.out,HQF.out,<-HNV.out,<-HNF.out];simp);have hbc:=HCr.out.box.cell;clear hj hjn HA HR;by_cases h20:n<=20
     ·have h20i:(n:Int)<=20:=by omega
      by_cases hm20:m<=20
      ·have hm20i:(m:Int)<=20:=by omega
       have HSO:=G (tQ p (fun f hf=>r9 (List.all_eq_true.1 HQF.out f hf)) (fun v hv=>by have:=List.all_eq_true.1 HQ.out v hv;unfold tq at this;simp only[ak,decide_eq_true_eq]at this;omega) P _ A B n c m d HCr.out.rv HCr.out.rf ⟨(HTAB.out.fb (aQ HCr.out.ext (ah _))).1,aA HTAB.out.2 HCr.out.ext.size⟩ (HSRC.out HQ.out HQF.out (by have:=HNV.out;omega) (by have:=HNF.out;omega)));generalize li p=S at*;have hsz:(an S).size=S.length:=aU S;by_cases hs:S.length<=4000
       ·have hsi:(S.length:Int)<=4000:=by omega
        go_wp2_with (go_at_call 62;refine HSO.out.mono ?_;rintro e w9 ⟨rfl,hE⟩;have HZ:=G (HCr.out.ex hE).ext;clear hE);go_ret;exact⟨by rw[HRR.out];simp[h20,hm20,hs,dn],HZ.out⟩
       ·have hsi: ¬(S.length:Int)<=4000:=by omega
        go_wp2_with (go_at_call 62;refine HSO.out.mono ?_;rintro e w9 ⟨rfl,hE⟩;have HZ:=G (HCr.out.ex hE).ext;clear hE);go_ret;exact⟨by rw[HRR.out];simp[h20,hm20,hs,dn];(try omega),HZ.out⟩
      ·have hm20i: ¬(m:Int)<=20:=by omega
       have HZ:=G HCr.out.ext;go_wp2_with fail;go_ret;exact⟨by rw[HRR.out];simp[h20,hm20,dn],HZ.out⟩
     ·have h20i: ¬(n:Int)<=20:=by omega
      have HZ:=G HCr.out.ext;go_wp2_with fail;go_ret;exact⟨by rw[HRR.out];simp[h20,dn],HZ.out⟩
end
section
open Go.RowKit
theorem yX {p:Pg} (hw:qA p<=6000000) (hv:p.vs.all tq=true) (hf:p.fs.all pp=true) (h1:p.vs.length<=20) (h2:p.fs.length<=20):(li p).length<=1000000000:=by
 have:=ym hv hf h1 h2;have:=yO p;omega
theorem Cs {p:Pg} {v:Vr} (h:v∈p.vs):v.nm.length<=qA p:=by
 have:=qP (fun v:Vr=>v.nm.length+1) p.vs v h;unfold qA;omega
theorem r5 {p:Pg} {f:Fc} (h:f∈p.fs):f.wt<=qA p:=by
 have:=qP (fun f:Fc=>f.wt+1) p.fs f h;unfold qA;omega
theorem yN {f:Fc}:f.nm.length<=f.wt:=by unfold Fc.wt;omega
theorem Ct {f:Fc} {y:List UInt8} (h:y∈f.ps):y.length<=f.wt:=by
 have:=qP (fun s:List UInt8=>s.length+1) f.ps y h;unfold Fc.wt;omega
theorem EF {f:Fc} {s:St} (h:s∈f.body):s.wt<=f.wt:=by
 have:=co h;unfold Fc.wt;omega
theorem uJ (p:Pg) (hw:qA p<=6000000) (P:Nat->Prop) (w:World) (A B:Option Addr) (n c m d:Nat) (hV:nG w P (.slice A n c) p.vs) (hF:oT w P (.slice B m d) p.fs) (hT:dK w w.heap.size):
  Calls prog 28 #[.agg #[.slice A n c, .slice B m d]] w fun e w'=>e= .returned (.bool (mr p))/\au w w':=
 vL p (fun v hv=>by have:=Cs hv;omega) P w A B n c m d
  (fun f hf=>⟨by have:=r5 hf;have:=yN (f:=f);omega,fun y hy=>by have:=r5 hf;have:=Ct hy;omega,fun s hs=>by have:=r5 hf;have:=EF hs;omega⟩)
  (fun h1 h2 h3 h4=>yX hw h1 h2 h3 h4) hV hF hT
end
section
end
section
end
section
def Fe (v:Int):Prop:= -2147483648<=v/\v<2147483648
instance (v:Int):Decidable (Fe v):=inferInstanceAs (Decidable (_/\ _))
theorem uI (v:Int):Fe (tz v):=by unfold tz Fe;simp[IntKind.wrap,IntKind.signed,IntKind.bits];omega
end
section
def nj (x:Ex):Pg:=⟨[],[⟨cY,[],[.mk 6 [] [x] [] []]⟩]⟩
theorem AY {x:Ex} (h:x.ok=true) (hd:x.dep<=19) (hw:x.wt<=200):mr (nj x)=true:=by
 have hb:pT [.mk 6 [] [x] [] []]=true:=by simp[pT,St.ok,xy,h]
 have hf:pp ⟨cY,[],[.mk 6 [] [x] [] []]⟩=true:=by
  have h1:dV cY=true:=by decide
  have h2:(St.mk 6 [] [x] [] []).dep<=20:=by simp[St.dep,fW,gg];omega
  unfold pp;rw[h1];simp only[pT,gA]at hb;simp[h2,hb]
 have hs:(li (nj x)).length<=4000:=by
  have:=rP x h;have e:li (nj x)=[102,117,110,99,32,109,97,105,110,40,41,32,123,10,9,114,101,116,117,114,110,32]++(cL x++[59,10,125,10]):=by
   simp[li,nj,lk,bW,d6,ke,eS,fq,jR,eb,cY,x9,nv]
  rw[e];simp only[ab,ae,ag];omega
 unfold mr;rw[show(nj x).vs.all tq=true from rfl,show(nj x).fs.all pp=true from by simp[nj,hf],decide_eq_true hs];rfl
end
section
open Go.RowKit
theorem au.drewN {a w:World} (h:au a w) (n:Nat):au a (w.drewN n):=h.trans ⟨rfl,rfl,rfl,ah _,fun _ _=>rfl⟩
def DV:Array Value:=(rm.flatMap fun x=>[.string (an x.1), .int .i64 x.2.1, .string (an x.2.2)]).toArray
def xm (i:Nat):List UInt8×Int×List UInt8:=rm.getD i ([],0,[])
def BT (w:World):Prop:= ∃t fr,w.heap[1]? =some (.cells DV t fr)
theorem BT.ext {w w':World} (h:BT w) (he:au w w'):BT w':=let⟨t,fr,h⟩:=h;⟨t,fr,(he.obj (Array.getElem?_eq_some_iff.1 h).1).trans h⟩
theorem BT.load {w:World} (h:BT w):(loadVar 295 ⟨1,0,none⟩).run prog w= .ok (.agg DV) w:=
 let⟨t,fr,h⟩:=h;run_loadVar_row w _ t _ DV fr _ h underlying295 rfl (by kernel_rfl)
theorem Ai: ∀(i:Nat) (hi:i<19) (w:World),(Instr.index 295 (.agg DV) (.int .i64 (i:Int))).run prog w= .ok (.agg #[.string (an (xm i).1), .int .i64 (xm i).2.1, .string (an (xm i).2.2)]) w
 |0,_,w=>by kernel_rfl
 |1,_,w=>by kernel_rfl
 |2,_,w=>by kernel_rfl
 |3,_,w=>by kernel_rfl
 |4,_,w=>by kernel_rfl
 |5,_,w=>by kernel_rfl
 |6,_,w=>by kernel_rfl
 |7,_,w=>by kernel_rfl
 |8,_,w=>by kernel_rfl
 |9,_,w=>by kernel_rfl
 |10,_,w=>by kernel_rfl
 |11,_,w=>by kernel_rfl
 |12,_,w=>by kernel_rfl
 |13,_,w=>by kernel_rfl
 |14,_,w=>by kernel_rfl
 |15,_,w=>by kernel_rfl
 |16,_,w=>by kernel_rfl
 |17,_,w=>by kernel_rfl
 |18,_,w=>by kernel_rfl
 |n+19,h,_=>absurd h (by omega)
theorem bU {P:Program} {w:World} {ops:Array Oper} {rest:List Oper} {o:Oper} {a:Act} {Q:Exit->Act->World->Prop} (hg:o.guard=none) (ty:TypeId) (x:Operand) (ho:o.op= .load ty x) (g:Nat) (hx:a.eval x= .pointer (some ⟨g,0,none⟩))
  (v:Value) (hl:(loadVar ty ⟨g,0,none⟩).run P w= .ok v w) (hK:wpList P ops Q rest (a.put o.dst v) w):wpList P ops Q (o::rest) a w:=by
 refine wpList_plain hg fun K' hK'=> ?_;unfold Oper.wp;simp[execOp,ho,Instr.loadAt,Instr.sureAddr,hx,hl,Result.andThen];exact hK' _ _ hK
theorem xj (s:List UInt8):fx s=((rm.drop 0).find? (fun x=>x.1==s)).map (·.2):=rfl
theorem B_ {s:List UInt8} {i:Nat} (hi:i<19):((rm.drop i).find? (fun x=>x.1==s)).map (·.2)=if(xm i).1==s then some (xm i).2 else((rm.drop (i+1)).find? (fun x=>x.1==s)).map (·.2):=by
 have hl:i<rm.length:=hi;have e:rm[i]=xm i:=by unfold xm;rw[bI,aD hl];rfl
 rw[am hl,gN,e]
 cases (xm i).1==s<;>rfl
def DR:Bi->Ending
 |some (c,a)=> .returned (.tuple #[.int .i64 c, .string (an a), .bool true])
 |none=> .returned (.tuple #[.int .i64 0, .string (an []), .bool false])
theorem kK (s:List UInt8) (w:World) (h:BT w):Calls prog 175 #[.string (an s)] w fun e w'=>e=DR (fx s)/\au w w':=by
 have hld:=h.load;have HR:=G (xj s);have HX0:=G (aG w);clear h;generalize hC:DV=C at hld;have HC:=G hC;clear hC;go_enter func175,ntmps175;go_wp2_with (refine bU rfl 295 (.global 1) rfl _ rfl _ hld ?_);clear hld
 go_loopw [8] (fun vi wr=> ∃(j:Nat),vi= .int .i64 (j:Int)/\j<=19/\Hid (fx s=((rm.drop j).find? (fun x=>x.1==s)).map (·.2))/\Hid (au w wr)) (fun vi _=>19-(intOf vi).toNat)
 case atStart=>exact⟨0,rfl,by omega,HR,HX0⟩
 case round=>
  obtain⟨j,rfl,hj,HQ,HX⟩:=hrel;by_cases hlt:j<19
  ·have hlt':(j:Int)<19:=by omega
   have hix:=Ai j hlt wr;rw[HC.out]at hix;have HS:=G (B_ (s:=s) hlt);generalize xm j=y at*;obtain⟨nm,c,a⟩:=y;have HX1:=G (HX.out.alloc' (.cells #[.string (an nm), .int .i64 c, .string (an a)] 294))
   cases hs:(nm==s)with
   |true=>
    have HE:=G (show fx s=some (c,a) by rw[HQ.out,HS.out,hs];rfl);go_wp2_with (go_quiet (fail));exact bodyPost_ret (v:= .tuple #[.int .i64 c, .string (an a), .bool true]) (by simp[results,results175,go_sem]) rfl ⟨by rw[HE.out];rfl,HX1.out.drewN _⟩
   |false=>
    have HE:=G (show fx s=((rm.drop (j+1)).find? (fun x=>x.1==s)).map (·.2) by rw[HQ.out,HS.out,hs];rfl);go_wp2_with fail;go_roundw
    case rel=>exact⟨j+1,by go_num,by omega,HE,HX1⟩
    case measure=>simp[intOf];omega
  ·have hlt': ¬(j:Int)<19:=by omega
   obtain rfl:j=19:=by omega
   have HE:=G (show fx s=none from HQ.out);go_wp2_with fail;exact bodyPost_ret (v:= .tuple #[.int .i64 0, .string (an []), .bool false]) (by simp[results,results175,go_sem,an]) rfl ⟨by rw[HE.out];rfl,HX.out⟩
end
end Go.Proofs.YtoedmpgicdekmaaGreatDoor
