/-
  Parts of the proof: PrE PrF PrG VaI.
-/
import Derived.Test.YtddomeddabfinaaGreatDoorTl21
import Derived.Test.YtddomeddabfinaaGreatDoorTl22
set_option maxRecDepth 100000
set_option maxHeartbeats 8000000
set_option linter.unusedVariables false
set_option linter.unusedSimpArgs false
set_option linter.unusedSectionVars false
namespace Go.Proofs.YtddomeddabfinaaGreatDoor
open Go.Proofs.Tryz
open Go.RowKit
theorem tabs_any (i:Nat) (h:i<=1000000000) (w:World):Calls prog 135 #[.string ⟨#[9]⟩, .int .i64 (i:Int)] w fun e w'=>e= .returned (.string (str (tabs i)))/\Ext w w':=by
 refine(Tryz.strings_Repeat ⟨#[9]⟩ i w (by omega) (by show 1*i<=_;omega)).mono ?_;rintro e w' ⟨rfl,h⟩;refine⟨?_,h⟩;have:=Lib.repeatL_replicate 9 1 i;rw[Nat.mul_one]at this;rw[show((⟨#[9]⟩:ByteArray).data.toList)=List.replicate 1 9 from rfl,this];rfl
structure PB (b:Nat) (w0:World) (P:Nat->Prop) (v:Value) (xs:List St) (l:List UInt8) (W:World):Prop where
 bu:Bu W b l
 rd:RdS W P v xs
 fb:FB b w0 W
 tab:TabW W b
 hP: ∀k,P k->k<b
section
variable {b:Nat} {w0 W W':World} {P:Nat->Prop} {v:Value} {xs:List St} {l l':List UInt8}
theorem PB.wr (h:PB b w0 P v xs l W) (hB:Bu W' b l') (hF:FB b W W'):PB b w0 P v xs l' W':=⟨hB,h.rd.keep (hF.keepP h.hP) (fun _ hb _=>hb),h.fb.trans hF,h.tab.fb hF,h.hP⟩
theorem PB.ex (h:PB b w0 P v xs l W) (hE:Ext W W'):PB b w0 P v xs l W':=h.wr (h.bu.ext hE) (FB.of_ext hE (Nat.le_of_lt h.bu.lt))
end
theorem ch_0 (nm:List UInt8) (body:List St) (y:Ex) (hy:PrX y) (hbl:PrBl body) (P:Nat->Prop) (w:World) (A B C:Option Addr) (n c nb cb nl cl b i:Nat) (l:List UInt8) (hR:RdE w P (.slice A n c) [y]) (hRb:RdS w P (.slice B nb cb) body) (hRl:RdS w P (.slice C nl cl) []) (hP: ∀k,P k->k<b) (hT:TabW w b) (hB:Bu w b l) (S:List UInt8) (hS:srcSt (.mk 4 nm [y] body []) i=S) (hl:l.length+S.length<=1000000000):
  Calls prog 176 #[.pointer (some ⟨b,0,none⟩), .agg #[.int .i64 4, .string (str nm), .slice A n c, .slice B nb cb, .slice C nl cl], .int .i64 (i:Int)] w fun e w'=>e= .returned (.tuple #[])/\Bu w' b (l++S)/\FB b w w':=by
 have HS:=hide (show[105,102,32]++srcE y++[32]++blkS i (srcSs body (i+1))++[]=S from by rw[<-hS];simp[srcSt,shapeS,srcSs,srcs,chainB,tIf,tElse]);have hlen:3+(srcE y).length+1+(blkS i (srcSs body (i+1))).length+0=S.length:=by rw[<-HS.out];simp only[List.length_append,List.length_cons,List.length_nil]
 clear hS;have hnl:=hRl.len;simp only[List.length_cons,List.length_nil]at hnl;obtain rfl:nl=0:=hnl;have hn:=hR.len;simp only[List.length_cons,List.length_nil]at hn;obtain rfl:n=1:=hn;obtain⟨b0,o0,a0,hA0,hb0,hP0,y00,y10,y20,y30,y40,y50,hRy0⟩:=hR.at_ 0 (by simp);simp only[List.getElem_cons_zero,List.getElem_cons_succ,Nat.zero_mul,Nat.add_zero,Nat.one_mul]at y00 y10 y20 y30 y40 y50 hRy0;obtain⟨B0,d0,rfl,_⟩:=hRy0.form;have HY0:=hide (And.intro y00 (And.intro y10 (And.intro y20 (And.intro y30 (And.intro y40 y50)))));have HRy0:=hide hRy0;clear y00 y10 y20 y30 y40 y50 hRy0;subst hA0;have HC0:=hide (show PS b w.heap.size w P #[.int .i64 4, .string (str nm), .slice (some ⟨b0,o0,none⟩) 1 c, .slice B nb cb, .slice C 0 cl] (.slice (some ⟨b0,o0,none⟩) 1 c) (.slice B nb cb) (.slice C 0 cl) (.mk 4 nm [y] body []) l _ from⟨Blk.new w 72 #[.int .i64 4, .string (str nm), .slice (some ⟨b0,o0,none⟩) 1 c, .slice B nb cb, .slice C 0 cl],hB.ext (Ext.alloc w _),hR.keep (.of_ext (Ext.alloc w _)) (fun _ hb _=>hb),hRb.keep (.of_ext (Ext.alloc w _)) (fun _ hb _=>hb),hRl.keep (.of_ext (Ext.alloc w _)) (fun _ hb _=>hb),FB.of_ext (Ext.alloc w _) (Nat.le_of_lt hB.lt),hT.fb (FB.of_ext (Ext.alloc w _) (Nat.le_of_lt hB.lt)),Nat.ne_of_gt hB.lt,by decide,hP⟩);have hbc:=HC0.out.box.cell;clear hB hR hT hRb hRl;unfold PrBl at hbl;go_enter func176,ntmps176;have e0:=(HC0.out.fb.keepP hP).cell (o0) hP0 hb0|>.trans HY0.out.1;have e1:=(HC0.out.fb.keepP hP).cell (o0+1) hP0 hb0|>.trans HY0.out.2.1;have e2:=(HC0.out.fb.keepP hP).cell (o0+2) hP0 hb0|>.trans HY0.out.2.2.1;have e3:=(HC0.out.fb.keepP hP).cell (o0+3) hP0 hb0|>.trans HY0.out.2.2.2.1;have e4:=(HC0.out.fb.keepP hP).cell (o0+4) hP0 hb0|>.trans HY0.out.2.2.2.2.1;have e5:=(HC0.out.fb.keepP hP).cell (o0+5) hP0 hb0|>.trans HY0.out.2.2.2.2.2;go_wp2_with (first|(go_at_call 175;refine(words_any y hy [105,102,32] [32] P _ B0 _ d0 b l (HRy0.out.keep (HC0.out.fb.keepP hP) (fun _ hb _=>hb)) hP HC0.out.tab HC0.out.bu (by(try have a1:=Hzc1.out);(try have a2:=Hzc2.out);simp only[List.length_append,List.length_cons,List.length_nil];omega)).mono ?_;rintro e u1 ⟨rfl,h1,h2⟩;have HC1:=hide (HC0.out.wr h1 h2);clear h1 h2 HC0;clear hbc;have hbc:=HC1.out.box.cell)|(go_at_call 94;refine(hbl P _ B nb cb b i (l++([105,102,32]++srcE y++[32])) HC1.out.rb hP HC1.out.tab HC1.out.bu (by(try have a1:=Hzc1.out);(try have a2:=Hzc2.out);simp only[List.length_append,List.length_cons,List.length_nil];omega)).mono ?_;rintro e u2 ⟨rfl,h1,h2⟩;have HC2:=hide (HC1.out.wr h1 h2);clear h1 h2 HC1;clear hbc;have hbc:=HC2.out.box.cell));first|go_end0|((try simp only[Exit.inBlock,Exit.then]);refine bodyPost_ret (results_none rfl _ _ _) rfl ?_)
 exact⟨rfl,by rw[<-HS.out];have:=HC2.out.bu;simpa[List.append_assoc]using this,HC2.out.fb⟩
theorem ch_1 (nm:List UInt8) (body:List St) (y:Ex) (hy:PrX y) (hbl:PrBl body) (s:St) (hk:s.k=4) (hch:PrCh s) (P:Nat->Prop) (w:World) (A B C:Option Addr) (n c nb cb nl cl b i:Nat) (l:List UInt8) (hR:RdE w P (.slice A n c) [y]) (hRb:RdS w P (.slice B nb cb) body) (hRl:RdS w P (.slice C nl cl) [s]) (hP: ∀k,P k->k<b) (hT:TabW w b) (hB:Bu w b l) (S:List UInt8) (hS:srcSt (.mk 4 nm [y] body [s]) i=S) (hl:l.length+S.length<=1000000000):
  Calls prog 176 #[.pointer (some ⟨b,0,none⟩), .agg #[.int .i64 4, .string (str nm), .slice A n c, .slice B nb cb, .slice C nl cl], .int .i64 (i:Int)] w fun e w'=>e= .returned (.tuple #[])/\Bu w' b (l++S)/\FB b w w':=by
 have HS:=hide (show[105,102,32]++srcE y++[32]++blkS i (srcSs body (i+1))++([32,101,108,115,101,32]++srcSt s i)=S from by rw[<-hS];simp[srcSt,shapeS,srcSs,srcs,chainB,tIf,tElse,hk]);have hlen:3+(srcE y).length+1+(blkS i (srcSs body (i+1))).length+(6+(srcSt s i).length)=S.length:=by rw[<-HS.out];simp only[List.length_append,List.length_cons,List.length_nil]
 clear hS;have hnl:=hRl.len;simp only[List.length_cons,List.length_nil]at hnl;obtain rfl:nl=1:=hnl;obtain⟨bs,os,su,sv,sz,hCs,hbs,hPs,q0,q1,q2,q3,q4,hse,hsb,hsl⟩:=hRl.at_ 0 (by simp);simp only[List.getElem_cons_zero,Nat.zero_mul,Nat.add_zero]at q0 q1 q2 q3 q4 hse hsb hsl;obtain⟨E2,ce2,rfl,_⟩:=hse.form;obtain⟨B2,cb2,rfl,_⟩:=hsb.form;obtain⟨C2,cl2,rfl,_⟩:=hsl.form;subst hCs;have HQ:=hide (And.intro q0 (And.intro q1 (And.intro q2 (And.intro q3 q4))));have HQr:=hide (And.intro hse (And.intro hsb hsl));clear q0 q1 q2 q3 q4 hse hsb hsl;have hn:=hR.len;simp only[List.length_cons,List.length_nil]at hn;obtain rfl:n=1:=hn;obtain⟨b0,o0,a0,hA0,hb0,hP0,y00,y10,y20,y30,y40,y50,hRy0⟩:=hR.at_ 0 (by simp);simp only[List.getElem_cons_zero,List.getElem_cons_succ,Nat.zero_mul,Nat.add_zero,Nat.one_mul]at y00 y10 y20 y30 y40 y50 hRy0;obtain⟨B0,d0,rfl,_⟩:=hRy0.form;have HY0:=hide (And.intro y00 (And.intro y10 (And.intro y20 (And.intro y30 (And.intro y40 y50)))));have HRy0:=hide hRy0;clear y00 y10 y20 y30 y40 y50 hRy0;subst hA0;have HC0:=hide (show PS b w.heap.size w P #[.int .i64 4, .string (str nm), .slice (some ⟨b0,o0,none⟩) 1 c, .slice B nb cb, .slice (some ⟨bs,os,none⟩) 1 cl] (.slice (some ⟨b0,o0,none⟩) 1 c) (.slice B nb cb) (.slice (some ⟨bs,os,none⟩) 1 cl) (.mk 4 nm [y] body [s]) l _ from⟨Blk.new w 72 #[.int .i64 4, .string (str nm), .slice (some ⟨b0,o0,none⟩) 1 c, .slice B nb cb, .slice (some ⟨bs,os,none⟩) 1 cl],hB.ext (Ext.alloc w _),hR.keep (.of_ext (Ext.alloc w _)) (fun _ hb _=>hb),hRb.keep (.of_ext (Ext.alloc w _)) (fun _ hb _=>hb),hRl.keep (.of_ext (Ext.alloc w _)) (fun _ hb _=>hb),FB.of_ext (Ext.alloc w _) (Nat.le_of_lt hB.lt),hT.fb (FB.of_ext (Ext.alloc w _) (Nat.le_of_lt hB.lt)),Nat.ne_of_gt hB.lt,by decide,hP⟩);have hbc:=HC0.out.box.cell;clear hB hR hT hRb hRl;unfold PrBl at hbl;unfold PrCh at hch;rw[hk]at HQ hch;go_enter func176,ntmps176;have e0:=(HC0.out.fb.keepP hP).cell (o0) hP0 hb0|>.trans HY0.out.1;have e1:=(HC0.out.fb.keepP hP).cell (o0+1) hP0 hb0|>.trans HY0.out.2.1;have e2:=(HC0.out.fb.keepP hP).cell (o0+2) hP0 hb0|>.trans HY0.out.2.2.1;have e3:=(HC0.out.fb.keepP hP).cell (o0+3) hP0 hb0|>.trans HY0.out.2.2.2.1;have e4:=(HC0.out.fb.keepP hP).cell (o0+4) hP0 hb0|>.trans HY0.out.2.2.2.2.1;have e5:=(HC0.out.fb.keepP hP).cell (o0+5) hP0 hb0|>.trans HY0.out.2.2.2.2.2;go_wp2_with (first|(go_at_call 175;refine(words_any y hy [105,102,32] [32] P _ B0 _ d0 b l (HRy0.out.keep (HC0.out.fb.keepP hP) (fun _ hb _=>hb)) hP HC0.out.tab HC0.out.bu (by(try have a1:=Hzc1.out);(try have a2:=Hzc2.out);simp only[List.length_append,List.length_cons,List.length_nil];omega)).mono ?_;rintro e u1 ⟨rfl,h1,h2⟩;have HC1:=hide (HC0.out.wr h1 h2);clear h1 h2 HC0;clear hbc;have hbc:=HC1.out.box.cell)|(go_at_call 94;refine(hbl P _ B nb cb b i (l++([105,102,32]++srcE y++[32])) HC1.out.rb hP HC1.out.tab HC1.out.bu (by(try have a1:=Hzc1.out);(try have a2:=Hzc2.out);simp only[List.length_append,List.length_cons,List.length_nil];omega)).mono ?_;rintro e u2 ⟨rfl,h1,h2⟩;have HC2:=hide (HC1.out.wr h1 h2);clear h1 h2 HC1;clear hbc;have hbc:=HC2.out.box.cell;have g0:=(HC2.out.fb.keepP hP).cell (os) hPs hbs|>.trans HQ.out.1;have g1:=(HC2.out.fb.keepP hP).cell (os+1) hPs hbs|>.trans HQ.out.2.1;have g2:=(HC2.out.fb.keepP hP).cell (os+2) hPs hbs|>.trans HQ.out.2.2.1;have g3:=(HC2.out.fb.keepP hP).cell (os+3) hPs hbs|>.trans HQ.out.2.2.2.1;have g4:=(HC2.out.fb.keepP hP).cell (os+4) hPs hbs|>.trans HQ.out.2.2.2.2)|(go_at_call 91;refine(pws_any b ((l++([105,102,32]++srcE y++[32]))++blkS i (srcSs body (i+1))) [32,101,108,115,101,32] _ HC2.out.bu (by(try have a1:=Hzc1.out);(try have a2:=Hzc2.out);(try simp only[List.length_append,List.length_cons,List.length_nil]);omega)).mono ?_;rintro e u3 ⟨rfl,h1,h2⟩;have HC3:=hide (HC2.out.wr h1 h2);clear h1 h2 HC2;clear hbc;have hbc:=HC3.out.box.cell;clear g0 g1 g2 g3 g4;have g0:=(HC3.out.fb.keepP hP).cell (os) hPs hbs|>.trans HQ.out.1;have g1:=(HC3.out.fb.keepP hP).cell (os+1) hPs hbs|>.trans HQ.out.2.1;have g2:=(HC3.out.fb.keepP hP).cell (os+2) hPs hbs|>.trans HQ.out.2.2.1;have g3:=(HC3.out.fb.keepP hP).cell (os+3) hPs hbs|>.trans HQ.out.2.2.2.1;have g4:=(HC3.out.fb.keepP hP).cell (os+4) hPs hbs|>.trans HQ.out.2.2.2.2)|(go_at_call 176;refine(hch P _ E2 B2 C2 _ ce2 _ cb2 _ cl2 b i (((l++([105,102,32]++srcE y++[32]))++blkS i (srcSs body (i+1)))++[32,101,108,115,101,32]) (HQr.out.1.keep (HC3.out.fb.keepP hP) (fun _ hb _=>hb)) (HQr.out.2.1.keep (HC3.out.fb.keepP hP) (fun _ hb _=>hb)) (HQr.out.2.2.keep (HC3.out.fb.keepP hP) (fun _ hb _=>hb)) hP HC3.out.tab HC3.out.bu (by(try have a1:=Hzc1.out);(try have a2:=Hzc2.out);(try simp only[List.length_append,List.length_cons,List.length_nil]);omega)).mono ?_;rintro e u4 ⟨rfl,h1,h2⟩;have HC4:=hide (HC3.out.wr h1 h2);clear h1 h2 HC3));first|go_end0|((try simp only[Exit.inBlock,Exit.then]);refine bodyPost_ret (results_none rfl _ _ _) rfl ?_)
 exact⟨rfl,by rw[<-HS.out];have:=HC4.out.bu;simpa[List.append_assoc]using this,HC4.out.fb⟩
theorem ch_2 (nm:List UInt8) (body:List St) (y:Ex) (hy:PrX y) (hbl:PrBl body) (s:St) (hk:s.k≠4) (hel:PrBl [s]) (P:Nat->Prop) (w:World) (A B C:Option Addr) (n c nb cb nl cl b i:Nat) (l:List UInt8) (hR:RdE w P (.slice A n c) [y]) (hRb:RdS w P (.slice B nb cb) body) (hRl:RdS w P (.slice C nl cl) [s]) (hP: ∀k,P k->k<b) (hT:TabW w b) (hB:Bu w b l) (S:List UInt8) (hS:srcSt (.mk 4 nm [y] body [s]) i=S) (hl:l.length+S.length<=1000000000):
  Calls prog 176 #[.pointer (some ⟨b,0,none⟩), .agg #[.int .i64 4, .string (str nm), .slice A n c, .slice B nb cb, .slice C nl cl], .int .i64 (i:Int)] w fun e w'=>e= .returned (.tuple #[])/\Bu w' b (l++S)/\FB b w w':=by
 have HS:=hide (show[105,102,32]++srcE y++[32]++blkS i (srcSs body (i+1))++([32,101,108,115,101,32]++blkS i (srcSs [s] (i+1)))=S from by rw[<-hS];simp[srcSt,shapeS,srcSs,srcs,chainB,tIf,tElse,hk]);have hlen:3+(srcE y).length+1+(blkS i (srcSs body (i+1))).length+(6+(blkS i (srcSs [s] (i+1))).length)=S.length:=by rw[<-HS.out];simp only[List.length_append,List.length_cons,List.length_nil]
 clear hS;have hnl:=hRl.len;simp only[List.length_cons,List.length_nil]at hnl;obtain rfl:nl=1:=hnl;obtain⟨bs,os,su,sv,sz,hCs,hbs,hPs,q0,q1,q2,q3,q4,hse,hsb,hsl⟩:=hRl.at_ 0 (by simp);simp only[List.getElem_cons_zero,Nat.zero_mul,Nat.add_zero]at q0 q1 q2 q3 q4 hse hsb hsl;obtain⟨E2,ce2,rfl,_⟩:=hse.form;obtain⟨B2,cb2,rfl,_⟩:=hsb.form;obtain⟨C2,cl2,rfl,_⟩:=hsl.form;subst hCs;have HQ:=hide (And.intro q0 (And.intro q1 (And.intro q2 (And.intro q3 q4))));have HQr:=hide (And.intro hse (And.intro hsb hsl));clear q0 q1 q2 q3 q4 hse hsb hsl;have hn:=hR.len;simp only[List.length_cons,List.length_nil]at hn;obtain rfl:n=1:=hn;obtain⟨b0,o0,a0,hA0,hb0,hP0,y00,y10,y20,y30,y40,y50,hRy0⟩:=hR.at_ 0 (by simp);simp only[List.getElem_cons_zero,List.getElem_cons_succ,Nat.zero_mul,Nat.add_zero,Nat.one_mul]at y00 y10 y20 y30 y40 y50 hRy0;obtain⟨B0,d0,rfl,_⟩:=hRy0.form;have HY0:=hide (And.intro y00 (And.intro y10 (And.intro y20 (And.intro y30 (And.intro y40 y50)))));have HRy0:=hide hRy0;clear y00 y10 y20 y30 y40 y50 hRy0;subst hA0;have HC0:=hide (show PS b w.heap.size w P #[.int .i64 4, .string (str nm), .slice (some ⟨b0,o0,none⟩) 1 c, .slice B nb cb, .slice (some ⟨bs,os,none⟩) 1 cl] (.slice (some ⟨b0,o0,none⟩) 1 c) (.slice B nb cb) (.slice (some ⟨bs,os,none⟩) 1 cl) (.mk 4 nm [y] body [s]) l _ from⟨Blk.new w 72 #[.int .i64 4, .string (str nm), .slice (some ⟨b0,o0,none⟩) 1 c, .slice B nb cb, .slice (some ⟨bs,os,none⟩) 1 cl],hB.ext (Ext.alloc w _),hR.keep (.of_ext (Ext.alloc w _)) (fun _ hb _=>hb),hRb.keep (.of_ext (Ext.alloc w _)) (fun _ hb _=>hb),hRl.keep (.of_ext (Ext.alloc w _)) (fun _ hb _=>hb),FB.of_ext (Ext.alloc w _) (Nat.le_of_lt hB.lt),hT.fb (FB.of_ext (Ext.alloc w _) (Nat.le_of_lt hB.lt)),Nat.ne_of_gt hB.lt,by decide,hP⟩);have hbc:=HC0.out.box.cell;clear hB hR hT hRb hRl;unfold PrBl at hbl;unfold PrBl at hel;have hx1:(s.k==4)=false:=by rw[beq_eq_false_iff_ne];exact hk
 go_enter func176,ntmps176;have e0:=(HC0.out.fb.keepP hP).cell (o0) hP0 hb0|>.trans HY0.out.1;have e1:=(HC0.out.fb.keepP hP).cell (o0+1) hP0 hb0|>.trans HY0.out.2.1;have e2:=(HC0.out.fb.keepP hP).cell (o0+2) hP0 hb0|>.trans HY0.out.2.2.1;have e3:=(HC0.out.fb.keepP hP).cell (o0+3) hP0 hb0|>.trans HY0.out.2.2.2.1;have e4:=(HC0.out.fb.keepP hP).cell (o0+4) hP0 hb0|>.trans HY0.out.2.2.2.2.1;have e5:=(HC0.out.fb.keepP hP).cell (o0+5) hP0 hb0|>.trans HY0.out.2.2.2.2.2;go_wp2_with (first|(go_at_call 175;refine(words_any y hy [105,102,32] [32] P _ B0 _ d0 b l (HRy0.out.keep (HC0.out.fb.keepP hP) (fun _ hb _=>hb)) hP HC0.out.tab HC0.out.bu (by(try have a1:=Hzc1.out);(try have a2:=Hzc2.out);simp only[List.length_append,List.length_cons,List.length_nil];omega)).mono ?_;rintro e u1 ⟨rfl,h1,h2⟩;have HC1:=hide (HC0.out.wr h1 h2);clear h1 h2 HC0;clear hbc;have hbc:=HC1.out.box.cell)|(go_at_call 94;refine(hbl P _ B nb cb b i (l++([105,102,32]++srcE y++[32])) HC1.out.rb hP HC1.out.tab HC1.out.bu (by(try have a1:=Hzc1.out);(try have a2:=Hzc2.out);simp only[List.length_append,List.length_cons,List.length_nil];omega)).mono ?_;rintro e u2 ⟨rfl,h1,h2⟩;have HC2:=hide (HC1.out.wr h1 h2);clear h1 h2 HC1;clear hbc;have hbc:=HC2.out.box.cell;have g0:=(HC2.out.fb.keepP hP).cell (os) hPs hbs|>.trans HQ.out.1;have g1:=(HC2.out.fb.keepP hP).cell (os+1) hPs hbs|>.trans HQ.out.2.1;have g2:=(HC2.out.fb.keepP hP).cell (os+2) hPs hbs|>.trans HQ.out.2.2.1;have g3:=(HC2.out.fb.keepP hP).cell (os+3) hPs hbs|>.trans HQ.out.2.2.2.1;have g4:=(HC2.out.fb.keepP hP).cell (os+4) hPs hbs|>.trans HQ.out.2.2.2.2)|(go_at_call 91;refine(pws_any b ((l++([105,102,32]++srcE y++[32]))++blkS i (srcSs body (i+1))) [32,101,108,115,101,32] _ HC2.out.bu (by(try have a1:=Hzc1.out);(try have a2:=Hzc2.out);(try simp only[List.length_append,List.length_cons,List.length_nil]);omega)).mono ?_;rintro e u3 ⟨rfl,h1,h2⟩;have HC3:=hide (HC2.out.wr h1 h2);clear h1 h2 HC2;clear hbc;have hbc:=HC3.out.box.cell)|(go_at_call 94;guard_hyp HC3;refine(hel P _ (some ⟨bs,os,none⟩) 1 cl b i (((l++([105,102,32]++srcE y++[32]))++blkS i (srcSs body (i+1)))++[32,101,108,115,101,32]) HC3.out.rl hP HC3.out.tab HC3.out.bu (by(try have a1:=Hzc1.out);(try have a2:=Hzc2.out);(try simp only[List.length_append,List.length_cons,List.length_nil]);omega)).mono ?_;rintro e u4 ⟨rfl,h1,h2⟩;have HC4:=hide (HC3.out.wr h1 h2);clear h1 h2 HC3));first|go_end0|((try simp only[Exit.inBlock,Exit.then]);refine bodyPost_ret (results_none rfl _ _ _) rfl ?_)
 exact⟨rfl,by rw[<-HS.out];have:=HC4.out.bu;simpa[List.append_assoc]using this,HC4.out.fb⟩
theorem ch_3 (nm:List UInt8) (body:List St) (y:Ex) (hy:PrX y) (hbl:PrBl body) (s1 s2:St) (r:List St) (hel:PrBl (s1::s2::r)) (P:Nat->Prop) (w:World) (A B C:Option Addr) (n c nb cb nl cl b i:Nat) (l:List UInt8) (hR:RdE w P (.slice A n c) [y]) (hRb:RdS w P (.slice B nb cb) body) (hRl:RdS w P (.slice C nl cl) (s1::s2::r)) (hP: ∀k,P k->k<b) (hT:TabW w b) (hB:Bu w b l) (S:List UInt8) (hS:srcSt (.mk 4 nm [y] body (s1::s2::r)) i=S) (hl:l.length+S.length<=1000000000):
  Calls prog 176 #[.pointer (some ⟨b,0,none⟩), .agg #[.int .i64 4, .string (str nm), .slice A n c, .slice B nb cb, .slice C nl cl], .int .i64 (i:Int)] w fun e w'=>e= .returned (.tuple #[])/\Bu w' b (l++S)/\FB b w w':=by
 have HS:=hide (show[105,102,32]++srcE y++[32]++blkS i (srcSs body (i+1))++([32,101,108,115,101,32]++blkS i (srcSs (s1::s2::r) (i+1)))=S from by rw[<-hS];simp[srcSt,shapeS,srcSs,srcs,chainB,tIf,tElse]);have hlen:3+(srcE y).length+1+(blkS i (srcSs body (i+1))).length+(6+(blkS i (srcSs (s1::s2::r) (i+1))).length)=S.length:=by rw[<-HS.out];simp only[List.length_append,List.length_cons,List.length_nil]
 clear hS;have hnl:=hRl.len;simp only[List.length_cons,List.length_nil]at hnl;have hx1:((nl:Int)==1)=false:=by rw[beq_eq_false_iff_ne];omega
 have hx2:0<nl:=by omega
 have hx3:(0:Int)<nl:=by omega
 clear hnl;have hn:=hR.len;simp only[List.length_cons,List.length_nil]at hn;obtain rfl:n=1:=hn;obtain⟨b0,o0,a0,hA0,hb0,hP0,y00,y10,y20,y30,y40,y50,hRy0⟩:=hR.at_ 0 (by simp);simp only[List.getElem_cons_zero,List.getElem_cons_succ,Nat.zero_mul,Nat.add_zero,Nat.one_mul]at y00 y10 y20 y30 y40 y50 hRy0;obtain⟨B0,d0,rfl,_⟩:=hRy0.form;have HY0:=hide (And.intro y00 (And.intro y10 (And.intro y20 (And.intro y30 (And.intro y40 y50)))));have HRy0:=hide hRy0;clear y00 y10 y20 y30 y40 y50 hRy0;subst hA0;have HC0:=hide (show PS b w.heap.size w P #[.int .i64 4, .string (str nm), .slice (some ⟨b0,o0,none⟩) 1 c, .slice B nb cb, .slice C nl cl] (.slice (some ⟨b0,o0,none⟩) 1 c) (.slice B nb cb) (.slice C nl cl) (.mk 4 nm [y] body (s1::s2::r)) l _ from⟨Blk.new w 72 #[.int .i64 4, .string (str nm), .slice (some ⟨b0,o0,none⟩) 1 c, .slice B nb cb, .slice C nl cl],hB.ext (Ext.alloc w _),hR.keep (.of_ext (Ext.alloc w _)) (fun _ hb _=>hb),hRb.keep (.of_ext (Ext.alloc w _)) (fun _ hb _=>hb),hRl.keep (.of_ext (Ext.alloc w _)) (fun _ hb _=>hb),FB.of_ext (Ext.alloc w _) (Nat.le_of_lt hB.lt),hT.fb (FB.of_ext (Ext.alloc w _) (Nat.le_of_lt hB.lt)),Nat.ne_of_gt hB.lt,by decide,hP⟩);have hbc:=HC0.out.box.cell;clear hB hR hT hRb hRl;unfold PrBl at hbl;unfold PrBl at hel;go_enter func176,ntmps176;have e0:=(HC0.out.fb.keepP hP).cell (o0) hP0 hb0|>.trans HY0.out.1;have e1:=(HC0.out.fb.keepP hP).cell (o0+1) hP0 hb0|>.trans HY0.out.2.1;have e2:=(HC0.out.fb.keepP hP).cell (o0+2) hP0 hb0|>.trans HY0.out.2.2.1;have e3:=(HC0.out.fb.keepP hP).cell (o0+3) hP0 hb0|>.trans HY0.out.2.2.2.1;have e4:=(HC0.out.fb.keepP hP).cell (o0+4) hP0 hb0|>.trans HY0.out.2.2.2.2.1;have e5:=(HC0.out.fb.keepP hP).cell (o0+5) hP0 hb0|>.trans HY0.out.2.2.2.2.2;go_wp2_with (first|(go_at_call 175;refine(words_any y hy [105,102,32] [32] P _ B0 _ d0 b l (HRy0.out.keep (HC0.out.fb.keepP hP) (fun _ hb _=>hb)) hP HC0.out.tab HC0.out.bu (by(try have a1:=Hzc1.out);(try have a2:=Hzc2.out);simp only[List.length_append,List.length_cons,List.length_nil];omega)).mono ?_;rintro e u1 ⟨rfl,h1,h2⟩;have HC1:=hide (HC0.out.wr h1 h2);clear h1 h2 HC0;clear hbc;have hbc:=HC1.out.box.cell)|(go_at_call 94;refine(hbl P _ B nb cb b i (l++([105,102,32]++srcE y++[32])) HC1.out.rb hP HC1.out.tab HC1.out.bu (by(try have a1:=Hzc1.out);(try have a2:=Hzc2.out);simp only[List.length_append,List.length_cons,List.length_nil];omega)).mono ?_;rintro e u2 ⟨rfl,h1,h2⟩;have HC2:=hide (HC1.out.wr h1 h2);clear h1 h2 HC1;clear hbc;have hbc:=HC2.out.box.cell)|(go_at_call 91;refine(pws_any b ((l++([105,102,32]++srcE y++[32]))++blkS i (srcSs body (i+1))) [32,101,108,115,101,32] _ HC2.out.bu (by(try have a1:=Hzc1.out);(try have a2:=Hzc2.out);(try simp only[List.length_append,List.length_cons,List.length_nil]);omega)).mono ?_;rintro e u3 ⟨rfl,h1,h2⟩;have HC3:=hide (HC2.out.wr h1 h2);clear h1 h2 HC2;clear hbc;have hbc:=HC3.out.box.cell)|(go_at_call 94;refine(hel P _ C nl cl b i (((l++([105,102,32]++srcE y++[32]))++blkS i (srcSs body (i+1)))++[32,101,108,115,101,32]) HC3.out.rl hP HC3.out.tab HC3.out.bu (by(try have a1:=Hzc1.out);(try have a2:=Hzc2.out);(try simp only[List.length_append,List.length_cons,List.length_nil]);omega)).mono ?_;rintro e u4 ⟨rfl,h1,h2⟩;have HC4:=hide (HC3.out.wr h1 h2);clear h1 h2 HC3));first|go_end0|((try simp only[Exit.inBlock,Exit.then]);refine bodyPost_ret (results_none rfl _ _ _) rfl ?_)
 exact⟨rfl,by rw[<-HS.out];have:=HC4.out.bu;simpa[List.append_assoc]using this,HC4.out.fb⟩
theorem blk_any (xs:List St) (hx: ∀y,y∈xs->PrS y):PrBl xs:=by
 intro P w B nb cb b i l hR hP hT hB hl;have hn:=hR.len;have hnb:nb<=maxLen:=by
  obtain⟨A',c',_,h|⟨h1,h2,_⟩⟩:=hR.form
  ·rw[hn,h];exact Nat.zero_le _
  ·omega
 unfold maxLen at hnb;have HX:=hide hx;generalize hS:blkS i (srcSs xs (i+1))=S at*;have hSe:[123,10]++(srcSs xs (i+1)).flatMap (fun t=>tabs (i+1)++t++[10])++(tabs i++[125])=S:=hS;clear hS;generalize hF:(fun t:List UInt8=>tabs (i+1)++t++[10])=F at*;have HF:=hide (show ∀t,F t=tabs (i+1)++t++[10]from fun t=>by rw[<-hF]);have HS:=hide hSe;have htl:(tabs i).length=i:=by simp[tabs]
 have htl1:(tabs (i+1)).length=i+1:=by simp[tabs]
 have hlen:2+((srcSs xs (i+1)).flatMap F).length+(i+1)=S.length:=by rw[<-hSe];simp only[List.length_append,List.length_cons,List.length_nil,htl]
 have hwi:IntKind.i64.wrap ((i:Int)+1)=((i+1:Nat):Int):=by simp[IntKind.wrap,IntKind.signed,IntKind.bits];omega
 have HN:=hide hn;have HTL:=hide htl;have HTL1:=hide htl1;clear hSe hF hx hn htl htl1;have HC0:=hide (show PB b w P (.slice B nb cb) xs l w from⟨hB,hR,FB.refl _ _,hT,hP⟩);have HTI:=hide (fun w=>tabs_any i (by omega) w);have HTI1:=hide (fun w=>tabs_any (i+1) (by omega) w);clear hB hR hT;go_enter func94,ntmps94;go_wp2_with (go_at_call 91;refine(pws_any b l [123,10] _ HC0.out.bu (by(try have a1:=Hzc1.out);(try have a2:=Hzc2.out);(try simp only[List.length_append,List.length_cons,List.length_nil]);omega)).mono ?_;rintro e u1 ⟨rfl,h1,h2⟩;have HC1:=hide (HC0.out.wr h1 h2);clear h1 h2 HC0)
 go_loopw [14] (fun vi wr=> ∃j:Nat,vi= .int .i64 (j:Int)/\j<=nb/\Hid (PB b w P (.slice B nb cb) xs (l++[123,10]++((srcSs xs (i+1)).take j).flatMap F) wr)) (fun vi _=>nb-(intOf vi).toNat)
 case atStart=>exact⟨0,rfl,Nat.zero_le _,by simpa using HC1⟩
 case round=>
  clear HC1;obtain⟨j,rfl,hj,HCr⟩:=hrel;by_cases hlt:j<nb
  ·have hlt':(j:Int)<nb:=by omega
   have hjl:j<xs.length:=by have:=HN.out;omega
   have hsl:(srcSs xs (i+1)).length=xs.length:=by rw[srcSs_map];simp
   have hsj:(srcSs xs (i+1))[j]'(by omega)=srcSt xs[j] (i+1):=by simp[srcSs_map]
   have HT:=hide (show((srcSs xs (i+1)).take (j+1)).flatMap F=((srcSs xs (i+1)).take j).flatMap F++(tabs (i+1)++srcSt xs[j] (i+1)++[10])from by rw[List.take_succ_eq_append_getElem (by omega),List.flatMap_append,hsj,<-HF.out];simp);have hbd:(((srcSs xs (i+1)).take (j+1)).flatMap F).length<=((srcSs xs (i+1)).flatMap F).length:=by
    conv=>rhs;rw[<-List.take_append_drop (j+1) (srcSs xs (i+1)),List.flatMap_append,List.length_append]
    omega
   obtain⟨by0,oy,eu,ev,ez,rfl,hby,hPy,e0,e1,e2,e3,e4,hre,hrb,hrl⟩:=HCr.out.rd.at_ j hjl;have HXy:=hide (HX.out _ (List.getElem_mem hjl));generalize xs[j]=y at*;unfold PrS at HXy;obtain⟨Ey,ey,rfl,_⟩:=hre.form;obtain⟨By,by_,rfl,_⟩:=hrb.form;obtain⟨Cy,cy,rfl,_⟩:=hrl.form;have HRy:=hide (And.intro hre (And.intro hrb hrl));have hsz:=HCr.out.bu.lt;have hEA:=Ext.alloc wr (.cells #[.int .i64 y.k, .string (str y.nm), .slice Ey y.ex.length ey, .slice By y.body.length by_, .slice Cy y.els.length cy] 72);have HC1:=hide (HCr.out.ex hEA);have HYB:=hide (Blk.new wr 72 #[.int .i64 y.k, .string (str y.nm), .slice Ey y.ex.length ey, .slice By y.body.length by_, .slice Cy y.els.length cy]);have hpy:wr.heap.size≠b:=by omega
   have HRz:=hide (And.intro (hre.keep (.of_ext hEA) (fun _ hb _=>hb)) (And.intro (hrb.keep (.of_ext hEA) (fun _ hb _=>hb)) (hrl.keep (.of_ext hEA) (fun _ hb _=>hb))));generalize ((srcSs xs (i+1)).take j).flatMap F=J at*;generalize hJ1:((srcSs xs (i+1)).take (j+1)).flatMap F=J1 at*;have hJl:=congrArg List.length HT.out;simp only[List.length_append,List.length_cons,List.length_nil,HTL1.out]at hJl;generalize tabs (i+1)=T1 at*;clear hre hrb hrl hsl hsj HRy hEA;go_wp2_with fail;refine wp_region_ext 6 3 [(5,fun x=>x= .string (str T1),fun _ _=>True)] mixed (by kernel_rfl) ⟨fun _ _ _ _ _=>trivial,trivial⟩ ?_;repeat (refine sx ?_ (fun w1 hU=> ?_) ?_;rotate_left;(focus go_simp<;>with_reducible rfl);simp only[pq0,pq1,pq2,pq3,pq4])
   refine so (fun w6 hU hp K hK=> ?_) ?_
   ·clear hp hU;go_simp;refine(HTI1.out w6).mono ?_;rintro e w7 ⟨rfl,hE⟩;exact hK _ _ hE rfl trivial
   rintro _ rfl;simp only[pq0,pq1,pq2,pq3,pq4];repeat (refine sx ?_ (fun w1 hU=> ?_) ?_;rotate_left;(focus go_simp<;>with_reducible rfl);simp only[pq0,pq1,pq2,pq3,pq4])
   intro z2 hz2 hp;clear hp;simp only[List.drop_succ_cons,List.drop_zero];have HC2:=hide (HC1.out.ex hz2.un);have HYB2:=hide (HYB.out.ext hz2.un);have HRw:=hide (And.intro (HRz.out.1.keep (.of_ext hz2.un) (fun _ hb _=>hb)) (And.intro (HRz.out.2.1.keep (.of_ext hz2.un) (fun _ hb _=>hb)) (HRz.out.2.2.keep (.of_ext hz2.un) (fun _ hb _=>hb))));clear hz2 HC1;go_wp2_with (first|(go_at_call 91;refine(pws_any b (l++[123,10]++J) T1 _ HC2.out.bu (by have a3:=HTL1.out;(try have a1:=Hzc1.out);(try have a2:=Hzc2.out);(try simp only[List.length_append,List.length_cons,List.length_nil]);omega)).mono ?_;rintro e u3 ⟨rfl,h1,h2⟩;have HC3:=hide (HC2.out.wr h1 h2);have HYB3:=hide (h2.keep _ _ _ hpy (by decide) HYB2.out);have hyc:=HYB3.out.cell;have HRv:=hide (And.intro (HRw.out.1.keep (h2.keepP hP) (fun _ hb _=>hb)) (And.intro (HRw.out.2.1.keep (h2.keepP hP) (fun _ hb _=>hb)) (HRw.out.2.2.keep (h2.keepP hP) (fun _ hb _=>hb))));clear h1 h2 HC2)|(go_at_call 136;refine(HXy.out P _ Ey By Cy _ ey _ by_ _ cy b (i+1) (l++[123,10]++J++T1) HRv.out.1 HRv.out.2.1 HRv.out.2.2 hP HC3.out.tab HC3.out.bu (by have a3:=HTL1.out;(try have a1:=Hzc1.out);(try have a2:=Hzc2.out);(try simp only[List.length_append,List.length_cons,List.length_nil]);omega)).mono ?_;rintro e u4 ⟨rfl,h1,h2⟩;have HC4:=hide (HC3.out.wr h1 h2);clear h1 h2 HC3 hyc)|(go_at_call 91;refine(pws_any b (l++[123,10]++J++T1++srcSt y (i+1)) [10] _ HC4.out.bu (by have a3:=HTL1.out;(try have a1:=Hzc1.out);(try have a2:=Hzc2.out);(try simp only[List.length_append,List.length_cons,List.length_nil]);omega)).mono ?_;rintro e u5 ⟨rfl,h1,h2⟩;have HC5:=hide (HC4.out.wr h1 h2);clear h1 h2 HC4));go_roundw
   case rel=>exact⟨j+1,by go_num,by omega,by have:=HT.out;rw[hJ1,this];simpa[List.append_assoc]using HC5⟩
   case measure=>simp[intOf];omega
  ·have hlt': ¬(j:Int)<nb:=by omega
   have hjn:j=nb:=by omega
   have HQ:=hide (show(srcSs xs (i+1)).take j=srcSs xs (i+1)from by rw[hjn,HN.out,List.take_of_length_le (by rw[srcSs_map];simp)]);rw[HQ.out]at HCr;generalize (srcSs xs (i+1)).flatMap F=J at*;clear HQ;generalize tabs i=T0 at*;have htl0:=HTL.out;obtain⟨c1,Hc1⟩: ∃c,Hid (T0++[125]=c):=⟨_,hide rfl⟩
   have hzc1:c1.length=T0.length+1:=by rw[<-Hc1.out,List.length_append];rfl
   have hsc1:str T0++(⟨#[125]⟩:ByteArray)=str c1:=by rw[<-Hc1.out];exact str_app _ _
   have hmc1: ¬9223372036854775807<T0.length+1:=by omega
   have hkc1: ¬9223372036854775807<1+T0.length:=by omega
   have hqc1T0:(str T0).size=T0.length:=str_size _;have hqc1l:((⟨#[125]⟩:ByteArray)).size=1:=rfl;have Hzc1:=hide hzc1;clear hzc1;clear htl0;go_wp2_with fail;refine wp_region_ext 6 3 [(4,fun x=>x= .string (str T0),fun _ _=>True)] mixed (by kernel_rfl) ⟨fun _ _ _ _ _=>trivial,trivial⟩ ?_;repeat (refine sx ?_ (fun w1 hU=> ?_) ?_;rotate_left;(focus go_simp<;>with_reducible rfl);simp only[pq0,pq1,pq2,pq3,pq4])
   refine so (fun w6 hU hp K hK=> ?_) ?_
   ·clear hp hU;go_simp;refine(HTI.out w6).mono ?_;rintro e w7 ⟨rfl,hE⟩;exact hK _ _ hE rfl trivial
   rintro _ rfl;simp only[pq0,pq1,pq2,pq3,pq4];repeat (refine sx ?_ (fun w1 hU=> ?_) ?_;rotate_left;(focus go_simp<;>with_reducible rfl);simp only[pq0,pq1,pq2,pq3,pq4])
   intro z2 hz2 hp;clear hp;simp only[List.drop_succ_cons,List.drop_zero];have HC2:=hide (HCr.out.ex hz2.un);clear hz2 HCr;go_wp2_with (go_at_call 91;refine(pws_any b (l++[123,10]++J) c1 _ HC2.out.bu (by have a3:=HTL.out;(try have a1:=Hzc1.out);(try have a2:=Hzc2.out);(try simp only[List.length_append,List.length_cons,List.length_nil]);omega)).mono ?_;rintro e u3 ⟨rfl,h1,h2⟩;have HC3:=hide (HC2.out.wr h1 h2);clear h1 h2 HC2)
   go_end0
   exact⟨rfl,by rw[<-HS.out];have:=HC3.out.bu;rw[<-Hc1.out]at this;simpa[List.append_assoc]using this,HC3.out.fb⟩
end Go.Proofs.YtddomeddabfinaaGreatDoor
namespace Go.Proofs.YtddomeddabfinaaGreatDoor
open Go.Proofs.Tryz
open Go.RowKit
theorem prs_all: ∀(m:Nat) (x:St),x.wt<=m->x.ok=true->PrS x/\(x.k=4->PrCh x)
 |0,x,hm,_=>absurd hm (by have:=x.wt_eq;omega)
 |m+1, .mk k nm es bd el,hm,h=>by
  have hw:=(St.mk k nm es bd el).wt_eq;simp only[St.nm,St.ex,St.body,St.els]at hw;rw[St.ok,Bool.and_eq_true,Bool.and_eq_true,Bool.and_eq_true]at h;obtain⟨⟨h1,h2⟩,h3,h4⟩:=h;rw[okL_all]at h2;rw[okS_all]at h3 h4;have he: ∀y,y∈es->PrX y:=fun y hy=>prx_any (List.all_eq_true.1 h2 y hy);have ihB: ∀y,y∈bd->PrS y:=fun y hy=>(prs_all m y (by have:=wtS_mem hy;omega) (List.all_eq_true.1 h3 y hy)).1;have ihL: ∀y,y∈el->PrS y/\(y.k=4->PrCh y):=fun y hy=>prs_all m y (by have:=wtS_mem hy;omega) (List.all_eq_true.1 h4 y hy);have hbl:=blk_any bd ihB;have hel:=blk_any el (fun y hy=>(ihL y hy).1);have hc:k=4->PrCh (.mk k nm es bd el):=by
   rintro rfl;rw[if_neg (by decide),if_neg (by decide),if_neg (by decide),if_pos rfl]at h1;simp only[Bool.and_eq_true,beq_iff_eq]at h1;obtain⟨y,rfl⟩:=List.length_eq_one_iff.1 h1.2;have hy:=he y (by simp);intro P w A B C n c nb cb nl cl b i l hR hRb hRl hP hT hB hl
   match el,hRl,ihL,hel,hl with
   | [],hRl,ihL,hel,hl=>exact ch_0 nm bd y hy hbl P w A B C n c nb cb nl cl b i l hR hRb hRl hP hT hB _ rfl hl
   | [s],hRl,ihL,hel,hl=>
    by_cases hs:s.k=4
    ·exact ch_1 nm bd y hy hbl s hs ((ihL s (by simp)).2 hs) P w A B C n c nb cb nl cl b i l hR hRb hRl hP hT hB _ rfl hl
    ·exact ch_2 nm bd y hy hbl s hs hel P w A B C n c nb cb nl cl b i l hR hRb hRl hP hT hB _ rfl hl
   |s1::s2::r,hRl,ihL,hel,hl=>exact ch_3 nm bd y hy hbl s1 s2 r hel P w A B C n c nb cb nl cl b i l hR hRb hRl hP hT hB _ rfl hl
  refine⟨?_,hc⟩;intro P w A B C n c nb cb nl cl b i l hR hRb hRl hP hT hB hl;simp only[St.k,St.nm,St.ex,St.body,St.els]at*;by_cases k1:k=1
  ·subst k1;rw[if_pos rfl]at h1;simp only[Bool.and_eq_true,decide_eq_true_eq]at h1
   match es,he,h1,hR,hl with
   | [],he,h1,hR,hl=>exact st_1a nm bd el P w A B C n c nb cb nl cl b i l hR hRb hRl hP hT hB _ rfl hl
   | [y],he,h1,hR,hl=>exact st_1b nm bd el y (he y (by simp)) P w A B C n c nb cb nl cl b i l hR hRb hRl hP hT hB _ rfl hl
   |y::z::r,he,h1,hR,hl=>exact absurd h1.1.1.2 (by simp)
  rw[if_neg k1]at h1;by_cases k2:k=2
  ·subst k2;rw[if_pos rfl]at h1;simp only[Bool.and_eq_true,beq_iff_eq]at h1;obtain⟨y,rfl⟩:=List.length_eq_one_iff.1 h1.1.1.2;exact st_2 nm bd el y (he y (by simp)) P w A B C n c nb cb nl cl b i l hR hRb hRl hP hT hB _ rfl hl
  rw[if_neg k2]at h1;by_cases k3:k=3
  ·subst k3;rw[if_pos rfl]at h1;simp only[Bool.and_eq_true,beq_iff_eq]at h1;obtain⟨y,z,rfl⟩: ∃y z,es=[y,z]:=by
    match es,h1 with
    | [],h1=>simp at h1
    | [y],h1=>simp at h1
    | [y,z],h1=>exact⟨y,z,rfl⟩
    |y::z::u::r,h1=>simp at h1
   exact st_3 nm bd el y z (he y (by simp)) (he z (by simp)) P w A B C n c nb cb nl cl b i l hR hRb hRl hP hT hB _ rfl hl
  rw[if_neg k3]at h1;by_cases k4:k=4
  ·subst k4;exact st_4 nm bd el es (hc rfl) P w A B C n c nb cb nl cl b i l hR hRb hRl hP hT hB _ rfl hl
  rw[if_neg k4]at h1;by_cases k5:k=5
  ·subst k5;rw[if_pos rfl]at h1;simp only[Bool.and_eq_true,beq_iff_eq]at h1;obtain⟨y,rfl⟩:=List.length_eq_one_iff.1 h1.1.2;exact st_5 nm bd el y (he y (by simp)) hbl P w A B C n c nb cb nl cl b i l hR hRb hRl hP hT hB _ rfl hl
  rw[if_neg k5]at h1;by_cases k6:k=6
  ·subst k6;rw[if_pos rfl]at h1;simp only[Bool.and_eq_true,decide_eq_true_eq]at h1
   match es,he,h1,hR,hl with
   | [],he,h1,hR,hl=>exact st_6a nm bd el P w A B C n c nb cb nl cl b i l hR hRb hRl hP hT hB _ rfl hl
   | [y],he,h1,hR,hl=>exact st_6b nm bd el y (he y (by simp)) P w A B C n c nb cb nl cl b i l hR hRb hRl hP hT hB _ rfl hl
   |y::z::r,he,h1,hR,hl=>exact absurd h1.1.1.2 (by simp)
  rw[if_neg k6]at h1;by_cases k7:k=7
  ·subst k7;rw[if_pos rfl]at h1;simp only[Bool.and_eq_true,beq_iff_eq]at h1;obtain⟨y,rfl⟩:=List.length_eq_one_iff.1 h1.1.1.1.2;exact st_7 nm bd el y (he y (by simp)) P w A B C n c nb cb nl cl b i l hR hRb hRl hP hT hB _ rfl hl
  ·rw[if_neg k7]at h1
   cases h1
theorem prs_any {x:St} (h:x.ok=true):PrS x:=(prs_all _ x (Nat.le_refl _) h).1
theorem prb_any {xs:List St} (h:okS xs=true):PrBl xs:=blk_any xs fun y hy=>prs_any (by rw[okS_all]at h;exact List.all_eq_true.1 h y hy)
end Go.Proofs.YtddomeddabfinaaGreatDoor
namespace Go.Proofs.YtddomeddabfinaaGreatDoor
open Go.Proofs.Tryz
open Go.RowKit
theorem joinS_lib (sep:List UInt8) (l:List (List UInt8)):Lib.join l sep=joinS sep l:=by
 cases l with
 |nil=>rfl
 |cons x r=>rw[Lib.join_cons];simp[Lib.joinTail,joinS,List.flatMap_def]
theorem joinN_any (A:Option Addr) (n c:Nat) (ws:List (List UInt8)) (P:Nat->Prop) (w:World) (hw:RdN w P (.slice A n c) ws) (hl:(joinS [44,32] ws).length<=1000000000):
  Calls prog 93 #[.slice A n c, .string ⟨#[44,32]⟩] w fun e w'=>e= .returned (.string (str (joinS [44,32] ws)))/\Ext w w':=by
 obtain⟨A',c',hv,h⟩:=hw;injection hv with hA hn hc;subst hA hn hc;rcases h with rfl|⟨h1,h2,b,o,rfl,hP,hb,hcell⟩
 ·refine(Tryz.strings_Join_none A c ⟨#[44,32]⟩ w).mono ?_;rintro e w' ⟨rfl,rfl⟩;exact⟨rfl,Ext.refl _⟩
 ·have hm:(ws.map str).map (·.data.toList)=ws:=by
   rw[List.map_map];have:((fun x:ByteArray=>x.data.toList) ∘ str)=id:=funext fun l=>str_data l;rw[this,List.map_id]
  unfold maxLen at h2
  have:=Tryz.strings_Join b o c (ws.map str) ⟨#[44,32]⟩ w (fun j x hx=>by
    rw[List.getElem?_map]at hx;obtain⟨y,hy,rfl⟩:=Option.map_eq_some_iff.1 hx;obtain⟨hj,rfl⟩:=List.getElem?_eq_some_iff.1 hy;exact hcell j hj) hb (by
    rw[List.length_map]
    cases ws with
    |nil=>simp
    |cons x r=>
     have:=Lib.join_length x r [44,32];rw[joinS_lib]at this;simp only[List.length_cons,List.length_nil]at this⊢
     omega) (by simp;exact h1) (by rw[hm,show((⟨#[44,32]⟩:ByteArray).data.toList)=[44,32]from rfl,joinS_lib];omega)
  rw[hm,List.length_map,show((⟨#[44,32]⟩:ByteArray).data.toList)=[44,32]from rfl,joinS_lib]at this;exact this
structure PQ (b px:Nat) (w0:World) (P:Nat->Prop) (vv fv:Value) (p:Pg) (l:List UInt8) (W:World):Prop where
 box:Blk W px 34 #[vv,fv]
 bu:Bu W b l
 rv:RdV W P vv p.vs
 rf:RdF W P fv p.fs
 fb:FB b w0 W
 tab:TabW W b
 ne:px≠b
 tt:34≠5
 hP: ∀k,P k->k<b
section
variable {b px:Nat} {w0 W W':World} {P:Nat->Prop} {vv fv:Value} {p:Pg} {l l':List UInt8}
theorem PQ.wr (h:PQ b px w0 P vv fv p l W) (hB:Bu W' b l') (hF:FB b W W'):PQ b px w0 P vv fv p l' W':=
 ⟨hF.keep _ _ _ h.ne h.tt h.box,hB,h.rv.keep (hF.keepP h.hP) (fun _ hb _=>hb),h.rf.keep (hF.keepP h.hP) (fun _ hb _=>hb),h.fb.trans hF,h.tab.fb hF,h.ne,h.tt,h.hP⟩
theorem PQ.ex (h:PQ b px w0 P vv fv p l W) (hE:Ext W W'):PQ b px w0 P vv fv p l W':=h.wr (h.bu.ext hE) (FB.of_ext hE (Nat.le_of_lt h.bu.lt))
end
theorem flatMap_take_le {α:Type} (F:α->List UInt8) (l:List α) (j:Nat):((l.take j).flatMap F).length<=(l.flatMap F).length:=by
 conv=>rhs;rw[<-List.take_append_drop j l,List.flatMap_append,List.length_append]
 omega
theorem flatMap_take_succ {α:Type} (F:α->List UInt8) (l:List α) (j:Nat) (h:j<l.length):(l.take (j+1)).flatMap F=(l.take j).flatMap F++F l[j]:=by
 rw[List.take_succ_eq_append_getElem h,List.flatMap_append];simp
theorem source_any (p:Pg) (hok: ∀f,f∈p.fs->okS f.body=true) (hsz: ∀v,v∈p.vs->v.sz<=9223372036854775807) (P:Nat->Prop) (w:World) (A B:Option Addr) (n c m d:Nat) (hV:RdV w P (.slice A n c) p.vs) (hF:RdF w P (.slice B m d) p.fs) (hT:TabW w w.heap.size) (hl:(srcP p).length<=1000000000):
  Calls prog 57 #[.agg #[.slice A n c, .slice B m d]] w fun e w'=>e= .returned (.string (str (srcP p)))/\Ext w w':=by
 have hnv:n=p.vs.length/\n<=maxLen:=by
  obtain⟨A',c',hv,h⟩:=hV;injection hv with _ hn _;refine⟨hn,?_⟩;rcases h with h|⟨h1,h2,_⟩
  ·rw[hn,h];exact Nat.zero_le _
  ·omega
 have hnf:m=p.fs.length/\m<=maxLen:=by
  obtain⟨A',c',hv,h⟩:=hF;injection hv with _ hn _;refine⟨hn,?_⟩;rcases h with h|⟨h1,h2,_⟩
  ·rw[hn,h];exact Nat.zero_le _
  ·omega
 obtain⟨hnv,hnm⟩:=hnv;obtain⟨hnf,hnn⟩:=hnf;unfold maxLen at hnm hnn;have HNV:=hide hnv;have HNF:=hide hnf;have HSZ:=hide hsz;have HOK:=hide hok;have HS:=hide (show p.vs.flatMap srcV++p.fs.flatMap srcF=srcP p from rfl);have hlen:(p.vs.flatMap srcV).length+(p.fs.flatMap srcF).length=(srcP p).length:=by rw[<-HS.out,List.length_append]
 generalize srcP p=S at*;have hE1:=Ext.alloc w (.cells #[.slice A n c, .slice B m d] 34);have hE2:=hE1.trans (Ext.alloc (w.alloc (.cells #[.slice A n c, .slice B m d] 34)) (.cells #[.pointer none, .slice none 0 0] 195));have hs1:(w.alloc (.cells #[.slice A n c, .slice B m d] 34)).heap.size=w.heap.size+1:=Array.size_push _;have hKx:KeepP P w ((w.alloc (.cells #[.slice A n c, .slice B m d] 34)).alloc (.cells #[.pointer none, .slice none 0 0] 195)):= .of_ext hE2;obtain⟨w0,hw0⟩: ∃W,W=((w.alloc (.cells #[.slice A n c, .slice B m d] 34)).alloc (.cells #[.pointer none, .slice none 0 0] 195)):=⟨_,rfl⟩
 have HE2:=hide (show Ext w w0 from hw0▸hE2)
 have HC0:=hide (show PQ (w.heap.size+1) w.heap.size w0 (fun k=>k<w.heap.size) (.slice A n c) (.slice B m d) p [] ((w.alloc (.cells #[.slice A n c, .slice B m d] 34)).alloc (.cells #[.pointer none, .slice none 0 0] 195))from
  ⟨(Blk.new w _ _).ext (Ext.alloc _ _),hs1▸Bu.new _,hV.keep hKx (fun _ _ h=>h),hF.keep hKx (fun _ _ h=>h),hw0▸FB.refl _ _,⟨((hT.fb (FB.of_ext hE2 (Nat.le_refl _)))).1,Nat.lt_succ_of_lt hT.2⟩,Nat.ne_of_lt (Nat.lt_succ_self _),by decide,fun k h=>Nat.lt_succ_of_lt h⟩)
 clear hV hF hT hE1 hE2 hKx hnv hnf hsz hok hw0;generalize hb:w.heap.size+1=b at*;have HXB:=hide (show w.heap.size<=b/\True from⟨by omega,trivial⟩);generalize hpx:w.heap.size=px at*;have hbc:=HC0.out.box.cell;go_enter func57,ntmps57;go_wp2_with fail
 go_loopw [11] (fun vi wr=> ∃j:Nat,vi= .int .i64 (j:Int)/\j<=n/\Hid (PQ b px w0 (fun k=>k<px) (.slice A n c) (.slice B m d) p ((p.vs.take j).flatMap srcV) wr)) (fun vi _=>n-(intOf vi).toNat)
 case atStart=>exact⟨0,rfl,Nat.zero_le _,HC0⟩
 case round=>
  clear HC0 hbc;obtain⟨j,rfl,hj,HCr⟩:=hrel;by_cases hlt:j<n
  ·have hlt':(j:Int)<n:=by omega
   have hjl:j<p.vs.length:=by have:=HNV.out;omega
   obtain⟨A',c',hv,hh⟩:=HCr.out.rv;injection hv with hA hn' hc';rcases hh with hh|⟨h1,h2,b9,o9,hA2,hP9,hb9,hcl⟩
   ·rw[hh]at hjl;simp at hjl
   obtain⟨e0,e1⟩:=hcl j hjl;have hA3:A=some ⟨b9,o9,none⟩:=hA.trans hA2;subst hA3;clear hcl hA hA2 hn' hc' h1 h2 hP9;have hvz:=HSZ.out _ (List.getElem_mem hjl);have HT:=hide (flatMap_take_succ srcV p.vs j hjl);have hbd:=flatMap_take_le srcV p.vs (j+1);have HSV:=hide (show srcV p.vs[j]=[118,97,114,32]++p.vs[j].nm++(if 0<p.vs[j].sz then[91]++decL p.vs[j].sz.toNat++[93]else[])++[59,10]from rfl);generalize srcV p.vs[j]=SVj at*;generalize p.vs[j].nm=vn at*;generalize p.vs[j].sz=vz at*;generalize (p.vs.take j).flatMap srcV=J at*;generalize hJ1:(p.vs.take (j+1)).flatMap srcV=J1 at*;have hJl:=congrArg List.length HT.out;simp only[List.length_append]at hJl;have hsz:=HCr.out.bu.lt;have hEA:=Ext.alloc wr (.cells #[.string (str vn), .int .i64 vz] 85);have HC1:=hide (HCr.out.ex hEA);have HYB:=hide (Blk.new wr 85 #[.string (str vn), .int .i64 vz]);have hyc:=HYB.out.cell;have hpy:wr.heap.size≠b:=by omega
   clear hEA;by_cases hz:0<vz
   ·have hSl:=congrArg List.length HSV.out;rw[if_pos hz]at HSV hSl;have HIt:=hide (fun w h=>itoa_any vz (by omega) hvz w b h);generalize decL vz.toNat=D at*;simp only[List.length_append,List.length_cons,List.length_nil]at hSl;have HLL:=hide (show J.length+(4+vn.length+(1+D.length+1)+2)<=1000000000 from by omega);obtain⟨c1,Hc1⟩: ∃c,Hid ([118,97,114,32]++vn=c):=⟨_,hide rfl⟩
    have hzc1:c1.length=4+vn.length:=by rw[<-Hc1.out,List.length_append];(try rfl)
    have hsc1:(⟨#[118,97,114,32]⟩:ByteArray)++str vn=str c1:=by rw[<-Hc1.out];exact str_app _ _
    have hmc1: ¬9223372036854775807<4+vn.length:=by omega
    have hkc1: ¬9223372036854775807<vn.length+4:=by omega
    have hqc1l:((⟨#[118,97,114,32]⟩:ByteArray)).size=4:=rfl;have hqc1vn:(str vn).size=vn.length:=str_size _;obtain⟨c2,Hc2⟩: ∃c,Hid ([91]++D=c):=⟨_,hide rfl⟩
    have hzc2:c2.length=1+D.length:=by rw[<-Hc2.out,List.length_append];(try rfl)
    have hsc2:(⟨#[91]⟩:ByteArray)++str D=str c2:=by rw[<-Hc2.out];exact str_app _ _
    have hmc2: ¬9223372036854775807<1+D.length:=by omega
    have hkc2: ¬9223372036854775807<D.length+1:=by omega
    have hqc2l:((⟨#[91]⟩:ByteArray)).size=1:=rfl;have hqc2D:(str D).size=D.length:=str_size _;obtain⟨c3,Hc3⟩: ∃c,Hid (c2++[93]=c):=⟨_,hide rfl⟩
    have hzc3:c3.length=c2.length+1:=by rw[<-Hc3.out,List.length_append];(try rfl)
    have hsc3:str c2++(⟨#[93]⟩:ByteArray)=str c3:=by rw[<-Hc3.out];exact str_app _ _
    have hmc3: ¬9223372036854775807<c2.length+1:=by omega
    have hkc3: ¬9223372036854775807<1+c2.length:=by omega
    have hqc3c2:(str c2).size=c2.length:=str_size _;have hqc3l:((⟨#[93]⟩:ByteArray)).size=1:=rfl;have Hzc1:=hide hzc1;clear hzc1;have Hzc2:=hide hzc2;clear hzc2;have Hzc3:=hide hzc3;clear hzc3;clear hSl hJl;go_wp2_with (first|(go_at_call 91;refine(pws_any b J c1 _ HC1.out.bu (by have a1:=Hzc1.out;have a2:=HLL.out;omega)).mono ?_;rintro e u2 ⟨rfl,h1,h2⟩;have HC2:=hide (HC1.out.wr h1 h2);have HYB2:=hide (h2.keep _ _ _ hpy (by decide) HYB.out);clear hyc;have hyc:=HYB2.out.cell;clear h1 h2 HC1)|(go_at_call 92;refine(HIt.out _ HC2.out.tab).mono ?_;rintro e u3 ⟨rfl,hE⟩;have HC3:=hide (HC2.out.ex hE);clear hE hyc HC2)|(go_at_call 91;refine(pws_any b (J++c1) c3 _ HC3.out.bu (by have a1:=Hzc1.out;have a2:=Hzc2.out;have a3:=Hzc3.out;have a4:=HLL.out;simp only[List.length_append];omega)).mono ?_;rintro e u4 ⟨rfl,h1,h2⟩;have HC4:=hide (HC3.out.wr h1 h2);clear h1 h2 HC3)|(go_at_call 91;refine(pws_any b (J++c1++c3) [59,10] _ HC4.out.bu (by have a1:=Hzc1.out;have a2:=Hzc2.out;have a3:=Hzc3.out;have a4:=HLL.out;simp only[List.length_append,List.length_cons,List.length_nil];omega)).mono ?_;rintro e u5 ⟨rfl,h1,h2⟩;have HC5:=hide (HC4.out.wr h1 h2);clear h1 h2 HC4));go_roundw
    case rel=>exact⟨j+1,by go_num,by omega,by have h9:=HT.out;have h8:=HSV.out;rw[hJ1,h9,h8,Hc1.out,Hc2.out,Hc3.out];simpa[List.append_assoc]using HC5⟩
    case measure=>simp[intOf];omega
   ·have hSl:=congrArg List.length HSV.out;rw[if_neg hz]at HSV hSl;simp only[List.length_append,List.length_cons,List.length_nil]at hSl;have HLL:=hide (show J.length+(4+vn.length+2)<=1000000000 from by omega);obtain⟨c1,Hc1⟩: ∃c,Hid ([118,97,114,32]++vn=c):=⟨_,hide rfl⟩
    have hzc1:c1.length=4+vn.length:=by rw[<-Hc1.out,List.length_append];(try rfl)
    have hsc1:(⟨#[118,97,114,32]⟩:ByteArray)++str vn=str c1:=by rw[<-Hc1.out];exact str_app _ _
    have hmc1: ¬9223372036854775807<4+vn.length:=by omega
    have hkc1: ¬9223372036854775807<vn.length+4:=by omega
    have hqc1l:((⟨#[118,97,114,32]⟩:ByteArray)).size=4:=rfl;have hqc1vn:(str vn).size=vn.length:=str_size _;have Hzc1:=hide hzc1;clear hzc1;clear hSl hJl;go_wp2_with (first|(go_at_call 91;refine(pws_any b J c1 _ HC1.out.bu (by have a1:=Hzc1.out;have a2:=HLL.out;omega)).mono ?_;rintro e u2 ⟨rfl,h1,h2⟩;have HC2:=hide (HC1.out.wr h1 h2);have HYB2:=hide (h2.keep _ _ _ hpy (by decide) HYB.out);clear hyc;have hyc:=HYB2.out.cell;clear h1 h2 HC1)|(go_at_call 91;refine(pws_any b (J++c1) [59,10] _ HC2.out.bu (by have a1:=Hzc1.out;have a4:=HLL.out;simp only[List.length_append,List.length_cons,List.length_nil];omega)).mono ?_;rintro e u5 ⟨rfl,h1,h2⟩;have HC5:=hide (HC2.out.wr h1 h2);clear h1 h2 HC2));go_roundw
    case rel=>exact⟨j+1,by go_num,by omega,by have h9:=HT.out;have h8:=HSV.out;rw[hJ1,h9,h8,Hc1.out];simpa[List.append_assoc]using HC5⟩
    case measure=>simp[intOf];omega
  ·have hlt': ¬(j:Int)<n:=by omega
   have hjn:j=n:=by omega
   have HQ:=hide (show p.vs.take j=p.vs from by rw[hjn,HNV.out,List.take_length]);rw[HQ.out]at HCr;clear HQ;have hbc:=HCr.out.box.cell;go_wp2_with fail;clear hlt hlt' hjn hj;generalize hV0:p.vs.flatMap srcV=V0 at*
   go_loopw [36] (fun vi wr=> ∃j:Nat,vi= .int .i64 (j:Int)/\j<=m/\Hid (PQ b px w0 (fun k=>k<px) (.slice A n c) (.slice B m d) p (V0++(p.fs.take j).flatMap srcF) wr)) (fun vi _=>m-(intOf vi).toNat)
   case atStart=>exact⟨0,rfl,Nat.zero_le _,by simpa using HCr⟩
   case round=>
    clear HCr hbc;rename_i wx;obtain⟨j,rfl,hj,HCr⟩:=hrel;by_cases hlt:j<m
    ·have hlt':(j:Int)<m:=by omega
     have hjl:j<p.fs.length:=by have:=HNF.out;omega
     obtain⟨A',c',hv,hh⟩:=HCr.out.rf;injection hv with hA hn' hc';rcases hh with hh|⟨h1,h2,b9,o9,hA2,hP9,hb9,pv,bv,hcl⟩
     ·rw[hh]at hjl;simp at hjl
     obtain⟨e0,e1,e2,hrn,hrs⟩:=hcl j hjl;have hA3:B=some ⟨b9,o9,none⟩:=hA.trans hA2;subst hA3;clear hcl hA hA2 hn' hc' h1 h2 hP9;have hob:=HOK.out _ (List.getElem_mem hjl);have HT:=hide (flatMap_take_succ srcF p.fs j hjl);have hbd:=flatMap_take_le srcF p.fs (j+1);have HSV:=hide (show srcF p.fs[j]=[102,117,110,99,32]++p.fs[j].nm++[40]++joinS [44,32] p.fs[j].ps++[41,32]++blkS 0 (srcSs p.fs[j].body 1)++[10]from rfl);generalize srcF p.fs[j]=SVj at*;generalize p.fs[j].nm=fn at*;generalize p.fs[j].ps=fps at*;generalize p.fs[j].body=fb at*;generalize pv j=pvj at*;generalize bv j=bvj at*
     have HBk:=hide (show ∀(P:Nat->Prop) (w:World) (B:Option Addr) (nb cb b:Nat) (l:List UInt8),RdS w P (.slice B nb cb) fb->(∀k,P k->k<b)->TabW w b->Bu w b l->l.length+(blkS 0 (srcSs fb 1)).length<=1000000000->
      Calls prog 94 #[.pointer (some ⟨b,0,none⟩), .slice B nb cb, .int .i64 0] w (fun e w'=>e= .returned (.tuple #[])/\Bu w' b (l++blkS 0 (srcSs fb 1))/\FB b w w')from fun P w B nb cb b l=>prb_any hob P w B nb cb b 0 l)
     generalize hJ0:(p.fs.take j).flatMap srcF=J0 at*;generalize hJ:V0++J0=J at*;have hJJ:=congrArg List.length hJ;generalize hJ1:(p.fs.take (j+1)).flatMap srcF=J1 at*;have hJl:=congrArg List.length HT.out;simp only[List.length_append]at hJl hJJ;obtain⟨Ap,cp,rfl,_⟩:=id hrn;obtain⟨Ab,cbb,rfl,_⟩:=hrs.form;have hsz:=HCr.out.bu.lt;have hEA:=Ext.alloc wr (.cells #[.string (str fn), .slice Ap fps.length cp, .slice Ab fb.length cbb] 59);have HC1:=hide (HCr.out.ex hEA);have HYB:=hide (Blk.new wr 59 #[.string (str fn), .slice Ap fps.length cp, .slice Ab fb.length cbb]);have HRn:=hide (hrn.keep (.of_ext hEA) (fun _ hb _=>hb));have HRs:=hide (hrs.keep (.of_ext hEA) (fun _ hb _=>hb));have hpy:wr.heap.size≠b:=by omega
     have hSl:=congrArg List.length HSV.out;have HBD:=hide (show ∀(k:Nat),k<px->k<b from HCr.out.hP);generalize hJs:joinS [44,32] fps=Js at*;simp only[List.length_append,List.length_cons,List.length_nil]at hSl;have HLL:=hide (show J.length+(5+fn.length+1+Js.length+2+(blkS 0 (srcSs fb 1)).length+1)<=1000000000 from by omega);obtain⟨c1,Hc1⟩: ∃c,Hid ([102,117,110,99,32]++fn=c):=⟨_,hide rfl⟩
     have hzc1:c1.length=5+fn.length:=by rw[<-Hc1.out,List.length_append];(try rfl)
     have hsc1:(⟨#[102,117,110,99,32]⟩:ByteArray)++str fn=str c1:=by rw[<-Hc1.out];exact str_app _ _
     have hmc1: ¬9223372036854775807<5+fn.length:=by omega
     have hkc1: ¬9223372036854775807<fn.length+5:=by omega
     have hqc1l:((⟨#[102,117,110,99,32]⟩:ByteArray)).size=5:=rfl;have hqc1fn:(str fn).size=fn.length:=str_size _;obtain⟨c2,Hc2⟩: ∃c,Hid (c1++[40]=c):=⟨_,hide rfl⟩
     have hzc2:c2.length=c1.length+1:=by rw[<-Hc2.out,List.length_append];(try rfl)
     have hsc2:str c1++(⟨#[40]⟩:ByteArray)=str c2:=by rw[<-Hc2.out];exact str_app _ _
     have hmc2: ¬9223372036854775807<c1.length+1:=by omega
     have hkc2: ¬9223372036854775807<1+c1.length:=by omega
     have hqc2c1:(str c1).size=c1.length:=str_size _;have hqc2l:((⟨#[40]⟩:ByteArray)).size=1:=rfl;obtain⟨c3,Hc3⟩: ∃c,Hid (c2++Js=c):=⟨_,hide rfl⟩
     have hzc3:c3.length=c2.length+Js.length:=by rw[<-Hc3.out,List.length_append];(try rfl)
     have hsc3:str c2++str Js=str c3:=by rw[<-Hc3.out];exact str_app _ _
     have hmc3: ¬9223372036854775807<c2.length+Js.length:=by omega
     have hkc3: ¬9223372036854775807<Js.length+c2.length:=by omega
     have hqc3c2:(str c2).size=c2.length:=str_size _;have hqc3Js:(str Js).size=Js.length:=str_size _;obtain⟨c4,Hc4⟩: ∃c,Hid (c3++[41,32]=c):=⟨_,hide rfl⟩
     have hzc4:c4.length=c3.length+2:=by rw[<-Hc4.out,List.length_append];(try rfl)
     have hsc4:str c3++(⟨#[41,32]⟩:ByteArray)=str c4:=by rw[<-Hc4.out];exact str_app _ _
     have hmc4: ¬9223372036854775807<c3.length+2:=by omega
     have hkc4: ¬9223372036854775807<2+c3.length:=by omega
     have hqc4c3:(str c3).size=c3.length:=str_size _;have hqc4l:((⟨#[41,32]⟩:ByteArray)).size=2:=rfl;have Hzc1:=hide hzc1;clear hzc1;have Hzc2:=hide hzc2;clear hzc2;have Hzc3:=hide hzc3;clear hzc3;have Hzc4:=hide hzc4;clear hzc4;have HJs:=hide (fun W (h:RdN W (fun k=>k<px) (.slice Ap fps.length cp) fps)=>joinN_any Ap fps.length cp fps (fun k=>k<px) W h (by have a1:=HLL.out;rw[hJs];omega));rw[hJs]at HJs;clear hSl hJl hEA hrn hrs hJs hbd hJJ hob;go_wp2_with fail;have hbw:=Nat.le_of_lt HC1.out.bu.lt;refine wp_region_fb b 11 8 [(7,fun x=>x= .string (str Js),fun _ _=>True),(10,fun x=>x= .tuple #[.int .i64 c4.length, .nilIface],fun _ wx=>Bu wx b (J++c4))] 10 mixed (by kernel_rfl) hbw ⟨fun _ _ _ _ _=>trivial,fun _ _ _ h hx=>h.ext hx,trivial⟩ ⟨.inr fun _ _ _ _ _=>trivial, .inl rfl,trivial⟩ ?_;repeat (refine sx ?_ (fun w1 hU=> ?_) ?_;rotate_left;(focus have hF:=fb_un (hU hbw);have f1:=(hF.keep _ _ _ hpy (by decide) HYB.out).cell;clear hF hU;go_simp<;>with_reducible rfl);simp only[pq0,pq1,pq2,pq3,pq4])
     refine so (fun w6 hU hp K hK=> ?_) ?_
     ·have hR6:=HRn.out.keep ((fb_un (hU hbw)).keepP HBD.out) (fun _ hb _=>hb);clear hp hU;go_simp;refine(HJs.out w6 hR6).mono ?_;rintro e w7 ⟨rfl,hE⟩;exact hK _ _ hE rfl trivial
     rintro _ rfl;simp only[pq0,pq1,pq2,pq3,pq4];repeat (refine sx ?_ (fun w1 hU=> ?_) ?_;rotate_left;(focus have hF:=fb_un (hU hbw);have f1:=(hF.keep _ _ _ hpy (by decide) HYB.out).cell;clear hF hU;go_simp<;>with_reducible rfl);simp only[pq0,pq1,pq2,pq3,pq4])
     refine seq_late _ _ (by rfl) rfl ⟨_,rfl⟩ rfl (fun w6 hT hp K hK=> ?_) ?_
     ·have HC6:=hide (HC1.out.ex hT.un);clear hp hT;go_simp;refine(pws_any b J c4 w6 HC6.out.bu (by have a1:=Hzc1.out;have a2:=Hzc2.out;have a3:=Hzc3.out;have a4:=Hzc4.out;have a5:=HLL.out;omega)).mono ?_;rintro e w7 ⟨rfl,h1,h2⟩;exact hK _ _ (fun _=>h2) rfl h1
     rintro _ rfl;simp only[pq0,pq1,pq2,pq3,pq4];intro v3 hv3 hp;have HC3:=hide (HC1.out.wr (hp _ (.head _)) hv3);have HYB3:=hide (hv3.keep _ _ _ hpy (by decide) HYB.out);have hyc:=HYB3.out.cell;have HRv:=hide (HRs.out.keep (hv3.keepP HBD.out) (fun _ hb _=>hb));clear hv3 hp HC1;simp only[List.drop_succ_cons,List.drop_nil];go_wp2_with (first|(go_at_call 94;refine(HBk.out (fun k=>k<px) _ Ab _ cbb b (J++c4) HRv.out HBD.out HC3.out.tab HC3.out.bu (by have a1:=Hzc1.out;have a2:=Hzc2.out;have a3:=Hzc3.out;have a4:=Hzc4.out;have a5:=HLL.out;simp only[List.length_append];omega)).mono ?_;rintro e u4 ⟨rfl,h1,h2⟩;have HC4:=hide (HC3.out.wr h1 h2);clear h1 h2 HC3 hyc)|(go_at_call 91;refine(pws_any b (J++c4++blkS 0 (srcSs fb 1)) [10] _ HC4.out.bu (by have a1:=Hzc1.out;have a2:=Hzc2.out;have a3:=Hzc3.out;have a4:=Hzc4.out;have a5:=HLL.out;simp only[List.length_append,List.length_cons,List.length_nil];omega)).mono ?_;rintro e u5 ⟨rfl,h1,h2⟩;have HC5:=hide (HC4.out.wr h1 h2);clear h1 h2 HC4));go_roundw
     case rel=>exact⟨j+1,by go_num,by omega,by have h9:=HT.out;have h8:=HSV.out;rw[hJ1,h9,h8,Hc1.out,Hc2.out,Hc3.out,Hc4.out,<-List.append_assoc,hJ];simpa[List.append_assoc]using HC5⟩
     case measure=>simp[intOf];omega
    ·have hlt': ¬(j:Int)<m:=by omega
     have hjn:j=m:=by omega
     have HQ:=hide (show p.fs.take j=p.fs from by rw[hjn,HNF.out,List.take_length]);rw[HQ.out,HS.out]at HCr;go_wp2_with (go_at_call 95;refine(pstr_any b S _ HCr.out.bu (by omega)).mono ?_;rintro e u9 ⟨rfl,hB9⟩;have HB9:=hide hB9;clear hB9);go_ret;exact⟨rfl,show Below w.heap.size w _ from Below.trans HE2.out (Below.mono (Below.trans HCr.out.fb.below HB9.out) (by have:=HXB.out.1;omega))⟩
end Go.Proofs.YtddomeddabfinaaGreatDoor
namespace Go.Proofs.YtddomeddabfinaaGreatDoor
open Go.Proofs.Tryz
open Go.RowKit
theorem valid1_any (l:List UInt8) (hl:l.length<=1073741824) (w:World):Calls prog 68 #[.string (str l)] w fun e w'=>e= .returned (.bool (!isNm l))/\Ext w w':=by
 have HI:=hide (isname_any l hl);generalize isNm l=r at*;go_enter func68,ntmps68;go_wp2_with (go_at_call 66;refine(HI.out _).mono ?_;rintro e w1 ⟨rfl,rfl⟩);go_ret;exact⟨rfl,Ext.refl _⟩
def okV (v:Vr):Bool:=isNm v.nm&&decide (0<=v.sz)&&decide (v.sz<=2000)
def okF (f:Fc):Bool:=isNm f.nm&&decide (f.ps.length<=4)&&f.ps.all isNm&&f.body.all (fun s=>decide (s.dep<=20)&&s.ok)
def okPg (p:Pg):Bool:=p.vs.all okV&&p.fs.all okF&&decide (p.vs.length<=20)&&decide (p.fs.length<=20)&&decide ((srcP p).length<=4000)
theorem okF_body {f:Fc} (h:okF f=true):okS f.body=true:=by
 unfold okF at h;simp only[Bool.and_eq_true,List.all_eq_true,decide_eq_true_eq]at h;rw[okS_all,List.all_eq_true];exact fun s hs=>(h.2 s hs).2
end Go.Proofs.YtddomeddabfinaaGreatDoor
