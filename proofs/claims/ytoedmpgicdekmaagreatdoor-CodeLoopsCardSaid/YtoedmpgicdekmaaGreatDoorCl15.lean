/- Parts of the proof. -/
import Derived.Test.YtoedmpgicdekmaaGreatDoorCl13
import Derived.Test.YtoedmpgicdekmaaGreatDoorCl14
import Derived.Test.YtoedmpgicdekmaaGreatDoorCl00
import Derived.BigQuiet
import Derived.Test.YtoedmpgicdekmaaGreatDoorCl02
set_option maxRecDepth 100000
set_option maxHeartbeats 8000000
set_option linter.unusedVariables false
set_option linter.unusedSimpArgs false
set_option linter.unusedSectionVars false
namespace Go.Proofs.YtoedmpgicdekmaaGreatDoor
open Go.Proofs.Tryz
section
open Go.RowKit
theorem tW (i:Nat) (d:i<=1000000000) (a:World):Calls prog 173 #[.string ⟨#[9]⟩, .int .i64 (i:Int)] a λe w'=>e= .returned (.string (ak (lb i)))/\au a w':=by
 refine(Tryz.strings_Repeat ⟨#[9]⟩ i a Qa (by show 1*i<=_;omega)).mono ?_;rintro e w' ⟨rfl,d⟩;refine⟨?_,d⟩;have:=Lib.repeatL_replicate 9 1 i;rw[lr]at this;rw[show((⟨#[9]⟩:ByteArray).data.toList)=List.replicate 1 9 from rfl,this];rfl
structure PB (b:Nat) (w0:World) (P:Nat->Prop) (v:Value) (xs:List St) (l:List UInt8) (W:World):Prop where
 bu:Bu W b l
 rd:ed W P v xs
 fb:FB b w0 W
 tab:ea W b
 hP: ∀k,P k->k<b
section
variable {b:Nat} {w0 W W':World} {P:Nat->Prop} {v:Value} {xs:List St} {l l':List UInt8}
theorem PB.wr (a:PB b w0 P v xs l W) (o:Bu W' b l') (d:FB b W W'):PB b w0 P v xs l' W':=⟨o,a.rd.keep (d.keepP a.hP) (λ_ h _=>h),a.fb.trans d,a.tab.fb d,a.hP⟩
theorem PB.ex (a:PB b w0 P v xs l W) (d:au W W'):PB b w0 P v xs l W':=a.wr (a.bu.ext d) (aV d (aH a.bu.lt))
end
theorem JF (nm:List UInt8) (I:List St) (w:Ex) (aB:pu w) (av:mr I) (P:Nat->Prop) (a:World) (aA B C:Option Addr) (n c z H an X b i:Nat) (l:List UInt8) (ad:dL a P (.slice aA n c) [w]) (ay:ed a P (.slice B z H) I) (ao:ed a P (.slice C an X) []) (o: ∀k,P k->k<b) (aw:ea a b) (M:Bu a b l) (S:List UInt8) (ax:eH (.mk 4 nm [w] I []) i=S) (aN:l.length+S.length<=1000000000):
  Calls prog 217 #[.pointer (some ⟨b,0,none⟩), .agg #[.int .i64 4, .string (ak nm), .slice aA n c, .slice B z H, .slice C an X], .int .i64 (i:Int)] a λe w'=>e= .returned (.tuple #[])/\Bu w' b (l++S)/\FB b a w':=by
 have az:=G (show[105,102,32]++c_ w++[32]++f_ i (ch I (i+1))++[]=S from by rw[<-ax];simp[eH,lH,ch,fM,oM,G5,pX]);have aM:3+(c_ w).length+1+(f_ i (ch I (i+1))).length+0=S.length:=by rw[<-az.out];simp only[ac,ag,ai]
 clear ax;have ar:=ao.len;simp only[ag,ai]at ar;obtain rfl:an=0:=ar;have au:=ad.len;simp only[ag,ai]at au;obtain rfl:n=1:=au;obtain⟨b0,u,a0,aD,A,F,am,al,aj,ah,af,ae,ab⟩:=ad.at_ 0 Qe;simp only[aF,aP,aY,bm,cP]at am al aj ah af ae ab;obtain⟨aK,aE,rfl,_⟩:=ab.form;have J:=G (aC am (aC al (aC aj (aC ah (aC af ae)))));have aJ:=G ab;clear am al aj ah af ae ab;subst aD;have d:=G (show PS b a.heap.size a P #[.int .i64 4, .string (ak nm), .slice (some ⟨b0,u,none⟩) 1 c, .slice B z H, .slice C 0 X] (.slice (some ⟨b0,u,none⟩) 1 c) (.slice B z H) (.slice C 0 X) (.mk 4 nm [w] I []) l _ from⟨aq a 147 #[.int .i64 4, .string (ak nm), .slice (some ⟨b0,u,none⟩) 1 c, .slice B z H, .slice C 0 X],M.ext (aa a _),ad.keep (.of_ext (aa a _)) (λ_ y _=>y),ay.keep (.of_ext (aa a _)) (λ_ y _=>y),ao.keep (.of_ext (aa a _)) (λ_ y _=>y),aV (aa a _) (aH M.lt),aw.fb (aV (aa a _) (aH M.lt)),bU M.lt,by decide,o⟩);have Z:=d.out.box.cell;clear M ad aw ay ao;unfold mr at av;go_enter func217,ntmps217;have e0:=(d.out.fb.keepP o).cell (u) F A|>.trans J.out.1;have aT:=(d.out.fb.keepP o).cell (u+1) F A|>.trans J.out.2.1;have aS:=(d.out.fb.keepP o).cell (u+2) F A|>.trans J.out.2.2.1;have aR:=(d.out.fb.keepP o).cell (u+3) F A|>.trans J.out.2.2.2.1;have aQ:=(d.out.fb.keepP o).cell (u+4) F A|>.trans J.out.2.2.2.2.1;have aO:=(d.out.fb.keepP o).cell (u+5) F A|>.trans J.out.2.2.2.2.2;go_wp2_with (first|(go_at_call 216;refine(fl w aB [105,102,32] [32] P _ aK _ aE b l (aJ.out.keep (d.out.fb.keepP o) (λ_ y _=>y)) o d.out.tab d.out.bu (by(try have aI:=Hzc1.out);(try have aG:=Hzc2.out);simp only[ac,ag,ai];omega)).mono ?_;rintro e u1 ⟨rfl,V,R⟩;have K:=G (d.out.wr V R);clear V R d;clear Z;have Z:=K.out.box.cell)|(go_at_call 121;refine(av P _ B z H b i (l++([105,102,32]++c_ w++[32])) K.out.rb o K.out.tab K.out.bu (by(try have aI:=Hzc1.out);(try have aG:=Hzc2.out);simp only[ac,ag,ai];omega)).mono ?_;rintro e u2 ⟨rfl,V,R⟩;have ap:=G (K.out.wr V R);clear V R K;clear Z;have Z:=ap.out.box.cell));first|go_end0|((try simp only[Exit.inBlock,Exit.then]);refine bodyPost_ret (results_none rfl _ _ _) rfl ?_)
 exact⟨rfl,by rw[<-az.out];have:=ap.out.bu;simpa[aL]using this,ap.out.fb⟩
theorem JE (nm:List UInt8) (R:List St) (H:Ex) (a7:pu H) (aS:mr R) (s:St) (aR:s.k=4) (aJ:wY s) (P:Nat->Prop) (d:World) (a6 B C:Option Addr) (n c V ad aI aj b i:Nat) (l:List UInt8) (ar:dL d P (.slice a6 n c) [H]) (aW:ed d P (.slice B V ad) R) (ap:ed d P (.slice C aI aj) [s]) (a: ∀k,P k->k<b) (aT:ea d b) (ah:Bu d b l) (S:List UInt8) (aU:eH (.mk 4 nm [H] R [s]) i=S) (bn:l.length+S.length<=1000000000):
  Calls prog 217 #[.pointer (some ⟨b,0,none⟩), .agg #[.int .i64 4, .string (ak nm), .slice a6 n c, .slice B V ad, .slice C aI aj], .int .i64 (i:Int)] d λe w'=>e= .returned (.tuple #[])/\Bu w' b (l++S)/\FB b d w':=by
 have a4:=G (show[105,102,32]++c_ H++[32]++f_ i (ch R (i+1))++([32,101,108,115,101,32]++eH s i)=S from by rw[<-aU];simp[eH,lH,ch,fM,oM,G5,pX,aR]);have bl:3+(c_ H).length+1+(f_ i (ch R (i+1))).length+(6+(eH s i).length)=S.length:=by rw[<-a4.out];simp only[ac,ag,ai]
 clear aU;have aO:=ap.len;simp only[ag,ai]at aO;obtain rfl:aI=1:=aO;obtain⟨bs,o,bk,bj,sz,a8,I,J,aG,aE,aD,aB,aA,am,an,al⟩:=ap.at_ 0 Qe;simp only[aF,aY,bm]at aG aE aD aB aA am an al;obtain⟨bf,bc,rfl,_⟩:=am.form;obtain⟨bh,bd,rfl,_⟩:=an.form;obtain⟨bg,bb,rfl,_⟩:=al.form;subst a8;have F:=G (aC aG (aC aE (aC aD (aC aB aA))));have aN:=G (aC am (aC an al));clear aG aE aD aB aA am an al;have aQ:=ar.len;simp only[ag,ai]at aQ;obtain rfl:n=1:=aQ;obtain⟨b0,K,a0,a9,Z,ab,az,ay,ax,aw,av,au,ao⟩:=ar.at_ 0 Qe;simp only[aF,aP,aY,bm,cP]at az ay ax aw av au ao;obtain⟨bi,ba,rfl,_⟩:=ao.form;have ae:=G (aC az (aC ay (aC ax (aC aw (aC av au)))));have be:=G ao;clear az ay ax aw av au ao;subst a9;have y:=G (show PS b d.heap.size d P #[.int .i64 4, .string (ak nm), .slice (some ⟨b0,K,none⟩) 1 c, .slice B V ad, .slice (some ⟨bs,o,none⟩) 1 aj] (.slice (some ⟨b0,K,none⟩) 1 c) (.slice B V ad) (.slice (some ⟨bs,o,none⟩) 1 aj) (.mk 4 nm [H] R [s]) l _ from⟨aq d 147 #[.int .i64 4, .string (ak nm), .slice (some ⟨b0,K,none⟩) 1 c, .slice B V ad, .slice (some ⟨bs,o,none⟩) 1 aj],ah.ext (aa d _),ar.keep (.of_ext (aa d _)) (λ_ u _=>u),aW.keep (.of_ext (aa d _)) (λ_ u _=>u),ap.keep (.of_ext (aa d _)) (λ_ u _=>u),aV (aa d _) (aH ah.lt),aT.fb (aV (aa d _) (aH ah.lt)),bU ah.lt,by decide,a⟩);have X:=y.out.box.cell;clear ah ar aT aW ap;unfold mr at aS;unfold wY at aJ;rw[aR]at F aJ;go_enter func217,ntmps217;have e0:=(y.out.fb.keepP a).cell (K) ab Z|>.trans ae.out.1;have bt:=(y.out.fb.keepP a).cell (K+1) ab Z|>.trans ae.out.2.1;have br:=(y.out.fb.keepP a).cell (K+2) ab Z|>.trans ae.out.2.2.1;have bq:=(y.out.fb.keepP a).cell (K+3) ab Z|>.trans ae.out.2.2.2.1;have bp:=(y.out.fb.keepP a).cell (K+4) ab Z|>.trans ae.out.2.2.2.2.1;have bo:=(y.out.fb.keepP a).cell (K+5) ab Z|>.trans ae.out.2.2.2.2.2;go_wp2_with (first|(go_at_call 216;refine(fl H a7 [105,102,32] [32] P _ bi _ ba b l (be.out.keep (y.out.fb.keepP a) (λ_ u _=>u)) a y.out.tab y.out.bu (by(try have aM:=Hzc1.out);(try have aK:=Hzc2.out);simp only[ac,ag,ai];omega)).mono ?_;rintro e u1 ⟨rfl,A,z⟩;have af:=G (y.out.wr A z);clear A z y;clear X;have X:=af.out.box.cell)|(go_at_call 121;refine(aS P _ B V ad b i (l++([105,102,32]++c_ H++[32])) af.out.rb a af.out.tab af.out.bu (by(try have aM:=Hzc1.out);(try have aK:=Hzc2.out);simp only[ac,ag,ai];omega)).mono ?_;rintro e u2 ⟨rfl,A,z⟩;have M:=G (af.out.wr A z);clear A z af;clear X;have X:=M.out.box.cell;have a3:=(M.out.fb.keepP a).cell (o) J I|>.trans F.out.1;have a2:=(M.out.fb.keepP a).cell (o+1) J I|>.trans F.out.2.1;have a1:=(M.out.fb.keepP a).cell (o+2) J I|>.trans F.out.2.2.1;have aZ:=(M.out.fb.keepP a).cell (o+3) J I|>.trans F.out.2.2.2.1;have aX:=(M.out.fb.keepP a).cell (o+4) J I|>.trans F.out.2.2.2.2)|(go_at_call 118;refine(cY b ((l++([105,102,32]++c_ H++[32]))++f_ i (ch R (i+1))) [32,101,108,115,101,32] _ M.out.bu (by(try have aM:=Hzc1.out);(try have aK:=Hzc2.out);(try simp only[ac,ag,ai]);omega)).mono ?_;rintro e u3 ⟨rfl,A,z⟩;have w:=G (M.out.wr A z);clear A z M;clear X;have X:=w.out.box.cell;clear a3 a2 a1 aZ aX;have a3:=(w.out.fb.keepP a).cell (o) J I|>.trans F.out.1;have a2:=(w.out.fb.keepP a).cell (o+1) J I|>.trans F.out.2.1;have a1:=(w.out.fb.keepP a).cell (o+2) J I|>.trans F.out.2.2.1;have aZ:=(w.out.fb.keepP a).cell (o+3) J I|>.trans F.out.2.2.2.1;have aX:=(w.out.fb.keepP a).cell (o+4) J I|>.trans F.out.2.2.2.2)|(go_at_call 217;refine(aJ P _ bf bh bg _ bc _ bd _ bb b i (((l++([105,102,32]++c_ H++[32]))++f_ i (ch R (i+1)))++[32,101,108,115,101,32]) (aN.out.1.keep (w.out.fb.keepP a) (λ_ u _=>u)) (aN.out.2.1.keep (w.out.fb.keepP a) (λ_ u _=>u)) (aN.out.2.2.keep (w.out.fb.keepP a) (λ_ u _=>u)) a w.out.tab w.out.bu (by(try have aM:=Hzc1.out);(try have aK:=Hzc2.out);(try simp only[ac,ag,ai]);omega)).mono ?_;rintro e u4 ⟨rfl,A,z⟩;have a5:=G (w.out.wr A z);clear A z w));first|go_end0|((try simp only[Exit.inBlock,Exit.then]);refine bodyPost_ret (results_none rfl _ _ _) rfl ?_)
 exact⟨rfl,by rw[<-a4.out];have:=a5.out.bu;simpa[aL]using this,a5.out.fb⟩
theorem JD (nm:List UInt8) (H:List St) (y:Ex) (a1:pu y) (aR:mr H) (s:St) (aO:s.k≠4) (aQ:mr [s]) (P:Nat->Prop) (a:World) (aZ B C:Option Addr) (n c K Z aI X b i:Nat) (l:List UInt8) (ar:dL a P (.slice aZ n c) [y]) (aU:ed a P (.slice B K Z) H) (ap:ed a P (.slice C aI X) [s]) (d: ∀k,P k->k<b) (aS:ea a b) (ah:Bu a b l) (S:List UInt8) (aT:eH (.mk 4 nm [y] H [s]) i=S) (bb:l.length+S.length<=1000000000):
  Calls prog 217 #[.pointer (some ⟨b,0,none⟩), .agg #[.int .i64 4, .string (ak nm), .slice aZ n c, .slice B K Z, .slice C aI X], .int .i64 (i:Int)] a λe w'=>e= .returned (.tuple #[])/\Bu w' b (l++S)/\FB b a w':=by
 have aW:=G (show[105,102,32]++c_ y++[32]++f_ i (ch H (i+1))++([32,101,108,115,101,32]++f_ i (ch [s] (i+1)))=S from by rw[<-aT];simp[eH,lH,ch,fM,oM,G5,pX,aO]);have ba:3+(c_ y).length+1+(f_ i (ch H (i+1))).length+(6+(f_ i (ch [s] (i+1))).length)=S.length:=by rw[<-aW.out];simp only[ac,ag,ai]
 clear aT;have aM:=ap.len;simp only[ag,ai]at aM;obtain rfl:aI=1:=aM;obtain⟨bs,z,a8,a7,sz,a2,ae,af,aG,aE,aD,aB,aA,am,an,al⟩:=ap.at_ 0 Qe;simp only[aF,aY,bm]at aG aE aD aB aA am an al;obtain⟨br,bo,rfl,_⟩:=am.form;obtain⟨bv,bp,rfl,_⟩:=an.form;obtain⟨bt,bn,rfl,_⟩:=al.form;subst a2;have aj:=G (aC aG (aC aE (aC aD (aC aB aA))));have bq:=G (aC am (aC an al));clear aG aE aD aB aA am an al;have aN:=ar.len;simp only[ag,ai]at aN;obtain rfl:n=1:=aN;obtain⟨b0,A,a0,a3,R,V,az,ay,ax,aw,av,au,ao⟩:=ar.at_ 0 Qe;simp only[aF,aP,aY,bm,cP]at az ay ax aw av au ao;obtain⟨a6,a4,rfl,_⟩:=ao.form;have ab:=G (aC az (aC ay (aC ax (aC aw (aC av au)))));have a5:=G ao;clear az ay ax aw av au ao;subst a3;have o:=G (show PS b a.heap.size a P #[.int .i64 4, .string (ak nm), .slice (some ⟨b0,A,none⟩) 1 c, .slice B K Z, .slice (some ⟨bs,z,none⟩) 1 X] (.slice (some ⟨b0,A,none⟩) 1 c) (.slice B K Z) (.slice (some ⟨bs,z,none⟩) 1 X) (.mk 4 nm [y] H [s]) l _ from⟨aq a 147 #[.int .i64 4, .string (ak nm), .slice (some ⟨b0,A,none⟩) 1 c, .slice B K Z, .slice (some ⟨bs,z,none⟩) 1 X],ah.ext (aa a _),ar.keep (.of_ext (aa a _)) (λ_ I _=>I),aU.keep (.of_ext (aa a _)) (λ_ I _=>I),ap.keep (.of_ext (aa a _)) (λ_ I _=>I),aV (aa a _) (aH ah.lt),aS.fb (aV (aa a _) (aH ah.lt)),bU ah.lt,by decide,d⟩);have M:=o.out.box.cell;clear ah ar aS aU ap;unfold mr at aR;unfold mr at aQ;have a9:(s.k==4)=false:=by rw[Qn];exact aO
 go_enter func217,ntmps217;have e0:=(o.out.fb.keepP d).cell (A) V R|>.trans ab.out.1;have bl:=(o.out.fb.keepP d).cell (A+1) V R|>.trans ab.out.2.1;have bk:=(o.out.fb.keepP d).cell (A+2) V R|>.trans ab.out.2.2.1;have bj:=(o.out.fb.keepP d).cell (A+3) V R|>.trans ab.out.2.2.2.1;have bi:=(o.out.fb.keepP d).cell (A+4) V R|>.trans ab.out.2.2.2.2.1;have bh:=(o.out.fb.keepP d).cell (A+5) V R|>.trans ab.out.2.2.2.2.2;go_wp2_with (first|(go_at_call 216;refine(fl y a1 [105,102,32] [32] P _ a6 _ a4 b l (a5.out.keep (o.out.fb.keepP d) (λ_ I _=>I)) d o.out.tab o.out.bu (by(try have aK:=Hzc1.out);(try have aJ:=Hzc2.out);simp only[ac,ag,ai];omega)).mono ?_;rintro e u1 ⟨rfl,w,u⟩;have ad:=G (o.out.wr w u);clear w u o;clear M;have M:=ad.out.box.cell)|(go_at_call 121;refine(aR P _ B K Z b i (l++([105,102,32]++c_ y++[32])) ad.out.rb d ad.out.tab ad.out.bu (by(try have aK:=Hzc1.out);(try have aJ:=Hzc2.out);simp only[ac,ag,ai];omega)).mono ?_;rintro e u2 ⟨rfl,w,u⟩;have F:=G (ad.out.wr w u);clear w u ad;clear M;have M:=F.out.box.cell;have bg:=(F.out.fb.keepP d).cell (z) af ae|>.trans aj.out.1;have bf:=(F.out.fb.keepP d).cell (z+1) af ae|>.trans aj.out.2.1;have be:=(F.out.fb.keepP d).cell (z+2) af ae|>.trans aj.out.2.2.1;have bd:=(F.out.fb.keepP d).cell (z+3) af ae|>.trans aj.out.2.2.2.1;have bc:=(F.out.fb.keepP d).cell (z+4) af ae|>.trans aj.out.2.2.2.2)|(go_at_call 118;refine(cY b ((l++([105,102,32]++c_ y++[32]))++f_ i (ch H (i+1))) [32,101,108,115,101,32] _ F.out.bu (by(try have aK:=Hzc1.out);(try have aJ:=Hzc2.out);(try simp only[ac,ag,ai]);omega)).mono ?_;rintro e u3 ⟨rfl,w,u⟩;have J:=G (F.out.wr w u);clear w u F;clear M;have M:=J.out.box.cell)|(go_at_call 121;guard_hyp J;refine(aQ P _ (some ⟨bs,z,none⟩) 1 X b i (((l++([105,102,32]++c_ y++[32]))++f_ i (ch H (i+1)))++[32,101,108,115,101,32]) J.out.rl d J.out.tab J.out.bu (by(try have aK:=Hzc1.out);(try have aJ:=Hzc2.out);(try simp only[ac,ag,ai]);omega)).mono ?_;rintro e u4 ⟨rfl,w,u⟩;have aX:=G (J.out.wr w u);clear w u J));first|go_end0|((try simp only[Exit.inBlock,Exit.then]);refine bodyPost_ret (results_none rfl _ _ _) rfl ?_)
 exact⟨rfl,by rw[<-aW.out];have:=aX.out.bu;simpa[aL]using this,aX.out.fb⟩
theorem JC (nm:List UInt8) (F:List St) (y:Ex) (aM:pu y) (aB:mr F) (J I:St) (r:List St) (aA:mr (J::I::r)) (P:Nat->Prop) (a:World) (aK B C:Option Addr) (n c K Z A X b i:Nat) (l:List UInt8) (aj:dL a P (.slice aK n c) [y]) (aG:ed a P (.slice B K Z) F) (av:ed a P (.slice C A X) (J::I::r)) (o: ∀k,P k->k<b) (aD:ea a b) (af:Bu a b l) (S:List UInt8) (aE:eH (.mk 4 nm [y] F (J::I::r)) i=S) (aX:l.length+S.length<=1000000000):
  Calls prog 217 #[.pointer (some ⟨b,0,none⟩), .agg #[.int .i64 4, .string (ak nm), .slice aK n c, .slice B K Z, .slice C A X], .int .i64 (i:Int)] a λe w'=>e= .returned (.tuple #[])/\Bu w' b (l++S)/\FB b a w':=by
 have aI:=G (show[105,102,32]++c_ y++[32]++f_ i (ch F (i+1))++([32,101,108,115,101,32]++f_ i (ch (J::I::r) (i+1)))=S from by rw[<-aE];simp[eH,lH,ch,fM,oM,G5,pX]);have aW:3+(c_ y).length+1+(f_ i (ch F (i+1))).length+(6+(f_ i (ch (J::I::r) (i+1))).length)=S.length:=by rw[<-aI.out];simp only[ac,ag,ai]
 clear aE;have ay:=av.len;simp only[ag,ai]at ay;have aU:((A:Int)==1)=false:=by rw[Qn];omega
 have aT:0<A:=Qa
 have aS:(0:Int)<A:=Qa
 clear ay;have az:=aj.len;simp only[ag,ai]at az;obtain rfl:n=1:=az;obtain⟨b0,z,a0,aN,R,V,au,ar,ap,ao,an,am,ah⟩:=aj.at_ 0 Qe;simp only[aF,aP,aY,bm,cP]at au ar ap ao an am ah;obtain⟨aR,aO,rfl,_⟩:=ah.form;have ab:=G (aC au (aC ar (aC ap (aC ao (aC an am)))));have aQ:=G ah;clear au ar ap ao an am ah;subst aN;have d:=G (show PS b a.heap.size a P #[.int .i64 4, .string (ak nm), .slice (some ⟨b0,z,none⟩) 1 c, .slice B K Z, .slice C A X] (.slice (some ⟨b0,z,none⟩) 1 c) (.slice B K Z) (.slice C A X) (.mk 4 nm [y] F (J::I::r)) l _ from⟨aq a 147 #[.int .i64 4, .string (ak nm), .slice (some ⟨b0,z,none⟩) 1 c, .slice B K Z, .slice C A X],af.ext (aa a _),aj.keep (.of_ext (aa a _)) (λ_ H _=>H),aG.keep (.of_ext (aa a _)) (λ_ H _=>H),av.keep (.of_ext (aa a _)) (λ_ H _=>H),aV (aa a _) (aH af.lt),aD.fb (aV (aa a _) (aH af.lt)),bU af.lt,by decide,o⟩);have M:=d.out.box.cell;clear af aj aD aG av;unfold mr at aB;unfold mr at aA;go_enter func217,ntmps217;have e0:=(d.out.fb.keepP o).cell (z) V R|>.trans ab.out.1;have a4:=(d.out.fb.keepP o).cell (z+1) V R|>.trans ab.out.2.1;have a3:=(d.out.fb.keepP o).cell (z+2) V R|>.trans ab.out.2.2.1;have a2:=(d.out.fb.keepP o).cell (z+3) V R|>.trans ab.out.2.2.2.1;have a1:=(d.out.fb.keepP o).cell (z+4) V R|>.trans ab.out.2.2.2.2.1;have aZ:=(d.out.fb.keepP o).cell (z+5) V R|>.trans ab.out.2.2.2.2.2;go_wp2_with (first|(go_at_call 216;refine(fl y aM [105,102,32] [32] P _ aR _ aO b l (aQ.out.keep (d.out.fb.keepP o) (λ_ H _=>H)) o d.out.tab d.out.bu (by(try have ax:=Hzc1.out);(try have aw:=Hzc2.out);simp only[ac,ag,ai];omega)).mono ?_;rintro e u1 ⟨rfl,w,u⟩;have ae:=G (d.out.wr w u);clear w u d;clear M;have M:=ae.out.box.cell)|(go_at_call 121;refine(aB P _ B K Z b i (l++([105,102,32]++c_ y++[32])) ae.out.rb o ae.out.tab ae.out.bu (by(try have ax:=Hzc1.out);(try have aw:=Hzc2.out);simp only[ac,ag,ai];omega)).mono ?_;rintro e u2 ⟨rfl,w,u⟩;have al:=G (ae.out.wr w u);clear w u ae;clear M;have M:=al.out.box.cell)|(go_at_call 118;refine(cY b ((l++([105,102,32]++c_ y++[32]))++f_ i (ch F (i+1))) [32,101,108,115,101,32] _ al.out.bu (by(try have ax:=Hzc1.out);(try have aw:=Hzc2.out);(try simp only[ac,ag,ai]);omega)).mono ?_;rintro e u3 ⟨rfl,w,u⟩;have ad:=G (al.out.wr w u);clear w u al;clear M;have M:=ad.out.box.cell)|(go_at_call 121;refine(aA P _ C A X b i (((l++([105,102,32]++c_ y++[32]))++f_ i (ch F (i+1)))++[32,101,108,115,101,32]) ad.out.rl o ad.out.tab ad.out.bu (by(try have ax:=Hzc1.out);(try have aw:=Hzc2.out);(try simp only[ac,ag,ai]);omega)).mono ?_;rintro e u4 ⟨rfl,w,u⟩;have aJ:=G (ad.out.wr w u);clear w u ad));first|go_end0|((try simp only[Exit.inBlock,Exit.then]);refine bodyPost_ret (results_none rfl _ _ _) rfl ?_)
 exact⟨rfl,by rw[<-aI.out];have:=aJ.out.bu;simpa[aL]using this,aJ.out.fb⟩
theorem tp (xs:List St) (aV: ∀u,u∈xs->Ha u):mr xs:=by
 intro P F B y a4 b i l aj R aZ a3 bN;have ax:=aj.len;have bh:y<=maxLen:=by
  obtain⟨A',c',_,h|⟨o,a,_⟩⟩:=aj.form
  ·rw[ax,h];exact aD _
  ·omega
 unfold maxLen at bh;have bt:=G aV;generalize a1:f_ i (ch xs (i+1))=S at*;have az:[123,10]++(ch xs (i+1)).flatMap (λt=>lb (i+1)++t++[10])++(lb i++[125])=S:=a1;clear a1;generalize a2:(λt:List UInt8=>lb (i+1)++t++[10])=w at*;have bD:=G (show ∀t,w t=lb (i+1)++t++[10]from λt=>by rw[<-a2]);have bB:=G az;have av:(lb i).length=i:=by simp[lb]
 have aW:(lb (i+1)).length=i+1:=by simp[lb]
 have bM:2+((ch xs (i+1)).flatMap w).length+(i+1)=S.length:=by rw[<-az];simp only[ac,ag,ai,av]
 have bG:IntKind.i64.wrap ((i:Int)+1)=((i+1:Nat):Int):=Qc
 have ba:=G ax;have a6:=G av;have ao:=G aW;clear az a2 aV ax av aW;have aP:=G (show PB b F P (.slice B y a4) xs l F from⟨a3,aj,FB.refl _ _,aZ,R⟩);have bz:=G (λF=>tW i Qa F);have bv:=G (λF=>tW (i+1) Qa F);clear a3 aj aZ;go_enter func121,ntmps121;go_wp2_with (go_at_call 118;refine(cY b l [123,10] _ aP.out.bu (by(try have am:=Z.out);(try have al:=Hzc2.out);(try simp only[ac,ag,ai]);omega)).mono ?_;rintro e u1 ⟨rfl,o,a⟩;have ab:=G (aP.out.wr o a);clear o a aP)
 go_loopw [14] (λau wr=> ∃j:Nat,au= .int .i64 (j:Int)/\j<=y/\Hid (PB b F P (.slice B y a4) xs (l++[123,10]++((ch xs (i+1)).take j).flatMap w) wr)) (λau _=>y-(intOf au).toNat)
 case atStart=>exact⟨0,rfl,aD _,by simpa using ab⟩
 case round=>
  clear ab;obtain⟨j,rfl,bQ,M⟩:=hrel;by_cases hlt:j<y
  ·have bi:(j:Int)<y:=Qa
   have aY:j<xs.length:=by have:=ba.out;omega
   have bf:(ch xs (i+1)).length=xs.length:=by rw[l5];simp
   have aX:(ch xs (i+1))[j]' Qa=eH xs[j] (i+1):=by simp[l5]
   have a8:=G (show((ch xs (i+1)).take (j+1)).flatMap w=((ch xs (i+1)).take j).flatMap w++(lb (i+1)++eH xs[j] (i+1)++[10])from by rw[aT Qa,ff,aX,<-bD.out];simp);have bS:(((ch xs (i+1)).take (j+1)).flatMap w).length<=((ch xs (i+1)).flatMap w).length:=by
    conv=>rhs;rw[<-db (j+1) (ch xs (i+1)),ff,ac]
    omega
   obtain⟨b5,bF,bW,bV,bU,rfl,bR,bT,e0,b4,bZ,bY,bX,af,ah,ad⟩:=M.out.rd.at_ j aY;have a5:=G (bt.out _ (ay aY));generalize xs[j]=u at*;unfold Ha at a5;obtain⟨aQ,aF,rfl,_⟩:=af.form;obtain⟨aS,aH,rfl,_⟩:=ah.form;obtain⟨aR,aG,rfl,_⟩:=ad.form;have bC:=G (aC af (aC ah ad));have bH:=M.out.bu.lt;have V:=aa wr (.cells #[.int .i64 u.k, .string (ak u.nm), .slice aQ u.ex.length aF, .slice aS u.body.length aH, .slice aR u.els.length aG] 147);have ab:=G (M.out.ex V);have bq:=G (aq wr 147 #[.int .i64 u.k, .string (ak u.nm), .slice aQ u.ex.length aF, .slice aS u.body.length aH, .slice aR u.els.length aG]);have bg:wr.heap.size≠b:=Qa
   have aK:=G (aC (af.keep (.of_ext V) (λ_ d _=>d)) (aC (ah.keep (.of_ext V) (λ_ d _=>d)) (ad.keep (.of_ext V) (λ_ d _=>d))));generalize ((ch xs (i+1)).take j).flatMap w=X at*;generalize bl:((ch xs (i+1)).take (j+1)).flatMap w=b6 at*;have bk:=congrArg List.length a8.out;simp only[ac,ag,ai,ao.out]at bk;generalize lb (i+1)=an at*;clear af ah ad bf aX bC V;go_wp2_with fail;refine aB 6 3 [(5,λx=>x= .string (ak an),λ_ _=>True)] mixed Qb ⟨λ_ _ _ _ _=>trivial,trivial⟩ ?_;repeat (refine sx ?_ (λar I=> ?_) ?_;rotate_left;(focus go_simp<;>with_reducible rfl);simp only[bA,bx,bw,br,bo])
   refine so (λap I H bm aA=> ?_) ?_
   ·clear H I;go_simp;refine(bv.out ap).mono ?_;rintro e bc ⟨rfl,aE⟩;exact aA _ _ aE rfl trivial
   rintro _ rfl;simp only[bA,bx,bw,br,bo];repeat (refine sx ?_ (λar I=> ?_) ?_;rotate_left;(focus go_simp<;>with_reducible rfl);simp only[bA,bx,bw,br,bo])
   intro bb z H;clear H;simp only[ae,aw];have K:=G (ab.out.ex z.un);have bp:=G (bq.out.ext z.un);have aM:=G (aC (aK.out.1.keep (.of_ext z.un) (λ_ d _=>d)) (aC (aK.out.2.1.keep (.of_ext z.un) (λ_ d _=>d)) (aK.out.2.2.keep (.of_ext z.un) (λ_ d _=>d))));clear z ab;go_wp2_with (first|(go_at_call 118;refine(cY b (l++[123,10]++X) an _ K.out.bu (by have aI:=ao.out;(try have am:=Z.out);(try have al:=Hzc2.out);(try simp only[ac,ag,ai]);omega)).mono ?_;rintro e u3 ⟨rfl,o,a⟩;have J:=G (K.out.wr o a);have bn:=G (a.keep _ _ _ bg Qd bp.out);have bd:=bn.out.cell;have aN:=G (aC (aM.out.1.keep (a.keepP R) (λ_ d _=>d)) (aC (aM.out.2.1.keep (a.keepP R) (λ_ d _=>d)) (aM.out.2.2.keep (a.keepP R) (λ_ d _=>d))));clear o a K)|(go_at_call 174;refine(a5.out P _ aQ aS aR _ aF _ aH _ aG b (i+1) (l++[123,10]++X++an) aN.out.1 aN.out.2.1 aN.out.2.2 R J.out.tab J.out.bu (by have aI:=ao.out;(try have am:=Z.out);(try have al:=Hzc2.out);(try simp only[ac,ag,ai]);omega)).mono ?_;rintro e u4 ⟨rfl,o,a⟩;have aO:=G (J.out.wr o a);clear o a J bd)|(go_at_call 118;refine(cY b (l++[123,10]++X++an++eH u (i+1)) [10] _ aO.out.bu (by have aI:=ao.out;(try have am:=Z.out);(try have al:=Hzc2.out);(try simp only[ac,ag,ai]);omega)).mono ?_;rintro e u5 ⟨rfl,o,a⟩;have bE:=G (aO.out.wr o a);clear o a aO));go_roundw
   case rel=>exact⟨j+1,by go_num,by omega,by have:=a8.out;rw[bl,this];simpa[aL]using bE⟩
   case measure=>simp[intOf];omega
  ·have bi: ¬(j:Int)<y:=Qa
   have bj:j=y:=Qa
   have a9:=G (show(ch xs (i+1)).take j=ch xs (i+1)from by rw[bj,ba.out,bO (by rw[l5];simp)]);rw[a9.out]at M;generalize (ch xs (i+1)).flatMap w=X at*;clear a9;generalize lb i=A at*;have be:=a6.out;obtain⟨c1,aJ⟩: ∃c,Hid (A++[125]=c):=⟨_,G rfl⟩
   have aU:c1.length=A.length+1:=by rw[<-aJ.out,ac];rfl
   have bI:ak A++(⟨#[125]⟩:ByteArray)=ak c1:=by rw[<-aJ.out];exact eq _ _
   have bL: ¬9223372036854775807<A.length+1:=Qa
   have bP: ¬9223372036854775807<1+A.length:=Qa
   have bK:(ak A).size=A.length:=a7 _;have bJ:((⟨#[125]⟩:ByteArray)).size=1:=rfl;have Z:=G aU;clear aU;clear be;go_wp2_with fail;refine aB 6 3 [(4,λx=>x= .string (ak A),λ_ _=>True)] mixed Qb ⟨λ_ _ _ _ _=>trivial,trivial⟩ ?_;repeat (refine sx ?_ (λar I=> ?_) ?_;rotate_left;(focus go_simp<;>with_reducible rfl);simp only[bA,bx,bw,br,bo])
   refine so (λap I H bm aA=> ?_) ?_
   ·clear H I;go_simp;refine(bz.out ap).mono ?_;rintro e bc ⟨rfl,aE⟩;exact aA _ _ aE rfl trivial
   rintro _ rfl;simp only[bA,bx,bw,br,bo];repeat (refine sx ?_ (λar I=> ?_) ?_;rotate_left;(focus go_simp<;>with_reducible rfl);simp only[bA,bx,bw,br,bo])
   intro bb z H;clear H;simp only[ae,aw];have K:=G (M.out.ex z.un);clear z M;go_wp2_with (go_at_call 118;refine(cY b (l++[123,10]++X) c1 _ K.out.bu (by have aI:=a6.out;(try have am:=Z.out);(try have al:=Hzc2.out);(try simp only[ac,ag,ai]);omega)).mono ?_;rintro e u3 ⟨rfl,o,a⟩;have J:=G (K.out.wr o a);clear o a K)
   go_end0
   exact⟨rfl,by rw[<-bB.out];have:=J.out.bu;rw[<-aJ.out]at this;simpa[aL]using this,J.out.fb⟩
theorem sF: ∀(m:Nat) (x:St),x.wt<=m->x.ok=true->Ha x/\(x.k=4->wY x)
 |0,x,hm,_=>absurd hm (by have:=x.wt_eq;omega)
 |m+1, .mk k nm es bd el,hm,h=>by
  have ai:=(St.mk k nm es bd el).wt_eq;simp only[St.nm,St.ex,St.body,St.els]at ai;rw[St.ok,an,an,an]at h;obtain⟨⟨d,ag⟩,af,ae⟩:=h;rw[sN]at ag;rw[kH]at af ae;have z: ∀a,a∈es->pu a:=λa H=>Dm (List.all_eq_true.1 ag a H);have ah: ∀a,a∈bd->Ha a:=λa H=>(sF m a (by have:=cI H;omega) (List.all_eq_true.1 af a H)).1;have aa: ∀a,a∈el->Ha a/\(a.k=4->wY a):=λa H=>sF m a (by have:=cI H;omega) (List.all_eq_true.1 ae a H);have ac:=tp bd ah;have ab:=tp el (λa H=>(aa a H).1);have ad:k=4->wY (.mk k nm es bd el):=by
   rintro rfl;rw[if_neg Qd,if_neg Qd,if_neg Qd,if_pos rfl]at d;simp only[an,beq_iff_eq]at d;obtain⟨a,rfl⟩:=List.length_eq_one_iff.1 d.2;have H:=z a Qe;intro P A X B C n c G V F R b i l w J y K I M o
   match el,y,aa,ab,o with
   | [],y,aa,ab,o=>exact JF nm bd a H ac P A X B C n c G V F R b i l w J y K I M _ rfl o
   | [s],y,aa,ab,o=>
    by_cases hs:s.k=4
    ·exact JE nm bd a H ac s hs ((aa s Qe).2 hs) P A X B C n c G V F R b i l w J y K I M _ rfl o
    ·exact JD nm bd a H ac s hs ab P A X B C n c G V F R b i l w J y K I M _ rfl o
   |s1::s2::r,y,aa,ab,o=>exact JC nm bd a H ac s1 s2 r ab P A X B C n c G V F R b i l w J y K I M _ rfl o
  refine⟨?_,ad⟩;intro P A X B C n c G V F R b i l w J y K I M o;simp only[St.k,St.nm,St.ex,St.body,St.els]at*;by_cases k1:k=1
  ·subst k1;rw[if_pos rfl]at d;simp only[an,decide_eq_true_eq]at d
   match es,z,d,w,o with
   | [],z,d,w,o=>exact Hk nm bd el P A X B C n c G V F R b i l w J y K I M _ rfl o
   | [a],z,d,w,o=>exact Hj nm bd el a (z a Qe) P A X B C n c G V F R b i l w J y K I M _ rfl o
   |a::Z::r,z,d,w,o=>exact absurd d.1.1.2 Qe
  rw[if_neg k1]at d;by_cases k2:k=2
  ·subst k2;rw[if_pos rfl]at d;simp only[an,beq_iff_eq]at d;obtain⟨a,rfl⟩:=List.length_eq_one_iff.1 d.1.1.2;exact I5 nm bd el a (z a Qe) P A X B C n c G V F R b i l w J y K I M _ rfl o
  rw[if_neg k2]at d;by_cases k3:k=3
  ·subst k3;rw[if_pos rfl]at d;simp only[an,beq_iff_eq]at d;obtain⟨a,Z,rfl⟩: ∃a Z,es=[a,Z]:=by
    match es,d with
    | [],d=>simp at d
    | [a],d=>simp at d
    | [a,Z],d=>exact⟨a,Z,rfl⟩
    |a::Z::u::r,d=>simp at d
   exact I4 nm bd el a Z (z a Qe) (z Z Qe) P A X B C n c G V F R b i l w J y K I M _ rfl o
  rw[if_neg k3]at d;by_cases k4:k=4
  ·subst k4;exact I3 nm bd el es (ad rfl) P A X B C n c G V F R b i l w J y K I M _ rfl o
  rw[if_neg k4]at d;by_cases k5:k=5
  ·subst k5;rw[if_pos rfl]at d;simp only[an,beq_iff_eq]at d;obtain⟨a,rfl⟩:=List.length_eq_one_iff.1 d.1.2;exact I2 nm bd el a (z a Qe) ac P A X B C n c G V F R b i l w J y K I M _ rfl o
  rw[if_neg k5]at d;by_cases k6:k=6
  ·subst k6;rw[if_pos rfl]at d;simp only[an,decide_eq_true_eq]at d
   match es,z,d,w,o with
   | [],z,d,w,o=>exact Hi nm bd el P A X B C n c G V F R b i l w J y K I M _ rfl o
   | [a],z,d,w,o=>exact Hh nm bd el a (z a Qe) P A X B C n c G V F R b i l w J y K I M _ rfl o
   |a::Z::r,z,d,w,o=>exact absurd d.1.1.2 Qe
  rw[if_neg k6]at d;by_cases k7:k=7
  ·subst k7;rw[if_pos rfl]at d;simp only[an,beq_iff_eq]at d;obtain⟨a,rfl⟩:=List.length_eq_one_iff.1 d.1.1.1.2;exact I1 nm bd el a (z a Qe) P A X B C n c G V F R b i l w J y K I M _ rfl o
  ·rw[if_neg k7]at d
   cases d
theorem Dn {x:St} (a:x.ok=true):Ha x:=(sF _ x (ah _) a).1
theorem Do {xs:List St} (a:rD xs=true):mr xs:=tp xs λd h=>Dn (by rw[kH]at a;exact List.all_eq_true.1 a d h)
theorem oB (a:List UInt8) (l:List (List UInt8)):Lib.join l a=eN a l:=by
 cases l with
 |nil=>rfl
 |cons x r=>rw[Lib.join_cons];simp[Lib.joinTail,eN,List.flatMap_def]
theorem yP (h:Option Addr) (n c:Nat) (a:List (List UInt8)) (P:Nat->Prop) (d:World) (z:qR d P (.slice h n c) a) (M:(eN [44,32] a).length<=1000000000):
  Calls prog 120 #[.slice h n c, .string ⟨#[44,32]⟩] d λe w'=>e= .returned (.string (ak (eN [44,32] a)))/\au d w':=by
 obtain⟨R,c',A,J⟩:=z;injection A with I F H;subst I F H;rcases J with rfl|⟨h1,h2,b,o,rfl,hP,hb,hcell⟩
 ·refine(Tryz.strings_Join_none h c ⟨#[44,32]⟩ d).mono ?_;rintro e w' ⟨rfl,rfl⟩;exact⟨rfl,aG _⟩
 ·have w:(a.map ak).map (·.data.toList)=a:=by
   rw[List.map_map];have:((λx:ByteArray=>x.data.toList) ∘ ak)=id:=funext λl=>jq l;rw[this,List.map_id]
  unfold maxLen at h2
  have:=Tryz.strings_Join b o c (a.map ak) ⟨#[44,32]⟩ d (λj x u=>by
    rw[dw]at u;obtain⟨K,y,rfl⟩:=Option.map_eq_some_iff.1 u;obtain⟨G,rfl⟩:=List.getElem?_eq_some_iff.1 y;exact hcell j G) hb (by
    rw[iR]
    cases a with
    |nil=>simp
    |cons x r=>
     have:=Lib.join_length x r [44,32];rw[oB]at this;simp only[ag,ai]at this⊢
     omega) (by simp;exact h1) (by rw[w,show((⟨#[44,32]⟩:ByteArray).data.toList)=[44,32]from rfl,oB];omega)
  rw[w,iR,show((⟨#[44,32]⟩:ByteArray).data.toList)=[44,32]from rfl,oB]at this;exact this
structure PQ (b px:Nat) (w0:World) (P:Nat->Prop) (vv fv:Value) (p:Pg) (l:List UInt8) (W:World):Prop where
 box:aM W px 31 #[vv,fv]
 bu:Bu W b l
 rv:pt W P vv p.vs
 rf:pE W P fv p.fs
 fb:FB b w0 W
 tab:ea W b
 ne:px≠b
 tt:31≠5
 hP: ∀k,P k->k<b
section
variable {b px:Nat} {w0 W W':World} {P:Nat->Prop} {vv fv:Value} {p:Pg} {l l':List UInt8}
theorem PQ.wr (a:PQ b px w0 P vv fv p l W) (o:Bu W' b l') (d:FB b W W'):PQ b px w0 P vv fv p l' W':=
 ⟨d.keep _ _ _ a.ne a.tt a.box,o,a.rv.keep (d.keepP a.hP) (λ_ h _=>h),a.rf.keep (d.keepP a.hP) (λ_ h _=>h),a.fb.trans d,a.tab.fb d,a.ne,a.tt,a.hP⟩
theorem PQ.ex (a:PQ b px w0 P vv fv p l W) (d:au W W'):PQ b px w0 P vv fv p l W':=a.wr (a.bu.ext d) (aV d (aH a.bu.lt))
end
theorem kW {a:Type} (d:a->List UInt8) (l:List a) (j:Nat):((l.take j).flatMap d).length<=(l.flatMap d).length:=by
 conv=>rhs;rw[<-db j l,ff,ac]
 omega
theorem jQ {d:Type} (a:d->List UInt8) (l:List d) (j:Nat) (h:j<l.length):(l.take (j+1)).flatMap a=(l.take j).flatMap a++a l[j]:=by
 rw[aT h,ff];simp
theorem vV (p:Pg) (bQ: ∀f,f∈p.fs->rD f.body=true) (a4: ∀v,v∈p.vs->v.sz<=9223372036854775807) (P:Nat->Prop) (a:World) (F B:Option Addr) (n c m I:Nat) (bt:pt a P (.slice F n c) p.vs) (X:pE a P (.slice B m I) p.fs) (aJ:ea a a.heap.size) (c0:(lF p).length<=1000000000):
  Calls prog 62 #[.agg #[.slice F n c, .slice B m I]] a λe w'=>e= .returned (.string (ak (lF p)))/\au a w':=by
 have a5:n=p.vs.length/\n<=maxLen:=by
  obtain⟨bL,c',ap,u⟩:=bt;injection ap with _ aT _;refine⟨aT,?_⟩;rcases u with u|⟨o,d,_⟩
  ·rw[aT,u];exact aD _
  ·omega
 have a6:m=p.fs.length/\m<=maxLen:=by
  obtain⟨bL,c',ap,u⟩:=X;injection ap with _ aT _;refine⟨aT,?_⟩;rcases u with u|⟨o,d,_⟩
  ·rw[aT,u];exact aD _
  ·omega
 obtain⟨a5,co⟩:=a5;obtain⟨a6,cn⟩:=a6;unfold maxLen at co cn;have b8:=G a5;have ca:=G a6;have cC:=G a4;have cG:=G bQ;have b7:=G (show p.vs.flatMap mI++p.fs.flatMap mJ=lF p from rfl);have cZ:(p.vs.flatMap mI).length+(p.fs.flatMap mJ).length=(lF p).length:=by rw[<-b7.out,ac]
 generalize lF p=S at*;have bZ:=aa a (.cells #[.slice F n c, .slice B m I] 31);have bc:=bZ.trans (aa (a.alloc (.cells #[.slice F n c, .slice B m I] 31)) (.cells #[.pointer none, .slice none 0 0] 217));have cj:(a.alloc (.cells #[.slice F n c, .slice B m I] 31)).heap.size=a.heap.size+1:=Array.size_push _;have bz:dE P a ((a.alloc (.cells #[.slice F n c, .slice B m I] 31)).alloc (.cells #[.pointer none, .slice none 0 0] 217)):= .of_ext bc;obtain⟨w0,bk⟩: ∃W,W=((a.alloc (.cells #[.slice F n c, .slice B m I] 31)).alloc (.cells #[.pointer none, .slice none 0 0] 217)):=⟨_,rfl⟩
 have cI:=G (show au a w0 from bk▸bc)
 have bI:=G (show PQ (a.heap.size+1) a.heap.size w0 (λk=>k<a.heap.size) (.slice F n c) (.slice B m I) p [] ((a.alloc (.cells #[.slice F n c, .slice B m I] 31)).alloc (.cells #[.pointer none, .slice none 0 0] 217))from
  ⟨(aq a _ _).ext (aa _ _),cj▸Bu.new _,bt.keep bz (λ_ _ u=>u),X.keep bz (λ_ _ u=>u),bk▸FB.refl _ _,⟨((aJ.fb (aV bc (ah _)))).1,Nat.lt_succ_of_lt aJ.2⟩,ge (dR _),by decide,λk u=>Nat.lt_succ_of_lt u⟩)
 clear bt X aJ bZ bc bz a5 a6 a4 bQ bk;generalize af:a.heap.size+1=b at*;have cB:=G (show a.heap.size<=b/\True from⟨by omega,trivial⟩);generalize cW:a.heap.size=px at*;have bq:=bI.out.box.cell;go_enter func62,ntmps62;go_wp2_with fail
 go_loopw [11] (λan wr=> ∃j:Nat,an= .int .i64 (j:Int)/\j<=n/\Hid (PQ b px w0 (λk=>k<px) (.slice F n c) (.slice B m I) p ((p.vs.take j).flatMap mI) wr)) (λan _=>n-(intOf an).toNat)
 case atStart=>exact⟨0,rfl,aD _,bI⟩
 case round=>
  clear bI bq;obtain⟨j,rfl,bU,y⟩:=hrel;by_cases hlt:j<n
  ·have a8:(j:Int)<n:=Qa
   have H:j<p.vs.length:=by have:=b8.out;omega
   obtain⟨bL,c',ap,ar⟩:=y.out.rv;injection ap with aW bn bp;rcases ar with ar|⟨o,d,b9,o9,hA2,hP9,hb9,hcl⟩
   ·rw[ar]at H;simp at H
   obtain⟨e0,cv⟩:=hcl j H;have bD:F=some ⟨b9,o9,none⟩:=aW.trans hA2;subst bD;clear hcl aW hA2 bn bp o d hP9;have cf:=cC.out _ (ay H);have aP:=G (jQ mI p.vs j H);have bV:=kW mI p.vs (j+1);have ab:=G (show mI p.vs[j]=[118,97,114,32]++p.vs[j].nm++(if 0<p.vs[j].sz then[91]++lR p.vs[j].sz.toNat++[93]else[])++[59,10]from rfl);generalize mI p.vs[j]=cw at*;generalize p.vs[j].nm=w at*;generalize p.vs[j].sz=aQ at*;generalize (p.vs.take j).flatMap mI=A at*;generalize bb:(p.vs.take (j+1)).flatMap mI=cy at*;have aK:=congrArg List.length aP.out;simp only[ac]at aK;have a4:=y.out.bu.lt;have av:=aa wr (.cells #[.string (ak w), .int .i64 aQ] 76);have M:=G (y.out.ex av);have aC:=G (aq wr 76 #[.string (ak w), .int .i64 aQ]);have ao:=aC.out.cell;have aG:wr.heap.size≠b:=Qa
   clear av;by_cases hz:0<aQ
   ·have R:=congrArg List.length ab.out;rw[if_pos hz]at ab R;have cH:=G (λa u=>uB aQ Qa cf a b u);generalize lR aQ.toNat=D at*;simp only[ac,ag,ai]at R;have K:=G (show A.length+(4+w.length+(1+D.length+1)+2)<=1000000000 from by omega);obtain⟨c1,J⟩: ∃c,Hid ([118,97,114,32]++w=c):=⟨_,G rfl⟩
    have ad:c1.length=4+w.length:=by rw[<-J.out,ac];(try rfl)
    have bO:(⟨#[118,97,114,32]⟩:ByteArray)++ak w=ak c1:=by rw[<-J.out];exact eq _ _
    have bS: ¬9223372036854775807<4+w.length:=Qa
    have bT: ¬9223372036854775807<w.length+4:=Qa
    have bP:((⟨#[118,97,114,32]⟩:ByteArray)).size=4:=rfl;have cm:(ak w).size=w.length:=a7 _;obtain⟨c2,aB⟩: ∃c,Hid ([91]++D=c):=⟨_,G rfl⟩
    have aS:c2.length=1+D.length:=by rw[<-aB.out,ac];(try rfl)
    have ci:(⟨#[91]⟩:ByteArray)++ak D=ak c2:=by rw[<-aB.out];exact eq _ _
    have cq: ¬9223372036854775807<1+D.length:=Qa
    have cs: ¬9223372036854775807<D.length+1:=Qa
    have cl:((⟨#[91]⟩:ByteArray)).size=1:=rfl;have cU:(ak D).size=D.length:=a7 _;obtain⟨z,aA⟩: ∃c,Hid (c2++[93]=c):=⟨_,G rfl⟩
    have aR:z.length=c2.length+1:=by rw[<-aA.out,ac];(try rfl)
    have cg:ak c2++(⟨#[93]⟩:ByteArray)=ak z:=by rw[<-aA.out];exact eq _ _
    have cp: ¬9223372036854775807<c2.length+1:=Qa
    have cr: ¬9223372036854775807<1+c2.length:=Qa
    have ck:(ak c2).size=c2.length:=a7 _;have cR:((⟨#[93]⟩:ByteArray)).size=1:=rfl;have V:=G ad;clear ad;have aO:=G aS;clear aS;have aN:=G aR;clear aR;clear R aK;go_wp2_with (first|(go_at_call 118;refine(cY b A c1 _ M.out.bu (by have al:=V.out;have aM:=K.out;omega)).mono ?_;rintro e u2 ⟨rfl,o,d⟩;have aF:=G (M.out.wr o d);have bH:=G (d.keep _ _ _ aG Qd aC.out);clear ao;have ao:=bH.out.cell;clear o d M)|(go_at_call 119;refine(cH.out _ aF.out.tab).mono ?_;rintro e u3 ⟨rfl,bd⟩;have am:=G (aF.out.ex bd);clear bd ao aF)|(go_at_call 118;refine(cY b (A++c1) z _ am.out.bu (by have al:=V.out;have aM:=aO.out;have bg:=aN.out;have aZ:=K.out;simp only[ac];omega)).mono ?_;rintro e u4 ⟨rfl,o,d⟩;have aE:=G (am.out.wr o d);clear o d am)|(go_at_call 118;refine(cY b (A++c1++z) [59,10] _ aE.out.bu (by have al:=V.out;have aM:=aO.out;have bg:=aN.out;have aZ:=K.out;simp only[ac,ag,ai];omega)).mono ?_;rintro e u5 ⟨rfl,o,d⟩;have a1:=G (aE.out.wr o d);clear o d aE));go_roundw
    case rel=>exact⟨j+1,by go_num,by omega,by have aX:=aP.out;have aY:=ab.out;rw[bb,aX,aY,J.out,aB.out,aA.out];simpa[aL]using a1⟩
    case measure=>simp[intOf];omega
   ·have R:=congrArg List.length ab.out;rw[if_neg hz]at ab R;simp only[ac,ag,ai]at R;have K:=G (show A.length+(4+w.length+2)<=1000000000 from by omega);obtain⟨c1,J⟩: ∃c,Hid ([118,97,114,32]++w=c):=⟨_,G rfl⟩
    have ad:c1.length=4+w.length:=by rw[<-J.out,ac];(try rfl)
    have bO:(⟨#[118,97,114,32]⟩:ByteArray)++ak w=ak c1:=by rw[<-J.out];exact eq _ _
    have bS: ¬9223372036854775807<4+w.length:=Qa
    have bT: ¬9223372036854775807<w.length+4:=Qa
    have bP:((⟨#[118,97,114,32]⟩:ByteArray)).size=4:=rfl;have cm:(ak w).size=w.length:=a7 _;have V:=G ad;clear ad;clear R aK;go_wp2_with (first|(go_at_call 118;refine(cY b A c1 _ M.out.bu (by have al:=V.out;have aM:=K.out;omega)).mono ?_;rintro e u2 ⟨rfl,o,d⟩;have aF:=G (M.out.wr o d);have bH:=G (d.keep _ _ _ aG Qd aC.out);clear ao;have ao:=bH.out.cell;clear o d M)|(go_at_call 118;refine(cY b (A++c1) [59,10] _ aF.out.bu (by have al:=V.out;have aZ:=K.out;simp only[ac,ag,ai];omega)).mono ?_;rintro e u5 ⟨rfl,o,d⟩;have a1:=G (aF.out.wr o d);clear o d aF));go_roundw
    case rel=>exact⟨j+1,by go_num,by omega,by have aX:=aP.out;have aY:=ab.out;rw[bb,aX,aY,J.out];simpa[aL]using a1⟩
    case measure=>simp[intOf];omega
  ·have a8: ¬(j:Int)<n:=Qa
   have a9:j=n:=Qa
   have bh:=G (show p.vs.take j=p.vs from by rw[a9,b8.out,bY]);rw[bh.out]at y;clear bh;have bq:=y.out.box.cell;go_wp2_with fail;clear hlt a8 a9 bU;generalize c4:p.vs.flatMap mI=b6 at*
   go_loopw [36] (λan wr=> ∃j:Nat,an= .int .i64 (j:Int)/\j<=m/\Hid (PQ b px w0 (λk=>k<px) (.slice F n c) (.slice B m I) p (b6++(p.fs.take j).flatMap mJ) wr)) (λan _=>m-(intOf an).toNat)
   case atStart=>exact⟨0,rfl,aD _,by simpa using y⟩
   case round=>
    clear y bq;rename_i bM;obtain⟨j,rfl,bU,y⟩:=hrel;by_cases hlt:j<m
    ·have a8:(j:Int)<m:=Qa
     have H:j<p.fs.length:=by have:=ca.out;omega
     obtain⟨bL,c',ap,ar⟩:=y.out.rf;injection ap with aW bn bp;rcases ar with ar|⟨o,d,b9,o9,hA2,hP9,hb9,pv,bv,hcl⟩
     ·rw[ar]at H;simp at H
     obtain⟨e0,cv,c6,bm,bl⟩:=hcl j H;have bD:B=some ⟨b9,o9,none⟩:=aW.trans hA2;subst bD;clear hcl aW hA2 bn bp o d hP9;have bR:=cG.out _ (ay H);have aP:=G (jQ mJ p.fs j H);have bV:=kW mJ p.fs (j+1);have ab:=G (show mJ p.fs[j]=[102,117,110,99,32]++p.fs[j].nm++[40]++eN [44,32] p.fs[j].ps++[41,32]++f_ 0 (ch p.fs[j].body 1)++[10]from rfl);generalize mJ p.fs[j]=cw at*;generalize p.fs[j].nm=fn at*;generalize p.fs[j].ps=aw at*;generalize p.fs[j].body=ax at*;generalize pv j=cN at*;generalize bv j=c7 at*
     have cK:=G (show ∀(P:Nat->Prop) (a:World) (B:Option Addr) (a2 bf b:Nat) (l:List UInt8),ed a P (.slice B a2 bf) ax->(∀k,P k->k<b)->ea a b->Bu a b l->l.length+(f_ 0 (ch ax 1)).length<=1000000000->
      Calls prog 121 #[.pointer (some ⟨b,0,none⟩), .slice B a2 bf, .int .i64 0] a (λe w'=>e= .returned (.tuple #[])/\Bu w' b (l++f_ 0 (ch ax 1))/\FB b a w')from λP a B a2 bf b l=>Do bR P a B a2 bf b 0 l)
     generalize c5:(p.fs.take j).flatMap mJ=cz at*;generalize bX:b6++cz=A at*;have bW:=congrArg List.length bX;generalize bb:(p.fs.take (j+1)).flatMap mJ=cy at*;have aK:=congrArg List.length aP.out;simp only[ac]at aK bW;obtain⟨bi,be,rfl,_⟩:=id bm;obtain⟨bK,bE,rfl,_⟩:=bl.form;have a4:=y.out.bu.lt;have av:=aa wr (.cells #[.string (ak fn), .slice bi aw.length be, .slice bK ax.length bE] 81);have M:=G (y.out.ex av);have aC:=G (aq wr 81 #[.string (ak fn), .slice bi aw.length be, .slice bK ax.length bE]);have cF:=G (bm.keep (.of_ext av) (λ_ af _=>af));have cE:=G (bl.keep (.of_ext av) (λ_ af _=>af));have aG:wr.heap.size≠b:=Qa
     have R:=congrArg List.length ab.out;have bJ:=G (show ∀(k:Nat),k<px->k<b from y.out.hP);generalize bC:eN [44,32] aw=Z at*;simp only[ac,ag,ai]at R;have K:=G (show A.length+(5+fn.length+1+Z.length+2+(f_ 0 (ch ax 1)).length+1)<=1000000000 from by omega);obtain⟨c1,J⟩: ∃c,Hid ([102,117,110,99,32]++fn=c):=⟨_,G rfl⟩
     have ad:c1.length=5+fn.length:=by rw[<-J.out,ac];(try rfl)
     have bO:(⟨#[102,117,110,99,32]⟩:ByteArray)++ak fn=ak c1:=by rw[<-J.out];exact eq _ _
     have bS: ¬9223372036854775807<5+fn.length:=Qa
     have bT: ¬9223372036854775807<fn.length+5:=Qa
     have bP:((⟨#[102,117,110,99,32]⟩:ByteArray)).size=5:=rfl;have cV:(ak fn).size=fn.length:=a7 _;obtain⟨c2,aB⟩: ∃c,Hid (c1++[40]=c):=⟨_,G rfl⟩
     have aS:c2.length=c1.length+1:=by rw[<-aB.out,ac];(try rfl)
     have ci:ak c1++(⟨#[40]⟩:ByteArray)=ak c2:=by rw[<-aB.out];exact eq _ _
     have cq: ¬9223372036854775807<c1.length+1:=Qa
     have cs: ¬9223372036854775807<1+c1.length:=Qa
     have cT:(ak c1).size=c1.length:=a7 _;have cl:((⟨#[40]⟩:ByteArray)).size=1:=rfl;obtain⟨z,aA⟩: ∃c,Hid (c2++Z=c):=⟨_,G rfl⟩
     have aR:z.length=c2.length+Z.length:=by rw[<-aA.out,ac];(try rfl)
     have cg:ak c2++ak Z=ak z:=by rw[<-aA.out];exact eq _ _
     have cp: ¬9223372036854775807<c2.length+Z.length:=Qa
     have cr: ¬9223372036854775807<Z.length+c2.length:=Qa
     have ck:(ak c2).size=c2.length:=a7 _;have cS:(ak Z).size=Z.length:=a7 _;obtain⟨az,bG⟩: ∃c,Hid (z++[41,32]=c):=⟨_,G rfl⟩
     have bN:az.length=z.length+2:=by rw[<-bG.out,ac];(try rfl)
     have cO:ak z++(⟨#[41,32]⟩:ByteArray)=ak az:=by rw[<-bG.out];exact eq _ _
     have cX: ¬9223372036854775807<z.length+2:=Qa
     have c3: ¬9223372036854775807<2+z.length:=Qa
     have cQ:(ak z).size=z.length:=a7 _;have cP:((⟨#[41,32]⟩:ByteArray)).size=2:=rfl;have V:=G ad;clear ad;have aO:=G aS;clear aS;have aN:=G aR;clear aR;have bF:=G bN;clear bN;have cb:=G (λW (u:qR W (λk=>k<px) (.slice bi aw.length be) aw)=>yP bi aw.length be aw (λk=>k<px) W u (by have al:=K.out;rw[bC];omega));rw[bC]at cb;clear R aK av bm bl bC bV bW bR;go_wp2_with fail;have ba:=aH M.out.bu.lt;refine ja b 11 8 [(7,λx=>x= .string (ak Z),λ_ _=>True),(10,λx=>x= .tuple #[.int .i64 az.length, .nilIface],λ_ bM=>Bu bM b (A++az))] 10 mixed Qb ba ⟨λ_ _ _ _ _=>trivial,λ_ _ _ u ce=>u.ext ce,trivial⟩ ⟨.inr λ_ _ _ _ _=>trivial, .inl rfl,trivial⟩ ?_;repeat (refine sx ?_ (λcd aj=> ?_) ?_;rotate_left;(focus have X:=nH (aj ba);have cu:=(X.keep _ _ _ aG Qd aC.out).cell;clear X aj;go_simp<;>with_reducible rfl);simp only[bA,bx,bw,br,bo])
     refine so (λbj aj aI cx bB=> ?_) ?_
     ·have ct:=cF.out.keep ((nH (aj ba)).keepP bJ.out) (λ_ af _=>af);clear aI aj;go_simp;refine(cb.out bj ct).mono ?_;rintro e cc ⟨rfl,bd⟩;exact bB _ _ bd rfl trivial
     rintro _ rfl;simp only[bA,bx,bw,br,bo];repeat (refine sx ?_ (λcd aj=> ?_) ?_;rotate_left;(focus have X:=nH (aj ba);have cu:=(X.keep _ _ _ aG Qd aC.out).cell;clear X aj;go_simp<;>with_reducible rfl);simp only[bA,bx,bw,br,bo])
     refine dD _ _ Qf rfl ⟨_,rfl⟩ rfl (λbj aJ aI cx bB=> ?_) ?_
     ·have cJ:=G (M.out.ex aJ.un);clear aI aJ;go_simp;refine(cY b A az bj cJ.out.bu (by have al:=V.out;have aM:=aO.out;have bg:=aN.out;have aZ:=bF.out;have b5:=K.out;omega)).mono ?_;rintro e cc ⟨rfl,o,d⟩;exact bB _ _ (λ_=>d) rfl o
     rintro _ rfl;simp only[bA,bx,bw,br,bo];intro cM a3 aI;have am:=G (M.out.wr (aI _ (.head _)) a3);have cA:=G (a3.keep _ _ _ aG Qd aC.out);have ao:=cA.out.cell;have cD:=G (cE.out.keep (a3.keepP bJ.out) (λ_ af _=>af));clear a3 aI M;simp only[ae,aU];go_wp2_with (first|(go_at_call 121;refine(cK.out (λk=>k<px) _ bK _ bE b (A++az) cD.out bJ.out am.out.tab am.out.bu (by have al:=V.out;have aM:=aO.out;have bg:=aN.out;have aZ:=bF.out;have b5:=K.out;simp only[ac];omega)).mono ?_;rintro e u4 ⟨rfl,o,d⟩;have aE:=G (am.out.wr o d);clear o d am ao)|(go_at_call 118;refine(cY b (A++az++f_ 0 (ch ax 1)) [10] _ aE.out.bu (by have al:=V.out;have aM:=aO.out;have bg:=aN.out;have aZ:=bF.out;have b5:=K.out;simp only[ac,ag,ai];omega)).mono ?_;rintro e u5 ⟨rfl,o,d⟩;have a1:=G (aE.out.wr o d);clear o d aE));go_roundw
     case rel=>exact⟨j+1,by go_num,by omega,by have aX:=aP.out;have aY:=ab.out;rw[bb,aX,aY,J.out,aB.out,aA.out,bG.out,<-aL,bX];simpa[aL]using a1⟩
     case measure=>simp[intOf];omega
    ·have a8: ¬(j:Int)<m:=Qa
     have a9:j=m:=Qa
     have bh:=G (show p.fs.take j=p.fs from by rw[a9,ca.out,bY]);rw[bh.out,b7.out]at y;go_wp2_with (go_at_call 122;refine(AJ b S _ y.out.bu Qa).mono ?_;rintro e u9 ⟨rfl,b4⟩;have cL:=G b4;clear b4);go_ret;exact⟨rfl,show Below a.heap.size a _ from Below.trans cI.out (Below.mono (Below.trans y.out.fb.below cL.out) (by have:=cB.out.1;omega))⟩
theorem vF (l:List UInt8) (d:l.length<=1073741824) (a:World):Calls prog 59 #[.string (ak l)] a λe w'=>e= .returned (.bool (!eB l))/\au a w':=by
 have o:=G (dJ l d);generalize eB l=r at*;go_enter func59,ntmps59;go_wp2_with (go_at_call 57;refine(o.out _).mono ?_;rintro e u ⟨rfl,rfl⟩);go_ret;exact⟨rfl,aG _⟩
def vA (v:Vr):Bool:=eB v.nm&&decide (0<=v.sz)&&decide (v.sz<=2000)
def rg (f:Fc):Bool:=eB f.nm&&decide (f.ps.length<=4)&&f.ps.all eB&&f.body.all (λs=>decide (s.dep<=20)&&s.ok)
def li (p:Pg):Bool:=p.vs.all vA&&p.fs.all rg&&decide (p.vs.length<=20)&&decide (p.fs.length<=20)&&decide ((lF p).length<=4000)
theorem um {f:Fc} (a:rg f=true):rD f.body=true:=by
 unfold rg at a;simp only[an,cC,decide_eq_true_eq]at a;rw[kH,cC];exact λs d=>(a.2 s d).2
def pI (i:Nat) (ts:List (List UInt8)):Nat:=(ts.map λt=>t.length+i).sum
theorem g_ (i:Nat) (t:List UInt8) (a:List (List UInt8)):pI i (t::a)=t.length+i+pI i a:=by simp[pI]
theorem lB {i j:Nat} (d:i<=j): ∀a,pI i a<=pI j a
 | []=>ah _
 |t::a=>by have:=lB d a;rw[g_,g_];omega
theorem vP (i:Nat): ∀a:List (List UInt8),(a.headD []).length<=pI i a
 | []=>by simp[pI]
 |t::a=>by rw[g_];simp;omega
theorem xm (i:Nat): ∀a:List (List UInt8),(a.headD []).length+(a.tail.headD []).length<=pI i a
 | []=>by simp[pI]
 | [t]=>by rw[g_];simp[pI]<;>omega
 |t::u::a=>by rw[g_,g_];simp;omega
theorem vY {k:Int} {op nm tx:List UInt8} {v:Int} {ps:List Int} {ss:List (List UInt8)} (d:k=1->v<=2147483647):
  (vZ k op nm tx v ps ss).length<=10+op.length+nm.length+2*tx.length+pI 2 ss:=by
 have F:=vP 2 ss;have A:=xm 2 ss;have a:=rK [44,32] ss;have z:=wa tx;have y:=pM (decide (ps.headD 0<7)) (ss.headD []);have w:=pM (decide (ps.headD 0<my op)) (ss.headD []);have u:=pM (decide (ps.tail.headD 0<=my op)) (ss.tail.headD []);have h:k=1->(lR v.toNat).length<=10:=λo=>uO (d o);simp only[ag,ai]at a;change _<=pI 2 ss at a;unfold vZ;split
 ·have:=h (by assumption);omega
 repeat' split
 all_goals (try simp only[ac,ag,ai])
 all_goals omega
mutual
theorem t7: ∀x:Ex,x.ok=true->(c_ x).length+2<=12*x.wt
 | .mk k op nm tx v a,h=>by
  rw[Ex.ok,an]at h;have ha:=p7 a h.2
  have o:=vY (k:=k) (op:=op) (nm:=nm) (tx:=tx) (v:=v) (ps:=a.map Ex.prec) (ss:=fM a) (λe=>by
   subst e;have d:=h.1;rw[if_pos rfl]at d;simp only[an,decide_eq_true_eq]at d
   exact d.1.1.2)
  rw[c_,Ex.wt];omega
theorem p7: ∀l:List Ex,zD l=true->pI 2 (fM l)<=12*gD l
 | [],_=>by simp[fM,pI]
 |x::r,h=>by
  rw[zD,an]at h;have:=t7 x h.1;have:=p7 r h.2;rw[fM,g_,gD];omega
end
theorem qG (i:Nat) (a:List (List UInt8)):(f_ i a).length=3+i+pI (i+2) a:=by
 have d: ∀a:List (List UInt8),(a.flatMap (λt=>lb (i+1)++t++[10])).length=pI (i+2) a:=by
  intro a
  induction a with
  |nil=>rfl
  |cons t r ih=>rw[bG,ac,ih,g_];simp[lb];omega
 unfold f_;rw[ac,ac,d];simp[lb];omega
theorem vX {i:Nat} {k:Int} {nm:List UInt8} {es bs ls l0:List (List UInt8)} {po:Bool} {E B L:Nat} (d:pI 0 es<=E) (h:pI (i+2) bs<=B)
  (a:pI (i+2) ls<=L) (A:pI 0 l0<=L):(lH i k nm es bs ls l0 po).length<=20+2*i+nm.length+E+B+L:=by
 have z:=vP 0 es;have y:=xm 0 es;have w:=vP 0 l0;have u:=qG i bs;have o:=qG i ls;unfold lH;repeat' split
 all_goals simp only[ac,ag,ai,Ae,II,G5,pX,Ad,pH]
 all_goals omega
theorem E7 (i:Nat) (a:List (List UInt8)):pI 0 a<=pI i a:=lB (aD _) a
mutual
theorem ym: ∀(x:St) (i:Nat),x.ok=true->i+x.dep<=21->(eH x i).length+i+2<=150*x.wt
 | .mk k nm e b l,i,h,hd=>by
  rw[St.ok]at h;simp only[an]at h;rw[St.dep]at hd;have G:=p7 e h.1.2;have d:=j9 b (i+1);have a:=j9 l (i+1);have o:=j9 l i;have F:=d h.2.1 Qa;have A:=a h.2.2 Qa;have H:=o h.2.2 Qa;have z:=lB (show i+2<=i+1+2 by omega) (ch b (i+1));have y:=lB (show i+2<=i+1+2 by omega) (ch l (i+1));have w:=E7 2 (fM e);have u:=E7 (i+2) (ch l i);have:=vX (i:=i) (k:=k) (nm:=nm) (es:=fM e) (bs:=ch b (i+1)) (ls:=ch l (i+1)) (l0:=ch l i) (po:=oM l) (E:=12*gD e) (B:=150*gd b) (L:=150*gd l)
   Qa Qa Qa Qa
  rw[eH,St.wt];omega
theorem j9: ∀(l:List St) (i:Nat),rD l=true->i+ig l<=21->pI (i+2) (ch l i)<=150*gd l
 | [],i,_,_=>by simp[ch,pI]
 |x::r,i,h,hd=>by
  rw[rD,an]at h;rw[ig]at hd;have:=ym x i h.1 Qa;have:=j9 r i h.2 Qa;rw[ch,g_,gd];omega
end
theorem lC {a:Type} (f g:a->Nat): ∀(l:List a),(∀x,x∈l->f x<=g x)->(l.map f).sum<=(l.map g).sum
 | [],_=>ah _
 |x::r,h=>by
  have:=lC f g r (λd o=>h d (iD _ o));have:=h x (gH ..);simp only[b7,fJ];omega
theorem jj {a:Type} (c:Nat): ∀(l:List a),(l.map λ_=>c).sum=c*l.length
 | []=>rfl
 |x::r=>by rw[b7,fJ,jj c r,ag,Nat.mul_succ];omega
theorem qp {l:List UInt8} (a:eB l=true):l.length<=14:=by
 unfold eB at a;simp only[an,decide_eq_true_eq]at a;exact a.1.1.2
theorem An {v:Vr} (a:vA v=true):(mI v).length<=40:=by
 unfold vA at a;simp only[an,decide_eq_true_eq]at a;have:=qp a.1.1;have:=uO (v:=v.sz) Qa;unfold mI;split<;>simp only[ac,ag,ai,Ae]<;>omega
theorem Dv {f:Fc} (a:rg f=true):ig f.body<=20:=by
 unfold rg at a;simp only[an,cC,decide_eq_true_eq]at a;have d:=a.2;clear a;generalize f.body=l at*
 induction l with
 |nil=>exact aD _
 |cons x r ih=>
  have:=ih λs h=>d s (iD _ h);have:=(d x (gH ..)).1;rw[ig];omega
theorem Aq {f:Fc} (a:rg f=true):(mJ f).length<=100+150*gd f.body:=by
 have y:=j9 f.body 1 (um a) (by have:=Dv a;omega);have u:=qG 0 (ch f.body 1);have w:=rK [44,32] f.ps;have o:=lB (show 0+2<=1+2 by omega) (ch f.body 1);unfold rg at a;simp only[an,cC,decide_eq_true_eq]at a;have z:=qp a.1.1.1;have h:=lC (λs:List UInt8=>s.length+[44,32].length) (λ_=>16) f.ps (λs d=>by have:=qp (a.1.2 s d);simp;omega);rw[jj]at h;unfold mJ;simp only[ac,ag,ai,Af];omega
theorem Ao {p:Pg} (d:p.vs.all vA=true) (h:p.fs.all rg=true) (u:p.vs.length<=20) (o:p.fs.length<=20):(lF p).length<=2800+150*(p.fs.map λf=>gd f.body).sum:=by
 have y:(p.vs.flatMap mI).length<=40*p.vs.length:=by
  rw[i6];have:=lC (λv=>(mI v).length) (λ_=>40) p.vs (λv a=>An (List.all_eq_true.1 d v a));rwa [jj]at this
 have w:(p.fs.flatMap mJ).length<=100*p.fs.length+150*(p.fs.map λf=>gd f.body).sum:=by
  rw[i6];have:=lC (λf=>(mJ f).length) (λf=>100+150*gd f.body) p.fs (λf a=>Aq (List.all_eq_true.1 h f a));have e: ∀l:List Fc,(l.map λf=>100+150*gd f.body).sum=100*l.length+150*(l.map λf=>gd f.body).sum:=by
   intro l
   induction l with
   |nil=>rfl
   |cons f r ih=>simp only[b7,fJ,ag,ih];omega
  rwa [e]at this
 unfold lF;rw[ac];omega
def dT:List co->Nat
 | []=>0
 |t::r=>2+t.t.length+dT r
theorem gg {l:List co} (a:(cV l).k≠0):dT l=2+(cV l).t.length+dT l.tail:=by
 cases l with
 |nil=>exact absurd rfl a
 |cons t r=>rfl
theorem wF {s:List UInt8} {l:List co} (a:dB s l=true):(cV l).k≠0:=by
 intro e;simp[dB,e]at a
theorem fg {s:List UInt8} {l r:List co} {a:Unit} (h:cF s l= .ok (a,r)):dT r+2<=dT l:=by
 obtain⟨d,rfl,_⟩:=eG h;have:=gg (wF d);omega
theorem nC {l r:List co} {nm:List UInt8} (d:jw l= .ok (nm,r)):nm.length+2+dT r=dT l:=by
 obtain⟨a,rfl,rfl,_⟩:=lJ d;have:=gg (l:=l) (by rw[a];decide);omega
theorem iJ {s:List UInt8} {l:List co} (a:dB s l=true):dT l.tail+2<=dT l:=by
 have:=gg (wF a);omega
theorem Bw: ∀(f:Nat),
  (∀n l x r,cv f n l= .ok (x,r)->x.wt+1+dT r<=dT l)/\(∀n A l x r,i7 f n A l= .ok (x,r)->x.wt+dT r<=A.wt+dT l)/\
  (∀l x r,dr f l= .ok (x,r)->x.wt+1+dT r<=dT l)/\(∀nm l x r,cX f nm l= .ok (x,r)->x.wt+dT r<=1+nm.length+dT l)/\
  (∀l x r,gq f l= .ok (x,r)->gD x+dT r<=dT l)/\(∀F l x r,ie f F l= .ok (x,r)->gD x+dT r<=gD F+dT l)
 |0=>by
  refine⟨?_,?_,?_,?_,?_,?_⟩;all_goals (intros;rename_i a;simp[cv,i7,dr,cX,gq,ie]at a)
 |f+1=>by
  obtain⟨z,I,H,M,R,J⟩:=Bw f;refine⟨?_,?_,?_,?_,?_,?_⟩
  ·intro n l x r a;rw[cv]at a;obtain⟨u,q,o,h⟩:=aS a;have:=H _ _ _ o;have:=I _ _ _ _ _ h;omega
  ·intro n A l x r a;rw[i7]at a;split at a
   ·rename_i d;obtain⟨u,q,o,h⟩:=aS a;have:=z _ _ _ _ o;have:=I _ _ _ _ _ h;have:=gg (l:=l) (by rw[d.1];decide);simp only[Ex.wt,gD,ai]at*;omega
   ·obtain⟨rfl,rfl⟩:=bN a;exact ah _
  ·intro l x r a;rw[dr]at a;split at a
   ·rename_i d;have:=gg (l:=l) (by rw[d];decide);obtain⟨rfl,rfl⟩:=bN a;simp only[Ex.wt,gD,ai];omega
   ·split at a
    ·rename_i d;have:=gg (l:=l) (by rw[d];decide);obtain⟨rfl,rfl⟩:=bN a;simp only[Ex.wt,gD,ai];omega
    ·split at a
     ·rename_i d;have:=gg (l:=l) (by rw[d];decide);have:=M _ _ _ _ a;omega
     ·split at a
      ·rename_i d;obtain⟨u,q,o,h⟩:=aS a;have:=H _ _ _ o;obtain⟨rfl,rfl⟩:=bN h;have V:(cV l).k≠0:=by
        rw[dn]at d;rcases d with d|d<;>exact wF d
       have:=gg V;simp only[Ex.wt,gD,ai]at*;omega
      ·obtain⟨u,q,o,h⟩:=aS a;obtain⟨K,G,y,w⟩:=aS h;obtain⟨ab,aa,Z,X⟩:=aS w;have:=fg o;have:=z _ _ _ _ y;have:=fg Z;obtain⟨rfl,rfl⟩:=bN X;omega
  ·intro nm l x r a;rw[cX]at a;split at a
   ·rename_i d;obtain⟨u,q,o,h⟩:=aS a;obtain⟨K,G,y,w⟩:=aS h;have:=iJ d;have:=z _ _ _ _ o;have:=fg y;obtain⟨rfl,rfl⟩:=bN w;simp only[Ex.wt,gD,ai];omega
   ·split at a
    ·rename_i d;obtain⟨u,q,o,h⟩:=aS a;have:=iJ d;have:=R _ _ _ o;obtain⟨rfl,rfl⟩:=bN h;simp only[Ex.wt,ai];omega
    ·obtain⟨rfl,rfl⟩:=bN a;simp only[Ex.wt,gD,ai];omega
  ·intro l x r a;rw[gq]at a;split at a
   ·rename_i d;have:=iJ d;obtain⟨rfl,rfl⟩:=bN a;simp only[gD];omega
   ·have:=J _ _ _ _ a;simp only[gD]at this;omega
  ·intro F l x r a;rw[ie]at a;obtain⟨u,q,o,h⟩:=aS a;have:=z _ _ _ _ o;split at h
   ·rename_i d;have:=iJ d;obtain⟨rfl,rfl⟩:=bN h;rw[r8];simp only[gD];omega
   ·obtain⟨K,G,y,w⟩:=aS h;have:=fg y;have:=J _ _ _ _ w;rw[r8]at this;simp only[gD]at this;omega
theorem Aj: ∀(f:Nat),
  (∀l x r,d9 f l= .ok (x,r)->gd x+dT r<=dT l)/\(∀ac l x r,fh f ac l= .ok (x,r)->gd x+dT r<=gd ac+dT l)/\
  (∀l x r,pN f l= .ok (x,r)->x.wt+dT r<=dT l)/\(∀l x r,d7 f l= .ok (x,r)->x.wt+dT r<=dT l)
 |0=>by
  refine⟨?_,?_,?_,?_⟩;all_goals (intros;rename_i a;simp[d9,fh,pN,d7]at a)
 |f+1=>by
  obtain⟨M,af,ae,am⟩:=Aj f;obtain⟨F,_,_,an,_,_⟩:=Bw f;refine⟨?_,?_,?_,?_⟩
  ·intro l x r a;rw[d9]at a;obtain⟨I,q,w,u⟩:=aS a;have:=fg w;have:=af _ _ _ _ u;simp only[gd]at this;omega
  ·intro ac l x r a;rw[fh]at a;split at a
   ·rename_i h;have:=iJ h;obtain⟨rfl,rfl⟩:=bN a;omega
   ·obtain⟨I,q,w,u⟩:=aS a;have:=am _ _ _ w;have:=af _ _ _ _ u;rw[xe]at this;simp only[gd]at this;omega
  ·intro l x r a;rw[pN]at a;obtain⟨I,q,w,u⟩:=aS a;obtain⟨ar,A,d,o⟩:=aS u;have:=F _ _ _ _ w;have:=M _ _ _ d;split at o
   ·rename_i h;have:=iJ h;split at o
    ·rename_i R;have:=iJ R;obtain⟨aq,al,z,y⟩:=aS o;have:=ae _ _ _ z;obtain⟨rfl,rfl⟩:=bN y;simp only[St.wt,gD,gd,ai];omega
    ·obtain⟨aq,al,z,y⟩:=aS o;have:=M _ _ _ z;obtain⟨rfl,rfl⟩:=bN y;simp only[St.wt,gD,ai];omega
   ·obtain⟨rfl,rfl⟩:=bN o;simp only[St.wt,gD,gd,ai];omega
  ·intro l x r a;rw[d7]at a;split at a
   ·rename_i h;have:=iJ h;have:=ae _ _ _ a;omega
   ·split at a
    ·rename_i h;have:=iJ h;obtain⟨I,q,w,u⟩:=aS a;obtain⟨ar,A,d,o⟩:=aS u;have:=F _ _ _ _ w;have:=M _ _ _ d;obtain⟨rfl,rfl⟩:=bN o;simp only[St.wt,gD,gd,ai];omega
    ·split at a
     ·rename_i h;have:=iJ h;obtain⟨nm,q,w,u⟩:=aS a;obtain⟨ab,A,d,o⟩:=aS u;obtain⟨I,ad,z,y⟩:=aS o;have:=nC w;have:=fg z;have ag:gD ab+dT A<=dT q:=by
       split at d
       ·rename_i R;have:=iJ R;obtain⟨J,K,H,G⟩:=aS d;have:=F _ _ _ _ H;obtain⟨rfl,rfl⟩:=bN G;simp only[gD];omega
       ·obtain⟨rfl,rfl⟩:=bN d;simp only[gD];omega
      obtain⟨rfl,rfl⟩:=bN y;simp only[St.wt,gd];omega
     ·split at a
      ·rename_i h;have:=iJ h;obtain⟨ab,A,d,o⟩:=aS a;obtain⟨I,ad,z,y⟩:=aS o;have:=fg z;have ag:gD ab+dT A<=dT l.tail:=by
        split at d
        ·obtain⟨rfl,rfl⟩:=bN d;simp only[gD];omega
        ·obtain⟨J,K,H,G⟩:=aS d;have:=F _ _ _ _ H;obtain⟨rfl,rfl⟩:=bN G;simp only[gD];omega
       obtain⟨rfl,rfl⟩:=bN y;simp only[St.wt,gd,ai];omega
      ·obtain⟨nm,q,w,u⟩:=aS a;obtain⟨s,A,d,o⟩:=aS u;obtain⟨I,ad,z,y⟩:=aS o;have:=nC w;have:=fg z;have ag:s.wt+dT A<=2+nm.length+dT q:=by
        split at d
        ·obtain⟨J,K,H,G⟩:=aS d;have:=an _ _ _ _ H;obtain⟨rfl,rfl⟩:=bN G;simp only[St.wt,gD,gd,ai];omega
        ·split at d
         ·rename_i h;have:=iJ h;obtain⟨J,K,H,G⟩:=aS d;obtain⟨_,ak,V,aa⟩:=aS G;obtain⟨_,au,ap,ao⟩:=aS aa;obtain⟨ah,aj,Z,X⟩:=aS ao;have:=F _ _ _ _ H;have:=fg V;have:=fg ap;have:=F _ _ _ _ Z;obtain⟨rfl,rfl⟩:=bN X;simp only[St.wt,gD,gd];omega
         ·obtain⟨_,ak,V,aa⟩:=aS d;obtain⟨ah,aj,Z,X⟩:=aS aa;have:=fg V;have:=F _ _ _ _ Z;obtain⟨rfl,rfl⟩:=bN X;simp only[St.wt,gD,gd];omega
       obtain⟨rfl,rfl⟩:=bN y;omega
def Fc.wt (f:Fc):Nat:=f.nm.length+(f.ps.map λs=>s.length+1).sum+gd f.body
def oq (p:Pg):Nat:=(p.vs.map λv=>v.nm.length+1).sum+(p.fs.map λf=>f.wt+1).sum
theorem Hf {l r:List co} {v:Vr} (d:kg l= .ok (v,r)):v.nm.length+1+dT r<=dT l/\0<=v.sz/\v.sz<=2000:=by
 unfold kg at d;obtain⟨nm,q,I,H⟩:=aS d;obtain⟨sz,h,a,G⟩:=aS H;obtain⟨R,K,F,A⟩:=aS G;have:=nC I;have:=fg F;have w:dT h<=dT q/\0<=sz/\sz<=2000:=by
  split at a
  ·rename_i u;have:=iJ u;split at a
   ·rename_i o;have:=gg (l:=q.tail) (by rw[o];decide);split at a
    ·cases a
    ·rename_i M;obtain⟨_,J,z,y⟩:=aS a;have:=fg z;obtain⟨rfl,rfl⟩:=bN y;omega
   ·cases a
  ·obtain⟨rfl,rfl⟩:=bN a;exact⟨ah _,by decide,by decide⟩
 obtain⟨rfl,rfl⟩:=bN A;refine⟨?_,w.2⟩;change nm.length+1+_<=_;omega
theorem uv: ∀(f:Nat) acc l x r,fT f acc l= .ok (x,r)->(x.map λs=>s.length+1).sum+dT r<=(acc.map λs:List UInt8=>s.length+1).sum+dT l
 |0,acc,l,x,r,h=>by cases h
 |f+1,acc,l,x,r,h=>by
  rw[fT]at h;obtain⟨A,q,w,a⟩:=aS h;have:=nC w;split at a
  ·rename_i d;have:=iJ d;obtain⟨rfl,rfl⟩:=bN a;simp;omega
  ·obtain⟨z,y,u,o⟩:=aS a;have:=fg u;have:=uv f _ _ _ _ o;simp at this;omega
theorem Dz {f:Nat} {l r:List co} {x:List (List UInt8)} (a:fY f l= .ok (x,r)):(x.map λs=>s.length+1).sum+dT r<=dT l:=by
 unfold fY at a;split at a
 ·rename_i d;have:=iJ d;obtain⟨rfl,rfl⟩:=bN a;simp;omega
 ·have:=uv _ _ _ _ _ a;simpa using this
theorem F7 {f:Nat} {l r:List co} {x:Fc} (a:kV f l= .ok (x,r)):x.wt+1+dT r<=dT l:=by
 unfold kV at a;obtain⟨nm,q,A,z⟩:=aS a;obtain⟨_,H,y,w⟩:=aS z;obtain⟨ps,G,u,o⟩:=aS w;obtain⟨b,F,h,d⟩:=aS o;have:=nC A;have:=fg y;have:=Dz u;have:=(Aj f).1 _ _ _ h;obtain⟨rfl,rfl⟩:=bN d;change nm.length+(ps.map λs=>s.length+1).sum+gd b+1+_<=_;omega
theorem wd: ∀(f:Nat) (p:Pg) (l:List co) (x:Pg) (r:List co),dN f p l= .ok (x,r)->oq x<=oq p+dT l/\((∀v,v∈p.vs->0<=v.sz/\v.sz<=2000)-> ∀v,v∈x.vs->0<=v.sz/\v.sz<=2000)
 |0,p,l,x,r,a=>by cases a
 |f+1,p,l,x,r,a=>by
  rw[dN]at a;split at a
  ·obtain⟨rfl,rfl⟩:=bN a;exact⟨by omega,λa=>a⟩
  ·split at a
   ·rename_i F;have:=iJ F;obtain⟨v,q,w,u⟩:=aS a;have o:=Hf w;have h:=wd f _ _ _ _ u;refine⟨?_,λA=>h.2 λz d=> ?_⟩
    ·have:=h.1;simp only[oq,fG,List.sum_append,b7,du,fJ,List.sum_nil]at this⊢;omega
    ·rcases List.mem_append.1 d with d|d
     ·exact A z d
     ·rw[cH]at d;subst d;exact o.2
   ·obtain⟨_,q,w,u⟩:=aS a;obtain⟨c,G,o,h⟩:=aS u;have:=fg w;have:=F7 o;have y:=wd f _ _ _ _ h;refine⟨?_,y.2⟩;have:=y.1;simp only[oq,fG,List.sum_append,b7,du,fJ,List.sum_nil]at this⊢;omega
theorem AQ (p:Pg):(p.fs.map λf=>gd f.body).sum<=oq p:=by
 have:=lC (λf:Fc=>gd f.body) (λf=>f.wt+1) p.fs (λf _=>by unfold Fc.wt;omega);unfold oq;omega
theorem sT {a:Type} (f:a->Nat): ∀(l:List a) (x:a),x∈l->f x<=(l.map f).sum
 |y::r,x,h=>by
  rw[b7,fJ];rcases List.mem_cons.1 h with rfl|h
  ·omega
  ·have:=sT f r x h;omega
end
section
open Go.RowKit
structure VQ (px:Nat) (w0:World) (P:Nat->Prop) (vv fv:Value) (p:Pg) (W:World):Prop where
 box:aM W px 31 #[vv,fv]
 rv:pt W P vv p.vs
 rf:pE W P fv p.fs
 ext:au w0 W
theorem VQ.ex {px:Nat} {w0 W W':World} {P:Nat->Prop} {vv fv:Value} {p:Pg} (d:VQ px w0 P vv fv p W) (a:au W W'):VQ px w0 P vv fv p W':=
 ⟨d.box.ext a,d.rv.keep (.of_ext a) (λ_ h _=>h),d.rf.keep (.of_ext a) (λ_ h _=>h),d.ext.trans a⟩
def sL (s:St):Bool:=decide (s.dep<=20)&&s.ok
theorem iY {a:Type} (f:a->Bool) (l:List a) (j:Nat) (h:j<l.length) (d:f l[j]=false):l.all f=false:=by
 cases hh:l.all f with
 |false=>rfl
 |true=>rw[cC]at hh;have:=hh _ (ay h);rw[d]at this;cases this
theorem jC {a:Type} (f:a->Bool) (l:List a) (j:Nat) (o:j<l.length) (h:(l.take j).all f=true) (d:f l[j]=true):(l.take (j+1)).all f=true:=by
 rw[aT o,iU,h];simp[d]
theorem x7 (p:Pg) (bB: ∀v,v∈p.vs->v.nm.length<=1073741824) (P:Nat->Prop) (A:World) (Z B:Option Addr) (n c m ac:Nat) (bD: ∀f,f∈p.fs->f.nm.length<=1073741824/\(∀o,o∈f.ps->o.length<=1073741824)/\ ∀s,s∈f.body->s.wt<=1073741824) (bC:p.vs.all vA=true->p.fs.all rg=true->p.vs.length<=20->p.fs.length<=20->(lF p).length<=1000000000) (bc:pt A P (.slice Z n c) p.vs) (bd:pE A P (.slice B m ac) p.fs) (bE:ea A A.heap.size):
  Calls prog 28 #[.agg #[.slice Z n c, .slice B m ac]] A λe w'=>e= .returned (.bool (li p))/\au A w':=by
 have aG:n=p.vs.length/\n<=maxLen:=by
  obtain⟨bu,c',ab,u⟩:=bc;injection ab with _ ar _;refine⟨ar,?_⟩;rcases u with u|⟨K,X,_⟩
  ·rw[ar,u];exact aD _
  ·omega
 have aH:m=p.fs.length/\m<=maxLen:=by
  obtain⟨bu,c',ab,u⟩:=bd;injection ab with _ ar _;refine⟨ar,?_⟩;rcases u with u|⟨K,X,_⟩
  ·rw[ar,u];exact aD _
  ·omega
 obtain⟨aG,cd⟩:=aG;obtain⟨aH,cc⟩:=aH;unfold maxLen at cd cc;have aS:=G aG;have aT:=G aH;have cq:=G bB;have cv:=G bD;have cs:=G bC;have bJ:=G bE;generalize bF:li p=R;have aQ:=G bF;have aK:=aa A (.cells #[.slice Z n c, .slice B m ac] 31);have br:=G (show VQ A.heap.size A P (.slice Z n c) (.slice B m ac) p (A.alloc (.cells #[.slice Z n c, .slice B m ac] 31))from⟨aq A _ _,bc.keep (.of_ext aK) (λ_ d _=>d),bd.keep (.of_ext aK) (λ_ d _=>d),aK⟩);have aJ:=br.out.box.cell;clear aG aH bB bD bC bF aK bc bd bE;go_enter func28,ntmps28;go_wp2_with fail
 go_loopw [12] (λag wr=> ∃j:Nat,ag= .int .i64 (j:Int)/\j<=n/\Hid ((p.vs.take j).all vA=true)/\Hid (VQ A.heap.size A P (.slice Z n c) (.slice B m ac) p wr)) (λag _=>n-(intOf ag).toNat)
 case atStart=>exact⟨0,rfl,aD _,G Qe,br⟩
 case round=>
  clear br aJ;obtain⟨j,rfl,a9,al,z⟩:=hrel;by_cases hlt:j<n
  ·have aI:(j:Int)<n:=Qa
   have I:j<p.vs.length:=by have:=aS.out;omega
   obtain⟨bu,c',ab,ai⟩:=z.out.rv;injection ab with aw a8 ba;rcases ai with ai|⟨K,X,b9,o9,hA2,hP9,hb9,hcl⟩
   ·rw[ai]at I;simp at I
   obtain⟨e0,cp⟩:=hcl j I;have be:Z=some ⟨b9,o9,none⟩:=aw.trans hA2;subst be;clear hcl aw hA2 a8 ba K X hP9;have ca:=cq.out _ (ay I);have ap:=G (λu:vA p.vs[j]=false=>show R=false by rw[<-aQ.out,li,iY vA p.vs j I u];rfl);have bp:=G (λu:vA p.vs[j]=true=>jC vA p.vs j I al.out u);have bS:=G (show vA p.vs[j]=(eB p.vs[j].nm&&decide (0<=p.vs[j].sz)&&decide (p.vs[j].sz<=2000))from rfl);generalize vA p.vs[j]=bx at*;generalize p.vs[j].nm=aB at*;generalize p.vs[j].sz=M at*;have ad:=G (dJ aB ca);generalize eB aB=ax at*;have ae:=G (z.out.ex (aa wr (.cells #[.string (ak aB), .int .i64 M] 76)));have aF:=(aq wr 76 #[.string (ak aB), .int .i64 M]).cell;by_cases hok:ax=true/\0<=M/\M<=2000
   ·obtain⟨rfl,bA,bz⟩:=hok;have bl:=G (bp.out (by rw[bS.out];simp[bA,bz]));have cG: ¬M<0:=Qa
    have cF: ¬2000<M:=Qa
    go_wp2_with (go_at_call 57;refine(ad.out _).mono ?_;rintro e af ⟨rfl,rfl⟩);go_roundw
    case rel=>exact⟨j+1,by go_num,by omega,bl,ae⟩
    case measure=>simp[intOf];omega
   ·have J:=G (ap.out (by
     rw[bS.out]
     cases ax with
     |false=>rfl
     |true=>
      by_cases h0:0<=M
      ·have K: ¬M<=2000:=λu=>hok ⟨rfl,h0,u⟩;simp[K]
      ·simp[h0]))
    have y:=G ae.out.ext
    cases ax with
    |false=>
     clear hok;go_wp2_with (go_at_call 57;refine(ad.out _).mono ?_;rintro e af ⟨rfl,rfl⟩);go_ret;exact⟨by rw[J.out];rfl,y.out⟩
    |true=>
     by_cases bA:M<0
     ·clear hok;go_wp2_with (go_at_call 57;refine(ad.out _).mono ?_;rintro e af ⟨rfl,rfl⟩);go_ret;exact⟨by rw[J.out];rfl,y.out⟩
     ·have bz:2000<M:=by
       by_cases u:2000<M
       ·exact u
       ·exact absurd ⟨rfl,by omega,by omega⟩ hok
      clear hok;go_wp2_with (go_at_call 57;refine(ad.out _).mono ?_;rintro e af ⟨rfl,rfl⟩);go_ret;exact⟨by rw[J.out];rfl,y.out⟩
  ·have aI: ¬(j:Int)<n:=Qa
   have av:j=n:=Qa
   have bn:=G (show p.vs.all vA=true by have:=al.out;rwa [av,aS.out,bY]at this);have aJ:=z.out.box.cell;go_wp2_with fail;clear hlt aI av a9 al
   go_loopw [34] (λag wr=> ∃j:Nat,ag= .int .i64 (j:Int)/\j<=m/\Hid ((p.fs.take j).all rg=true)/\Hid (VQ A.heap.size A P (.slice Z n c) (.slice B m ac) p wr)) (λag _=>m-(intOf ag).toNat)
   case atStart=>exact⟨0,rfl,aD _,G Qe,z⟩
   case round=>
    clear z aJ;obtain⟨j,rfl,a9,al,z⟩:=hrel;by_cases hlt:j<m
    ·have aI:(j:Int)<m:=Qa
     have I:j<p.fs.length:=by have:=aT.out;omega
     obtain⟨bu,c',ab,ai⟩:=z.out.rf;injection ab with aw a8 ba;rcases ai with ai|⟨K,X,b9,o9,hA2,hP9,hb9,pv,bv,hcl⟩
     ·rw[ai]at I;simp at I
     obtain⟨e0,cp,cO,a3,a2⟩:=hcl j I;have be:B=some ⟨b9,o9,none⟩:=aw.trans hA2;subst be;clear hcl aw hA2 a8 ba K X hP9;obtain⟨cj,ci,ch⟩:=cv.out _ (ay I);have ap:=G (λu:rg p.fs[j]=false=>show R=false by rw[<-aQ.out,li,iY rg p.fs j I u];simp);have bp:=G (λu:rg p.fs[j]=true=>jC rg p.fs j I al.out u);have aR:=G (show rg p.fs[j]=(eB p.fs[j].nm&&decide (p.fs[j].ps.length<=4)&&p.fs[j].ps.all eB&&p.fs[j].body.all sL)from rfl);generalize rg p.fs[j]=bx at*;generalize p.fs[j].nm=fn at*;generalize p.fs[j].ps=F at*;generalize p.fs[j].body=w at*;generalize pv j=cC at*;generalize bv j=cP at*;obtain⟨aY,aN,rfl,cm⟩:=id a3;obtain⟨bt,bh,rfl,bb⟩:=a2.form;have bb:w.length<=maxLen:=by
      rcases bb with u|⟨K,X,_⟩
      ·rw[u];exact aD _
      ·omega
     unfold maxLen at bb;have ad:=G (dJ fn cj);generalize eB fn=ax at*;have V:=aa wr (.cells #[.string (ak fn), .slice aY F.length aN, .slice bt w.length bh] 81);have ae:=G (z.out.ex V);have bk:=G (aq wr 81 #[.string (ak fn), .slice aY F.length aN, .slice bt w.length bh]);have aF:=bk.out.cell;have bP:=G (a3.keep (.of_ext V) (λ_ d _=>d));have bN:=G (a2.keep (.of_ext V) (λ_ d _=>d));have bU:=G (fun(W:World) (u:qR W P (.slice aY F.length aN) F) (bG:F.length<=1073741824)=>BV (λo=> !eB o) F P W aY F.length aN u bG (λo b8 w' _=>vF o (ci o b8) w'));clear V a3 a2 cm
     cases ax with
     |false=>
      have J:=G (ap.out (by rw[aR.out];simp));have y:=G ae.out.ext;go_wp2_with (go_at_call 57;refine(ad.out _).mono ?_;rintro e af ⟨rfl,rfl⟩);go_ret;exact⟨by rw[J.out];rfl,y.out⟩
     |true=>
      by_cases bG:4<F.length
      ·have J:=G (ap.out (by rw[aR.out];simp[show ¬F.length<=4 from by omega]));have y:=G ae.out.ext;have cn:(4:Int)<F.length:=Qa
       go_wp2_with (go_at_call 57;refine(ad.out _).mono ?_;rintro e af ⟨rfl,rfl⟩);go_ret;exact⟨by rw[J.out];rfl,y.out⟩
      ·have cn: ¬(4:Int)<F.length:=Qa
       have am:=G (bU.out _ bP.out Qa);have bZ:=G (show F.any (λo=> !eB o)= !F.all eB from by rw[List.not_all_eq_any_not]);rw[bZ.out]at am;clear bZ bU
       cases hal:F.all eB with
       |false=>
        rw[hal]at am;have J:=G (ap.out (by rw[aR.out,hal];simp));clear hal;go_wp2_with (first|(go_at_call 57;refine(ad.out _).mono ?_;rintro e af ⟨rfl,rfl⟩)|(go_at_call 58;refine am.out.mono ?_;rintro e b6 ⟨rfl,a⟩;have y:=G (ae.out.ex a).ext;clear a));go_ret;exact⟨by rw[J.out];rfl,y.out⟩
       |true=>
        rw[hal]at am;have bK:=G (show bx=w.all sL from by rw[aR.out,hal];simp[show F.length<=4 from by omega]);clear hal;go_wp2_with (first|(go_at_call 57;refine(ad.out _).mono ?_;rintro e af ⟨rfl,rfl⟩)|(go_at_call 58;refine am.out.mono ?_;rintro e b6 ⟨rfl,a⟩;have bV:=G (ae.out.ex a);have bH:=G (bk.out.ext a);clear aF;have aF:=bH.out.cell;have bM:=G (bN.out.keep (.of_ext a) (λ_ d _=>d));clear a ae));clear aF
        go_loopw [56] (λaZ wr=> ∃k:Nat,aZ= .int .i64 (k:Int)/\k<=w.length/\Hid ((w.take k).all sL=true)/\Hid (VQ A.heap.size A P (.slice Z n c) (.slice (some ⟨b9,o9,none⟩) m ac) p wr)/\Hid (ed wr P (.slice bt w.length bh) w)) (λaZ _=>w.length-(intOf aZ).toNat)
        case atStart=>exact⟨0,rfl,aD _,G Qe,bV,bM⟩
        case round=>
         clear bV bM bH bk bN bP am z;obtain⟨k,rfl,cI,bX,bT,bO⟩:=hrel;by_cases hkl:k<w.length
         ·have cg:(k:Int)<w.length:=Qa
          obtain⟨bs,cE,cN,cM,cL,rfl,cJ,cK,cB,cA,cz,cy,cx,a5,a6,a4⟩:=bO.out.at_ k hkl;have a1:=ch _ (ay hkl);have bW:=G (λu:sL w[k]=false=>ap.out (by rw[bK.out,iY sL w k hkl u]));have cu:=G (λu:sL w[k]=true=>jC sL w k hkl bX.out u);have bo:=G (show sL w[k]=(decide (w[k].dep<=20)&&w[k].ok)from rfl);generalize sL w[k]=cD at*;generalize w[k]=o at*;obtain⟨aU,aL,rfl,_⟩:=a5.form;obtain⟨aX,aO,rfl,_⟩:=a6.form;obtain⟨aW,aM,rfl,_⟩:=a4.form;have V:=aa wr (.cells #[.int .i64 o.k, .string (ak o.nm), .slice aU o.ex.length aL, .slice aX o.body.length aO, .slice aW o.els.length aM] 147);have ao:=G (bT.out.ex V);have bR:=G (bO.out.keep (.of_ext V) (λ_ d _=>d) (Q:=P));have bj:=G (aq wr 147 #[.int .i64 o.k, .string (ak o.nm), .slice aU o.ex.length aL, .slice aX o.body.length aO, .slice aW o.els.length aM]);have aE:=bj.out.cell;have H:=G (aC (a5.keep (.of_ext V) (λ_ d _=>d) (Q:=P)) (aC (a6.keep (.of_ext V) (λ_ d _=>d) (Q:=P)) (a4.keep (.of_ext V) (λ_ d _=>d) (Q:=P))));have bq:=G (λW K X bf=>uc o.wt o (ah _) a1 P W aU aX aW o.ex.length aL o.body.length aO o.els.length aM K X bf);have bI:=G (λW K X bf=>pY o.wt o (ah _) a1 P W aU aX aW o.ex.length aL o.body.length aO o.els.length aM K X bf);clear a5 a6 a4 V a1;generalize o.dep=bg at*;generalize o.ok=b7 at*;by_cases hd:bg<=20
          ·have cl: ¬(20:Int)<bg:=Qa
           cases b7 with
           |true=>
            have cr:=G (cu.out (by rw[bo.out];simp[hd]));go_wp2_with (first|(go_at_call 60;refine(bq.out _ H.out.1 H.out.2.1 H.out.2.2).mono ?_;rintro e bw ⟨rfl,a⟩;have az:=G (ao.out.ex a);have bQ:=G (bR.out.keep (.of_ext a) (λ_ d _=>d) (Q:=P));have bi:=G (bj.out.ext a);clear aE;have aE:=bi.out.cell;have aj:=G (aC (H.out.1.keep (.of_ext a) (λ_ d _=>d) (Q:=P)) (aC (H.out.2.1.keep (.of_ext a) (λ_ d _=>d) (Q:=P)) (H.out.2.2.keep (.of_ext a) (λ_ d _=>d) (Q:=P))));clear a ao)|(go_at_call 61;refine(bI.out _ aj.out.1 aj.out.2.1 aj.out.2.2).mono ?_;rintro e b5 ⟨rfl,a⟩;have cw:=G (az.out.ex a);have ct:=G (bQ.out.keep (.of_ext a) (λ_ d _=>d) (Q:=P));clear a az));go_roundw
            case rel=>exact⟨k+1,by go_num,by omega,cr,cw,ct⟩
            case measure=>simp[intOf];omega
           |false=>
            have J:=G (bW.out (by rw[bo.out];simp));go_wp2_with (first|(go_at_call 60;refine(bq.out _ H.out.1 H.out.2.1 H.out.2.2).mono ?_;rintro e bw ⟨rfl,a⟩;have az:=G (ao.out.ex a);have bQ:=G (bR.out.keep (.of_ext a) (λ_ d _=>d) (Q:=P));have bi:=G (bj.out.ext a);clear aE;have aE:=bi.out.cell;have aj:=G (aC (H.out.1.keep (.of_ext a) (λ_ d _=>d) (Q:=P)) (aC (H.out.2.1.keep (.of_ext a) (λ_ d _=>d) (Q:=P)) (H.out.2.2.keep (.of_ext a) (λ_ d _=>d) (Q:=P))));clear a ao)|(go_at_call 61;refine(bI.out _ aj.out.1 aj.out.2.1 aj.out.2.2).mono ?_;rintro e b5 ⟨rfl,a⟩;have y:=G (az.out.ex a).ext;clear a az));go_ret;exact⟨by rw[J.out];rfl,y.out⟩
          ·have cl:(20:Int)<bg:=Qa
           have J:=G (bW.out (by rw[bo.out];simp[hd]));go_wp2_with (go_at_call 60;refine(bq.out _ H.out.1 H.out.2.1 H.out.2.2).mono ?_;rintro e bw ⟨rfl,a⟩;have y:=G (ao.out.ex a).ext;clear a ao);go_ret;exact⟨by rw[J.out];rfl,y.out⟩
         ·have cg: ¬(k:Int)<w.length:=Qa
          have cf:k=w.length:=Qa
          have bl:=G (bp.out (by have:=bX.out;rw[cf,bY]at this;rw[bK.out];exact this));go_wp2_with fail;go_roundw
          case rel=>exact⟨j+1,by go_num,by omega,bl,bT⟩
          case measure=>simp[intOf];omega
    ·have aI: ¬(j:Int)<m:=Qa
     have av:j=m:=Qa
     have bm:=G (show p.fs.all rg=true by have:=al.out;rwa [av,aT.out,bY]at this);have aP:=G (show R=(decide (n<=20)&&decide (m<=20)&&decide ((lF p).length<=4000)) by rw[<-aQ.out,li,bn.out,bm.out,<-aS.out,<-aT.out];simp);have aJ:=z.out.box.cell;clear a9 av al aQ;by_cases h20:n<=20
     ·have co:(n:Int)<=20:=Qa
      by_cases hm20:m<=20
      ·have ce:(m:Int)<=20:=Qa
       have bL:=G (vV p (λf ck=>um (List.all_eq_true.1 bm.out f ck)) (λv ab=>by have:=List.all_eq_true.1 bn.out v ab;unfold vA at this;simp only[an,decide_eq_true_eq]at this;omega) P _ Z B n c m ac z.out.rv z.out.rf ⟨(bJ.out.fb (aV z.out.ext (ah _))).1,aA bJ.out.2 z.out.ext.size⟩ (cs.out bn.out bm.out (by have:=aS.out;omega) (by have:=aT.out;omega)));generalize lF p=S at*;have cH:(ak S).size=S.length:=a7 S;by_cases hs:S.length<=4000
       ·have cb:(S.length:Int)<=4000:=Qa
        go_wp2_with (go_at_call 62;refine bL.out.mono ?_;rintro e b4 ⟨rfl,a⟩;have y:=G (z.out.ex a).ext;clear a);go_ret;exact⟨by rw[aP.out];simp[h20,hm20,hs,dP],y.out⟩
       ·have cb: ¬(S.length:Int)<=4000:=Qa
        go_wp2_with (go_at_call 62;refine bL.out.mono ?_;rintro e b4 ⟨rfl,a⟩;have y:=G (z.out.ex a).ext;clear a);go_ret;exact⟨by rw[aP.out];simp[h20,hm20,hs,dP];(try omega),y.out⟩
      ·have ce: ¬(m:Int)<=20:=Qa
       have y:=G z.out.ext;go_wp2_with fail;go_ret;exact⟨by rw[aP.out];simp[h20,hm20,dP],y.out⟩
     ·have co: ¬(n:Int)<=20:=Qa
      have y:=G z.out.ext;go_wp2_with fail;go_ret;exact⟨by rw[aP.out];simp[h20,dP],y.out⟩
theorem rH: ∀(f:Nat) (m:List UInt8) (t:List UInt8) (n:Nat),pD f m=some (t,n)->t.length+1<=n
 |0,m,t,n,h=>by cases h
 |f+1,[],t,n,h=>by cases h
 |f+1,c::r,t,n,h=>by
  simp only[pD]at h;split at h
  ·cases h;simp
  ·split at h
   ·cases h
   ·obtain⟨⟨a,d⟩,u,o⟩:=Option.map_eq_some_iff.1 h
    cases o;have:=rH f _ a d u;show(_::a).length+1<=(cW (c::r)).2+d;rw[ag];omega
theorem ye {c:UInt8} {r:List UInt8} {k:Int} {t:List UInt8} {v:Int} {n:Nat} (a:lz (c::r)= .ok ((k,t,v),n)):t.length<=n:=by
 simp only[lz]at a;split at a
 ·unfold kS at a;split at a
  ·cases a;rw[bC];omega
  ·split at a
   ·cases a
   ·cases a;rw[bC];omega
 ·split at a
  ·unfold jv at a;split at a
   ·cases a
   ·split at a
    ·cases a
    ·cases a;simp
  ·split at a
   ·unfold jT at a;split at a
    ·cases a
    ·cases a;simp
   ·split at a
    ·unfold j8 at a;split at a
     ·cases a
     ·rename_i h o d;split at a
      ·cases a
      ·cases a;have:=rH _ _ _ _ d;omega
    ·unfold jO at a;split at a
     ·cases a;rw[bC];omega
     ·split at a
      ·cases a;rw[bC];omega
      ·cases a
theorem xl: ∀(f:Nat) (m:List UInt8) (d:Nat) (a:List co),iG f m d= .ok a->dT a<=3*m.length
 |0,m,d,a,h=>by cases h;simp[dT]
 |f+1,m,d,a,h=>by
  simp only[iG]at h;split at h
  ·cases h;simp[dT]
  ·rename_i c r A;split at h
   ·cases h
   ·rename_i k t v n o;have y:=pU o;have F:=ye o;split at h
    ·cases h
    ·rename_i u w
     cases h;have:=xl f _ _ u w;have z:(c::r).length<=m.length:=by rw[<-A,bH];omega
     rw[bH]at this;simp only[dT,ag]at this z y⊢;omega
theorem mw: ∀(f:Nat) (m:List UInt8) (d:Nat) (a:List co),iG f m d= .ok a->a.length<=m.length
 |0,m,d,a,h=>by cases h;simp
 |f+1,m,d,a,h=>by
  simp only[iG]at h;split at h
  ·cases h;simp
  ·rename_i c r A;split at h
   ·cases h
   ·rename_i k t v n w;have y:=pU w;split at h
    ·cases h
    ·rename_i o u
     cases h;have:=mw f _ _ o u;have z:(c::r).length<=m.length:=by rw[<-A,bH];omega
     rw[bH]at this;simp only[ag]at this z y⊢;omega
theorem CZ (l:List UInt8):(gY l).1.length<=4000/\dT (gY l).1<=12000:=by
 unfold gY;split
 ·simp[dT]
 ·split
  ·rename_i h _ a d;have:=mw _ _ _ _ d;have:=xl _ _ _ _ d;show a.length<=4000/\dT a<=12000;omega
  ·simp[dT]
def mN:Pg:=⟨[],[]⟩
def wg (n:Nat) (ts:List co):Pg×Int×Int:=match dN (4*ts.length+8) mN ts with
 | .ok (p,_)=>if li p then(p,0,0)else(mN,0,6)
 | .error (q,e)=>(mN,Is n q,e)
def mL (s:List UInt8):Pg×Int×Int:=if(gY s).2.2=0 then wg s.length (gY s).1 else(mN,(gY s).2.1,(gY s).2.2)
theorem AZ {p:Pg} (u:oq p<=6000000) (a:p.vs.all vA=true) (d:p.fs.all rg=true) (o:p.vs.length<=20) (h:p.fs.length<=20):(lF p).length<=1000000000:=by
 have:=Ao a d o h;have:=AQ p;omega
theorem Fa {p:Pg} {v:Vr} (a:v∈p.vs):v.nm.length<=oq p:=by
 have:=sT (λv:Vr=>v.nm.length+1) p.vs v a;unfold oq;omega
theorem uk {p:Pg} {f:Fc} (a:f∈p.fs):f.wt<=oq p:=by
 have:=sT (λf:Fc=>f.wt+1) p.fs f a;unfold oq;omega
theorem AP {f:Fc}:f.nm.length<=f.wt:=by unfold Fc.wt;omega
theorem Fb {f:Fc} {a:List UInt8} (d:a∈f.ps):a.length<=f.wt:=by
 have:=sT (λs:List UInt8=>s.length+1) f.ps a d;unfold Fc.wt;omega
theorem Hw {f:Fc} {s:St} (a:s∈f.body):s.wt<=f.wt:=by
 have:=cI a;unfold Fc.wt;omega
theorem xi (p:Pg) (w:oq p<=6000000) (P:Nat->Prop) (a:World) (o B:Option Addr) (n c m h:Nat) (A:pt a P (.slice o n c) p.vs) (G:pE a P (.slice B m h) p.fs) (F:ea a a.heap.size):
  Calls prog 28 #[.agg #[.slice o n c, .slice B m h]] a λe w'=>e= .returned (.bool (li p))/\au a w':=
 x7 p (λv y=>by have:=Fa y;omega) P a o B n c m h
  (λf d=>⟨by have:=uk d;have:=AP (f:=f);omega,λM u=>by have:=uk d;have:=Fb u;omega,λs z=>by have:=uk d;have:=Hw z;omega⟩)
  (λK J I H=>AZ w K J I H) A G F
end
section
def Iy (v:Int):Prop:= -2147483648<=v/\v<2147483648
instance (v:Int):Decidable (Iy v):=inferInstanceAs (Decidable (_/\ _))
theorem xg (v:Int):Iy (vE v):=by unfold vE Iy;simp[IntKind.wrap,IntKind.signed,IntKind.bits];omega
def pC (x:Ex):Pg:=⟨[],[⟨dv,[],[.mk 6 [] [x] [] []]⟩]⟩
theorem Dh {x:Ex} (d:x.ok=true) (z:x.dep<=19) (y:x.wt<=200):li (pC x)=true:=by
 have a:rD [.mk 6 [] [x] [] []]=true:=by simp[rD,St.ok,zD,d]
 have o:rg ⟨dv,[],[.mk 6 [] [x] [] []]⟩=true:=by
  have w:eB dv=true:=Qd
  have u:(St.mk 6 [] [x] [] []).dep<=20:=by simp[St.dep,gN,ig];omega
  unfold rg;rw[w];simp only[rD,iv]at a;simp[u,a]
 have h:(lF (pC x)).length<=4000:=by
  have:=t7 x d;have e:lF (pC x)=[102,117,110,99,32,109,97,105,110,40,41,32,123,10,9,114,101,116,117,114,110,32]++(c_ x++[59,10,125,10]):=by
   simp[lF,pC,mJ,ch,eH,lH,fM,f_,lb,eN,dv,Af,pH]
  rw[e];simp only[ac,ag,ai];omega
 unfold li;rw[show(pC x).vs.all vA=true from rfl,show(pC x).fs.all rg=true from by simp[pC,o],decide_eq_true h];rfl
end
section
open Go.RowKit
theorem au.drewN {d a:World} (h:au d a) (n:Nat):au d (a.drewN n):=h.trans ⟨rfl,rfl,rfl,ah _,λ_ _=>rfl⟩
def GW:Array Value:=(tw.flatMap λx=>[.string (ak x.1), .int .i64 x.2.1, .string (ak x.2.2)]).toArray
def zt (i:Nat):List UInt8×Int×List UInt8:=tw.getD i ([],0,[])
def BT (w:World):Prop:= ∃t fr,w.heap[1]? =some (.cells GW t fr)
theorem BT.ext {d w':World} (a:BT d) (h:au d w'):BT w':=let⟨t,fr,a⟩:=a;⟨t,fr,(h.obj (Array.getElem?_eq_some_iff.1 a).1).trans a⟩
theorem BT.load {a:World} (d:BT a):(loadVar 295 ⟨1,0,none⟩).run prog a= .ok (.agg GW) a:=
 let⟨t,fr,d⟩:=d;run_loadVar_row a _ t _ GW fr _ d underlying295 rfl Qb
theorem Cm: ∀(i:Nat) (d:i<19) (a:World),(Instr.index 295 (.agg GW) (.int .i64 (i:Int))).run prog a= .ok (.agg #[.string (ak (zt i).1), .int .i64 (zt i).2.1, .string (ak (zt i).2.2)]) a
 |0,_,a=>by kernel_rfl
 |1,_,a=>by kernel_rfl
 |2,_,a=>by kernel_rfl
 |3,_,a=>by kernel_rfl
 |4,_,a=>by kernel_rfl
 |5,_,a=>by kernel_rfl
 |6,_,a=>by kernel_rfl
 |7,_,a=>by kernel_rfl
 |8,_,a=>by kernel_rfl
 |9,_,a=>by kernel_rfl
 |10,_,a=>by kernel_rfl
 |11,_,a=>by kernel_rfl
 |12,_,a=>by kernel_rfl
 |13,_,a=>by kernel_rfl
 |14,_,a=>by kernel_rfl
 |15,_,a=>by kernel_rfl
 |16,_,a=>by kernel_rfl
 |17,_,a=>by kernel_rfl
 |18,_,a=>by kernel_rfl
 |n+19,h,_=>absurd h Qa
theorem ce {P:Program} {a:World} {ops:Array Oper} {rest:List Oper} {d:Oper} {h:Act} {Q:Exit->Act->World->Prop} (y:d.guard=none) (ty:TypeId) (x:Operand) (u:d.op= .load ty x) (g:Nat) (o:h.eval x= .pointer (some ⟨g,0,none⟩))
  (v:Value) (w:(loadVar ty ⟨g,0,none⟩).run P a= .ok v a) (A:wpList P ops Q rest (h.put d.dst v) a):wpList P ops Q (d::rest) h a:=by
 refine wpList_plain y λF z=> ?_;unfold Oper.wp;simp[execOp,u,Instr.loadAt,Instr.sureAddr,o,w,Result.andThen];exact z _ _ A
theorem zp (s:List UInt8):gh s=((tw.drop 0).find? (λx=>x.1==s)).map (·.2):=rfl
theorem EO {s:List UInt8} {i:Nat} (d:i<19):((tw.drop i).find? (λx=>x.1==s)).map (·.2)=if(zt i).1==s then some (zt i).2 else((tw.drop (i+1)).find? (λx=>x.1==s)).map (·.2):=by
 have a:i<tw.length:=d;have e:tw[i]=zt i:=by unfold zt;rw[bP,aI a];rfl
 rw[ap a,iT,e]
 cases (zt i).1==s<;>rfl
def GS:Bi->Ending
 |some (c,a)=> .returned (.tuple #[.int .i64 c, .string (ak a), .bool true])
 |none=> .returned (.tuple #[.int .i64 0, .string (ak []), .bool false])
theorem mh (s:List UInt8) (a:World) (A:BT a):Calls prog 175 #[.string (ak s)] a λe w'=>e=GS (gh s)/\au a w':=by
 have u:=A.load;have V:=G (zp s);have R:=G (aG a);clear A;generalize z:GW=C at u;have X:=G z;clear z;go_enter func175,ntmps175;go_wp2_with (refine ce rfl 295 (.global 1) rfl _ rfl _ u ?_);clear u
 go_loopw [8] (λo wr=> ∃(j:Nat),o= .int .i64 (j:Int)/\j<=19/\Hid (gh s=((tw.drop j).find? (λx=>x.1==s)).map (·.2))/\Hid (au a wr)) (λo _=>19-(intOf o).toNat)
 case atStart=>exact⟨0,rfl,by omega,V,R⟩
 case round=>
  obtain⟨j,rfl,Z,y,H⟩:=hrel;by_cases hlt:j<19
  ·have K:(j:Int)<19:=Qa
   have M:=Cm j hlt wr;rw[X.out]at M;have I:=G (EO (s:=s) hlt);generalize zt j=J at*;obtain⟨nm,c,w⟩:=J;have F:=G (H.out.alloc' (.cells #[.string (ak nm), .int .i64 c, .string (ak w)] 294))
   cases hs:(nm==s)with
   |true=>
    have d:=G (show gh s=some (c,w) by rw[y.out,I.out,hs];rfl);go_wp2_with (go_quiet (fail));exact bodyPost_ret (v:= .tuple #[.int .i64 c, .string (ak w), .bool true]) (by simp[results,results175,go_sem]) rfl ⟨by rw[d.out];rfl,F.out.drewN _⟩
   |false=>
    have d:=G (show gh s=((tw.drop (j+1)).find? (λx=>x.1==s)).map (·.2) by rw[y.out,I.out,hs];rfl);go_wp2_with fail;go_roundw
    case rel=>exact⟨j+1,by go_num,by omega,d,F⟩
    case measure=>simp[intOf];omega
  ·have K: ¬(j:Int)<19:=Qa
   obtain rfl:j=19:=Qa
   have d:=G (show gh s=none from y.out);go_wp2_with fail;exact bodyPost_ret (v:= .tuple #[.int .i64 0, .string (ak []), .bool false]) (by simp[results,results175,go_sem,ak]) rfl ⟨by rw[d.out];rfl,H.out⟩
end
end Go.Proofs.YtoedmpgicdekmaaGreatDoor
