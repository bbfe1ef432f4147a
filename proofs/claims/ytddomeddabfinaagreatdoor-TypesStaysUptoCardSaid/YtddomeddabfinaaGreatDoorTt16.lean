/- Parts of the proof. -/
import Derived.Test.YtddomeddabfinaaGreatDoorTt14
import Derived.Test.YtddomeddabfinaaGreatDoorTt15
import Derived.Test.YtddomeddabfinaaGreatDoorTt00
set_option maxRecDepth 100000
set_option maxHeartbeats 8000000
set_option linter.unusedVariables false
set_option linter.unusedSimpArgs false
set_option linter.unusedSectionVars false
namespace Go.Proofs.YtddomeddabfinaaGreatDoor
open IntKind(i64)
open Go.Proofs.Tryz
section
open Go.RowKit
theorem tj (i:Nat) (h:i<=1000000000) (a:World):Calls prog 135 #[.string ⟨#[9]⟩,.int i64 (i:Int)] a λe w'=>e=.returned (.string (J (jt i)))/\az a w':=by
 refine(Tryz.strings_Repeat ⟨#[9]⟩ i a Qa (by show 1*i<=_;omega)).mono ?_;rintro e w' ⟨rfl,h⟩;refine⟨?_,h⟩;have:=Lib.repeatL_replicate 9 1 i;rw[lI]at this;rw[show((⟨#[9]⟩:ByteArray).data.toList)=List.replicate 1 9 from rfl,this];rfl
structure PB (b:Nat) (w0:World) (P:Nat->Prop) (v:Value) (xs:List St) (l:List UInt8) (W:World):Prop where
 bu:Bu W b l
 rd:db W P v xs
 fb:FB b w0 W
 tab:dP W b
 hP: ∀k,P k->k<b
section
variable {b:Nat} {w0 W W':World} {P:Nat->Prop} {v:Value} {xs:List St} {l l':List UInt8}
theorem PB.wr (a:PB b w0 P v xs l W) (o:Bu W' b l') (h:FB b W W'):PB b w0 P v xs l' W':=⟨o,a.rd.keep (h.keepP a.hP) (λ_ j _=>j),a.fb.trans h,a.tab.fb h,a.hP⟩
theorem PB.ex (a:PB b w0 P v xs l W) (h:az W W'):PB b w0 P v xs l W':=a.wr (a.bu.ext h) (be h (aM a.bu.lt))
end
theorem Hz (nm:List UInt8) (R:List St) (y:Ex) (aI:oP y) (aB:mH R) (P:Nat->Prop) (a:World) (aH B C:Option Addr) (n c A M au ae b i:Nat) (l:List UInt8) (aj:c7 a P (.slice aH n c) [y]) (aF:db a P (.slice B A M) R) (av:db a P (.slice C au ae) []) (o: ∀k,P k->k<b) (aC:dP a b) (I:Bu a b l) (S:List UInt8) (aD:dD (.mk 4 nm [y] R []) i=S) (aS:l.length+S.length<=1000000000):
  Calls prog 176 #[.pointer (some ⟨b,0,none⟩),.agg #[.int i64 4,.string (J nm),.slice aH n c,.slice B A M,.slice C au ae],.int i64 (i:Int)] a λe w'=>e=.returned (.tuple #[])/\Bu w' b (l++S)/\FB b a w':=by
 have aG:=O (show[105,102,32]++b_ y++[32]++fu i (bK R (i+1))++[]=S from by rw[<-aD];simp[dD,kU,bK,eX,fR,Ei,ju]);have aR:3+(b_ y).length+1+(fu i (bK R (i+1))).length+0=S.length:=by rw[<-aG.out];simp only[ac,ah,ai]
 clear aD;have az:=av.len;simp only[ah,ai]at az;obtain rfl:au=0:=az;have aA:=aj.len;simp only[ah,ai]at aA;obtain rfl:n=1:=aA;obtain⟨ax,w,a0,aJ,G,K,ar,ap,ao,an,al,ak,ag⟩:=aj.at_ 0 Qd;simp only[aK,aV,bp,bE,cL]at ar ap ao an al ak ag;obtain⟨aQ,aL,rfl,_⟩:=ag.form;have V:=O (aE ar (aE ap (aE ao (aE an (aE al ak)))));have aP:=O ag;clear ar ap ao an al ak ag;subst aJ;have j:=O (show PS b a.heap.size a P #[.int i64 4,.string (J nm),.slice (some ⟨ax,w,none⟩) 1 c,.slice B A M,.slice C 0 ae] (.slice (some ⟨ax,w,none⟩) 1 c) (.slice B A M) (.slice C 0 ae) (.mk 4 nm [y] R []) l _ from⟨aw a 72 #[.int i64 4,.string (J nm),.slice (some ⟨ax,w,none⟩) 1 c,.slice B A M,.slice C 0 ae],I.ext (Z a _),aj.keep (.of_ext (Z a _)) (λ_ z _=>z),aF.keep (.of_ext (Z a _)) (λ_ z _=>z),av.keep (.of_ext (Z a _)) (λ_ z _=>z),be (Z a _) (aM I.lt),aC.fb (be (Z a _) (aM I.lt)),bP I.lt,by decide,o⟩);have af:=j.out.box.cell;clear I aj aC aF av;unfold mH at aB;go_enter func176,ntmps176;have aZ:=(j.out.fb.keepP o).cell (w) K G|>.trans V.out.1;have aY:=(j.out.fb.keepP o).cell (w+1) K G|>.trans V.out.2.1;have aX:=(j.out.fb.keepP o).cell (w+2) K G|>.trans V.out.2.2.1;have aW:=(j.out.fb.keepP o).cell (w+3) K G|>.trans V.out.2.2.2.1;have aU:=(j.out.fb.keepP o).cell (w+4) K G|>.trans V.out.2.2.2.2.1;have aT:=(j.out.fb.keepP o).cell (w+5) K G|>.trans V.out.2.2.2.2.2;go_wp2_with (first|(go_at_call 175;refine(fD y aI [105,102,32] [32] P _ aQ _ aL b l (aP.out.keep (j.out.fb.keepP o) (λ_ z _=>z)) o j.out.tab j.out.bu (by(try have aO:=Hzc1.out);(try have aN:=Hzc2.out);simp only[ac,ah,ai];omega)).mono ?_;rintro e u1 ⟨rfl,ad,ab⟩;have X:=O (j.out.wr ad ab);clear ad ab j;clear af;have af:=X.out.box.cell)|(go_at_call 94;refine(aB P _ B A M b i (l++([105,102,32]++b_ y++[32])) X.out.rb o X.out.tab X.out.bu (by(try have aO:=Hzc1.out);(try have aN:=Hzc2.out);simp only[ac,ah,ai];omega)).mono ?_;rintro e u2 ⟨rfl,ad,ab⟩;have ay:=O (X.out.wr ad ab);clear ad ab X;clear af;have af:=ay.out.box.cell));first|go_end0|((try simp only[Exit.inBlock,Exit.then]);refine bodyPost_ret (results_none rfl _ _ _) rfl ?_)
 exact⟨rfl,by rw[<-aG.out];have:=ay.out.bu;simpa[aq]using this,ay.out.fb⟩
theorem Hy (nm:List UInt8) (ab:List St) (y:Ex) (ba:oP y) (aX:mH ab) (s:St) (aW:s.k=4) (aO:wc s) (P:Nat->Prop) (j:World) (a9 B C:Option Addr) (n c ad aj aN ao b i:Nat) (l:List UInt8) (ay:c7 j P (.slice a9 n c) [y]) (a1:db j P (.slice B ad aj) ab) (ax:db j P (.slice C aN ao) [s]) (a: ∀k,P k->k<b) (aY:dP j b) (an:Bu j b l) (S:List UInt8) (aZ:dD (.mk 4 nm [y] ab [s]) i=S) (bt:l.length+S.length<=1000000000):
  Calls prog 176 #[.pointer (some ⟨b,0,none⟩),.agg #[.int i64 4,.string (J nm),.slice a9 n c,.slice B ad aj,.slice C aN ao],.int i64 (i:Int)] j λe w'=>e=.returned (.tuple #[])/\Bu w' b (l++S)/\FB b j w':=by
 have a7:=O (show[105,102,32]++b_ y++[32]++fu i (bK ab (i+1))++([32,101,108,115,101,32]++dD s i)=S from by rw[<-aZ];simp[dD,kU,bK,eX,fR,Ei,ju,aW]);have br:3+(b_ y).length+1+(fu i (bK ab (i+1))).length+(6+(dD s i).length)=S.length:=by rw[<-a7.out];simp only[ac,ah,ai]
 clear aZ;have aT:=ax.len;simp only[ah,ai]at aT;obtain rfl:aN=1:=aT;obtain⟨bs,o,bq,bo,bn,bb,R,V,aL,aJ,aI,aH,aG,ar,au,ap⟩:=ax.at_ 0 Qd;simp only[aK,bp,bE]at aL aJ aI aH aG ar au ap;obtain⟨bj,bg,rfl,_⟩:=ar.form;obtain⟨bl,bh,rfl,_⟩:=au.form;obtain⟨bk,bf,rfl,_⟩:=ap.form;subst bb;have M:=O (aE aL (aE aJ (aE aI (aE aH aG))));have aS:=O (aE ar (aE au ap));clear aL aJ aI aH aG ar au ap;have aU:=ay.len;simp only[ah,ai]at aU;obtain rfl:n=1:=aU;obtain⟨aP,X,a0,bc,af,ag,aF,aD,aC,aB,aA,az,av⟩:=ay.at_ 0 Qd;simp only[aK,aV,bp,bE,cL]at aF aD aC aB aA az av;obtain⟨bm,bd,rfl,_⟩:=av.form;have ak:=O (aE aF (aE aD (aE aC (aE aB (aE aA az)))));have bi:=O av;clear aF aD aC aB aA az av;subst bc;have A:=O (show PS b j.heap.size j P #[.int i64 4,.string (J nm),.slice (some ⟨aP,X,none⟩) 1 c,.slice B ad aj,.slice (some ⟨bs,o,none⟩) 1 ao] (.slice (some ⟨aP,X,none⟩) 1 c) (.slice B ad aj) (.slice (some ⟨bs,o,none⟩) 1 ao) (.mk 4 nm [y] ab [s]) l _ from⟨aw j 72 #[.int i64 4,.string (J nm),.slice (some ⟨aP,X,none⟩) 1 c,.slice B ad aj,.slice (some ⟨bs,o,none⟩) 1 ao],an.ext (Z j _),ay.keep (.of_ext (Z j _)) (λ_ w _=>w),a1.keep (.of_ext (Z j _)) (λ_ w _=>w),ax.keep (.of_ext (Z j _)) (λ_ w _=>w),be (Z j _) (aM an.lt),aY.fb (be (Z j _) (aM an.lt)),bP an.lt,by decide,a⟩);have ae:=A.out.box.cell;clear an ay aY a1 ax;unfold mH at aX;unfold wc at aO;rw[aW]at M aO;go_enter func176,ntmps176;have bB:=(A.out.fb.keepP a).cell (X) ag af|>.trans ak.out.1;have bA:=(A.out.fb.keepP a).cell (X+1) ag af|>.trans ak.out.2.1;have bz:=(A.out.fb.keepP a).cell (X+2) ag af|>.trans ak.out.2.2.1;have bx:=(A.out.fb.keepP a).cell (X+3) ag af|>.trans ak.out.2.2.2.1;have bw:=(A.out.fb.keepP a).cell (X+4) ag af|>.trans ak.out.2.2.2.2.1;have bv:=(A.out.fb.keepP a).cell (X+5) ag af|>.trans ak.out.2.2.2.2.2;go_wp2_with (first|(go_at_call 175;refine(fD y ba [105,102,32] [32] P _ bm _ bd b l (bi.out.keep (A.out.fb.keepP a) (λ_ w _=>w)) a A.out.tab A.out.bu (by(try have aR:=Hzc1.out);(try have aQ:=Hzc2.out);simp only[ac,ah,ai];omega)).mono ?_;rintro e u1 ⟨rfl,K,G⟩;have al:=O (A.out.wr K G);clear K G A;clear ae;have ae:=al.out.box.cell)|(go_at_call 94;refine(aX P _ B ad aj b i (l++([105,102,32]++b_ y++[32])) al.out.rb a al.out.tab al.out.bu (by(try have aR:=Hzc1.out);(try have aQ:=Hzc2.out);simp only[ac,ah,ai];omega)).mono ?_;rintro e u2 ⟨rfl,K,G⟩;have I:=O (al.out.wr K G);clear K G al;clear ae;have ae:=I.out.box.cell;have a6:=(I.out.fb.keepP a).cell (o) V R|>.trans M.out.1;have a5:=(I.out.fb.keepP a).cell (o+1) V R|>.trans M.out.2.1;have a4:=(I.out.fb.keepP a).cell (o+2) V R|>.trans M.out.2.2.1;have a3:=(I.out.fb.keepP a).cell (o+3) V R|>.trans M.out.2.2.2.1;have a2:=(I.out.fb.keepP a).cell (o+4) V R|>.trans M.out.2.2.2.2)|(go_at_call 91;refine(cV b ((l++([105,102,32]++b_ y++[32]))++fu i (bK ab (i+1))) [32,101,108,115,101,32] _ I.out.bu (by(try have aR:=Hzc1.out);(try have aQ:=Hzc2.out);(try simp only[ac,ah,ai]);omega)).mono ?_;rintro e u3 ⟨rfl,K,G⟩;have z:=O (I.out.wr K G);clear K G I;clear ae;have ae:=z.out.box.cell;clear a6 a5 a4 a3 a2;have a6:=(z.out.fb.keepP a).cell (o) V R|>.trans M.out.1;have a5:=(z.out.fb.keepP a).cell (o+1) V R|>.trans M.out.2.1;have a4:=(z.out.fb.keepP a).cell (o+2) V R|>.trans M.out.2.2.1;have a3:=(z.out.fb.keepP a).cell (o+3) V R|>.trans M.out.2.2.2.1;have a2:=(z.out.fb.keepP a).cell (o+4) V R|>.trans M.out.2.2.2.2)|(go_at_call 176;refine(aO P _ bj bl bk _ bg _ bh _ bf b i (((l++([105,102,32]++b_ y++[32]))++fu i (bK ab (i+1)))++[32,101,108,115,101,32]) (aS.out.1.keep (z.out.fb.keepP a) (λ_ w _=>w)) (aS.out.2.1.keep (z.out.fb.keepP a) (λ_ w _=>w)) (aS.out.2.2.keep (z.out.fb.keepP a) (λ_ w _=>w)) a z.out.tab z.out.bu (by(try have aR:=Hzc1.out);(try have aQ:=Hzc2.out);(try simp only[ac,ah,ai]);omega)).mono ?_;rintro e u4 ⟨rfl,K,G⟩;have a8:=O (z.out.wr K G);clear K G z));first|go_end0|((try simp only[Exit.inBlock,Exit.then]);refine bodyPost_ret (results_none rfl _ _ _) rfl ?_)
 exact⟨rfl,by rw[<-a7.out];have:=a8.out.bu;simpa[aq]using this,a8.out.fb⟩
theorem Hx (nm:List UInt8) (M:List St) (y:Ex) (a4:oP y) (aW:mH M) (s:St) (aT:s.k≠4) (aU:mH [s]) (P:Nat->Prop) (a:World) (a3 B C:Option Addr) (n c X af aN ae b i:Nat) (l:List UInt8) (ay:c7 a P (.slice a3 n c) [y]) (aZ:db a P (.slice B X af) M) (ax:db a P (.slice C aN ae) [s]) (j: ∀k,P k->k<b) (aX:dP a b) (an:Bu a b l) (S:List UInt8) (aY:dD (.mk 4 nm [y] M [s]) i=S) (bg:l.length+S.length<=1000000000):
  Calls prog 176 #[.pointer (some ⟨b,0,none⟩),.agg #[.int i64 4,.string (J nm),.slice a3 n c,.slice B X af,.slice C aN ae],.int i64 (i:Int)] a λe w'=>e=.returned (.tuple #[])/\Bu w' b (l++S)/\FB b a w':=by
 have a1:=O (show[105,102,32]++b_ y++[32]++fu i (bK M (i+1))++([32,101,108,115,101,32]++fu i (bK [s] (i+1)))=S from by rw[<-aY];simp[dD,kU,bK,eX,fR,Ei,ju,aT]);have bf:3+(b_ y).length+1+(fu i (bK M (i+1))).length+(6+(fu i (bK [s] (i+1))).length)=S.length:=by rw[<-a1.out];simp only[ac,ah,ai]
 clear aY;have aR:=ax.len;simp only[ah,ai]at aR;obtain rfl:aN=1:=aR;obtain⟨bs,A,bc,bb,ba,a5,ak,al,aL,aJ,aI,aH,aG,ar,au,ap⟩:=ax.at_ 0 Qd;simp only[aK,bp,bE]at aL aJ aI aH aG ar au ap;obtain⟨bA,bw,rfl,_⟩:=ar.form;obtain⟨bC,bx,rfl,_⟩:=au.form;obtain⟨bB,bv,rfl,_⟩:=ap.form;subst a5;have ao:=O (aE aL (aE aJ (aE aI (aE aH aG))));have bz:=O (aE ar (aE au ap));clear aL aJ aI aH aG ar au ap;have aS:=ay.len;simp only[ah,ai]at aS;obtain rfl:n=1:=aS;obtain⟨aO,G,a0,a6,ab,ad,aF,aD,aC,aB,aA,az,av⟩:=ay.at_ 0 Qd;simp only[aK,aV,bp,bE,cL]at aF aD aC aB aA az av;obtain⟨a9,a7,rfl,_⟩:=av.form;have ag:=O (aE aF (aE aD (aE aC (aE aB (aE aA az)))));have a8:=O av;clear aF aD aC aB aA az av;subst a6;have o:=O (show PS b a.heap.size a P #[.int i64 4,.string (J nm),.slice (some ⟨aO,G,none⟩) 1 c,.slice B X af,.slice (some ⟨bs,A,none⟩) 1 ae] (.slice (some ⟨aO,G,none⟩) 1 c) (.slice B X af) (.slice (some ⟨bs,A,none⟩) 1 ae) (.mk 4 nm [y] M [s]) l _ from⟨aw a 72 #[.int i64 4,.string (J nm),.slice (some ⟨aO,G,none⟩) 1 c,.slice B X af,.slice (some ⟨bs,A,none⟩) 1 ae],an.ext (Z a _),ay.keep (.of_ext (Z a _)) (λ_ R _=>R),aZ.keep (.of_ext (Z a _)) (λ_ R _=>R),ax.keep (.of_ext (Z a _)) (λ_ R _=>R),be (Z a _) (aM an.lt),aX.fb (be (Z a _) (aM an.lt)),bP an.lt,by decide,j⟩);have I:=o.out.box.cell;clear an ay aX aZ ax;unfold mH at aW;unfold mH at aU;have bd:(s.k==4)=false:=by rw[Ql];exact aT
 go_enter func176,ntmps176;have bt:=(o.out.fb.keepP j).cell (G) ad ab|>.trans ag.out.1;have br:=(o.out.fb.keepP j).cell (G+1) ad ab|>.trans ag.out.2.1;have bq:=(o.out.fb.keepP j).cell (G+2) ad ab|>.trans ag.out.2.2.1;have bo:=(o.out.fb.keepP j).cell (G+3) ad ab|>.trans ag.out.2.2.2.1;have bn:=(o.out.fb.keepP j).cell (G+4) ad ab|>.trans ag.out.2.2.2.2.1;have bm:=(o.out.fb.keepP j).cell (G+5) ad ab|>.trans ag.out.2.2.2.2.2;go_wp2_with (first|(go_at_call 175;refine(fD y a4 [105,102,32] [32] P _ a9 _ a7 b l (a8.out.keep (o.out.fb.keepP j) (λ_ R _=>R)) j o.out.tab o.out.bu (by(try have aQ:=Hzc1.out);(try have aP:=Hzc2.out);simp only[ac,ah,ai];omega)).mono ?_;rintro e u1 ⟨rfl,z,w⟩;have aj:=O (o.out.wr z w);clear z w o;clear I;have I:=aj.out.box.cell)|(go_at_call 94;refine(aW P _ B X af b i (l++([105,102,32]++b_ y++[32])) aj.out.rb j aj.out.tab aj.out.bu (by(try have aQ:=Hzc1.out);(try have aP:=Hzc2.out);simp only[ac,ah,ai];omega)).mono ?_;rintro e u2 ⟨rfl,z,w⟩;have K:=O (aj.out.wr z w);clear z w aj;clear I;have I:=K.out.box.cell;have bl:=(K.out.fb.keepP j).cell (A) al ak|>.trans ao.out.1;have bk:=(K.out.fb.keepP j).cell (A+1) al ak|>.trans ao.out.2.1;have bj:=(K.out.fb.keepP j).cell (A+2) al ak|>.trans ao.out.2.2.1;have bi:=(K.out.fb.keepP j).cell (A+3) al ak|>.trans ao.out.2.2.2.1;have bh:=(K.out.fb.keepP j).cell (A+4) al ak|>.trans ao.out.2.2.2.2)|(go_at_call 91;refine(cV b ((l++([105,102,32]++b_ y++[32]))++fu i (bK M (i+1))) [32,101,108,115,101,32] _ K.out.bu (by(try have aQ:=Hzc1.out);(try have aP:=Hzc2.out);(try simp only[ac,ah,ai]);omega)).mono ?_;rintro e u3 ⟨rfl,z,w⟩;have V:=O (K.out.wr z w);clear z w K;clear I;have I:=V.out.box.cell)|(go_at_call 94;guard_hyp V;refine(aU P _ (some ⟨bs,A,none⟩) 1 ae b i (((l++([105,102,32]++b_ y++[32]))++fu i (bK M (i+1)))++[32,101,108,115,101,32]) V.out.rl j V.out.tab V.out.bu (by(try have aQ:=Hzc1.out);(try have aP:=Hzc2.out);(try simp only[ac,ah,ai]);omega)).mono ?_;rintro e u4 ⟨rfl,z,w⟩;have a2:=O (V.out.wr z w);clear z w V));first|go_end0|((try simp only[Exit.inBlock,Exit.then]);refine bodyPost_ret (results_none rfl _ _ _) rfl ?_)
 exact⟨rfl,by rw[<-a1.out];have:=a2.out.bu;simpa[aq]using this,a2.out.fb⟩
theorem Hw (nm:List UInt8) (K:List St) (y:Ex) (aR:oP y) (aI:mH K) (V R:St) (r:List St) (aH:mH (V::R::r)) (P:Nat->Prop) (a:World) (aQ B C:Option Addr) (n c X af G ae b i:Nat) (l:List UInt8) (ao:c7 a P (.slice aQ n c) [y]) (aN:db a P (.slice B X af) K) (aA:db a P (.slice C G ae) (V::R::r)) (o: ∀k,P k->k<b) (aJ:dP a b) (al:Bu a b l) (S:List UInt8) (aL:dD (.mk 4 nm [y] K (V::R::r)) i=S) (a2:l.length+S.length<=1000000000):
  Calls prog 176 #[.pointer (some ⟨b,0,none⟩),.agg #[.int i64 4,.string (J nm),.slice aQ n c,.slice B X af,.slice C G ae],.int i64 (i:Int)] a λe w'=>e=.returned (.tuple #[])/\Bu w' b (l++S)/\FB b a w':=by
 have aO:=O (show[105,102,32]++b_ y++[32]++fu i (bK K (i+1))++([32,101,108,115,101,32]++fu i (bK (V::R::r) (i+1)))=S from by rw[<-aL];simp[dD,kU,bK,eX,fR,Ei,ju]);have a1:3+(b_ y).length+1+(fu i (bK K (i+1))).length+(6+(fu i (bK (V::R::r) (i+1))).length)=S.length:=by rw[<-aO.out];simp only[ac,ah,ai]
 clear aL;have aF:=aA.len;simp only[ah,ai]at aF;have aZ:((G:Int)==1)=false:=by rw[Ql];omega
 have aY:0<G:=Qa
 have aX:(0:Int)<G:=Qa
 clear aF;have aG:=ao.len;simp only[ah,ai]at aG;obtain rfl:n=1:=aG;obtain⟨aB,A,a0,aS,ab,ad,az,ay,ax,av,au,ar,an⟩:=ao.at_ 0 Qd;simp only[aK,aV,bp,bE,cL]at az ay ax av au ar an;obtain⟨aW,aT,rfl,_⟩:=an.form;have ag:=O (aE az (aE ay (aE ax (aE av (aE au ar)))));have aU:=O an;clear az ay ax av au ar an;subst aS;have j:=O (show PS b a.heap.size a P #[.int i64 4,.string (J nm),.slice (some ⟨aB,A,none⟩) 1 c,.slice B X af,.slice C G ae] (.slice (some ⟨aB,A,none⟩) 1 c) (.slice B X af) (.slice C G ae) (.mk 4 nm [y] K (V::R::r)) l _ from⟨aw a 72 #[.int i64 4,.string (J nm),.slice (some ⟨aB,A,none⟩) 1 c,.slice B X af,.slice C G ae],al.ext (Z a _),ao.keep (.of_ext (Z a _)) (λ_ M _=>M),aN.keep (.of_ext (Z a _)) (λ_ M _=>M),aA.keep (.of_ext (Z a _)) (λ_ M _=>M),be (Z a _) (aM al.lt),aJ.fb (be (Z a _) (aM al.lt)),bP al.lt,by decide,o⟩);have I:=j.out.box.cell;clear al ao aJ aN aA;unfold mH at aI;unfold mH at aH;go_enter func176,ntmps176;have a8:=(j.out.fb.keepP o).cell (A) ad ab|>.trans ag.out.1;have a7:=(j.out.fb.keepP o).cell (A+1) ad ab|>.trans ag.out.2.1;have a6:=(j.out.fb.keepP o).cell (A+2) ad ab|>.trans ag.out.2.2.1;have a5:=(j.out.fb.keepP o).cell (A+3) ad ab|>.trans ag.out.2.2.2.1;have a4:=(j.out.fb.keepP o).cell (A+4) ad ab|>.trans ag.out.2.2.2.2.1;have a3:=(j.out.fb.keepP o).cell (A+5) ad ab|>.trans ag.out.2.2.2.2.2;go_wp2_with (first|(go_at_call 175;refine(fD y aR [105,102,32] [32] P _ aW _ aT b l (aU.out.keep (j.out.fb.keepP o) (λ_ M _=>M)) o j.out.tab j.out.bu (by(try have aD:=Hzc1.out);(try have aC:=Hzc2.out);simp only[ac,ah,ai];omega)).mono ?_;rintro e u1 ⟨rfl,z,w⟩;have ak:=O (j.out.wr z w);clear z w j;clear I;have I:=ak.out.box.cell)|(go_at_call 94;refine(aI P _ B X af b i (l++([105,102,32]++b_ y++[32])) ak.out.rb o ak.out.tab ak.out.bu (by(try have aD:=Hzc1.out);(try have aC:=Hzc2.out);simp only[ac,ah,ai];omega)).mono ?_;rintro e u2 ⟨rfl,z,w⟩;have ap:=O (ak.out.wr z w);clear z w ak;clear I;have I:=ap.out.box.cell)|(go_at_call 91;refine(cV b ((l++([105,102,32]++b_ y++[32]))++fu i (bK K (i+1))) [32,101,108,115,101,32] _ ap.out.bu (by(try have aD:=Hzc1.out);(try have aC:=Hzc2.out);(try simp only[ac,ah,ai]);omega)).mono ?_;rintro e u3 ⟨rfl,z,w⟩;have aj:=O (ap.out.wr z w);clear z w ap;clear I;have I:=aj.out.box.cell)|(go_at_call 94;refine(aH P _ C G ae b i (((l++([105,102,32]++b_ y++[32]))++fu i (bK K (i+1)))++[32,101,108,115,101,32]) aj.out.rl o aj.out.tab aj.out.bu (by(try have aD:=Hzc1.out);(try have aC:=Hzc2.out);(try simp only[ac,ah,ai]);omega)).mono ?_;rintro e u4 ⟨rfl,z,w⟩;have aP:=O (aj.out.wr z w);clear z w aj));first|go_end0|((try simp only[Exit.inBlock,Exit.then]);refine bodyPost_ret (results_none rfl _ _ _) rfl ?_)
 exact⟨rfl,by rw[<-aO.out];have:=aP.out.bu;simpa[aq]using this,aP.out.fb⟩
theorem sL (xs:List St) (a3: ∀y,y∈xs->FX y):mH xs:=by
 intro P K B z be b i l ao ab ba bd bU;have aF:=ao.len;have br:z<=maxLen:=by
  obtain⟨A',c',_,h|⟨w,j,_⟩⟩:=ao.form
  ·rw[aF,h];exact aI _
  ·omega
 unfold maxLen at br;have bE:=O a3;generalize bb:fu i (bK xs (i+1))=S at*;have aG:[123,10]++(bK xs (i+1)).flatMap (λt=>jt (i+1)++t++[10])++(jt i++[125])=S:=bb;clear bb;generalize bc:(λt:List UInt8=>jt (i+1)++t++[10])=F at*;have bJ:=O (show ∀t,F t=jt (i+1)++t++[10]from λt=>by rw[<-bc]);have bH:=O aG;have aD:(jt i).length=i:=by simp[jt]
 have a4:(jt (i+1)).length=i+1:=by simp[jt]
 have bT:2+((bK xs (i+1)).flatMap F).length+(i+1)=S.length:=by rw[<-aG];simp only[ac,ah,ai,aD]
 have bN:IntKind.i64.wrap ((i:Int)+1)=((i+1:Nat):Int):=Qf
 have bj:=O aF;have bg:=O aD;have ax:=O a4;clear aG bc a3 aF aD a4;have aU:=O (show PB b K P (.slice B z be) xs l K from⟨bd,ao,FB.refl _ _,ba,ab⟩);have bG:=O (λK=>tj i Qa K);have bF:=O (λK=>tj (i+1) Qa K);clear bd ao ba;go_enter func94,ntmps94;go_wp2_with (go_at_call 91;refine(cV b l [123,10] _ aU.out.bu (by(try have ar:=ag.out);(try have ap:=Hzc2.out);(try simp only[ac,ah,ai]);omega)).mono ?_;rintro e u1 ⟨rfl,w,j⟩;have aj:=O (aU.out.wr w j);clear w j aU)
 go_loopw [14] (λaC wr=> ∃a:Nat,aC=.int i64 (a:Int)/\a<=z/\Hid (PB b K P (.slice B z be) xs (l++[123,10]++((bK xs (i+1)).take a).flatMap F) wr)) (λaC _=>z-(intOf aC).toNat)
 case atStart=>exact⟨0,rfl,aI _,by simpa using aj⟩
 case round=>
  clear aj;obtain⟨a,rfl,bW,I⟩:=hrel;by_cases hlt:a<z
  ·have bt:(a:Int)<z:=Qa
   have a9:a<xs.length:=by have:=bj.out;omega
   have bp:(bK xs (i+1)).length=xs.length:=by rw[mq];simp
   have a5:(bK xs (i+1))[a]' Qa=dD xs[a] (i+1):=by simp[mq]
   have bh:=O (show((bK xs (i+1)).take (a+1)).flatMap F=((bK xs (i+1)).take a).flatMap F++(jt (i+1)++dD xs[a] (i+1)++[10])from by rw[aX Qa,gD,a5,<-bJ.out];simp);have bY:(((bK xs (i+1)).take (a+1)).flatMap F).length<=((bK xs (i+1)).flatMap F).length:=by
    conv=>rhs;rw[<-dm (a+1) (bK xs (i+1)),gD,ac]
    omega
   obtain⟨b7,bM,b1,ev,b0,rfl,bX,bZ,b6,b5,b4,b3,b2,al,an,ak⟩:=I.out.rd.at_ a a9;have bf:=O (bE.out _ (ay a9));generalize xs[a]=y at*;unfold FX at bf;obtain⟨aV,aK,rfl,_⟩:=al.form;obtain⟨a1,aN,rfl,_⟩:=an.form;obtain⟨aW,aL,rfl,_⟩:=ak.form;have bI:=O (aE al (aE an ak));have bO:=I.out.bu.lt;have ad:=Z wr (.cells #[.int i64 y.k,.string (J y.nm),.slice aV y.ex.length aK,.slice a1 y.body.length aN,.slice aW y.els.length aL] 72);have aj:=O (I.out.ex ad);have bD:=O (aw wr 72 #[.int i64 y.k,.string (J y.nm),.slice aV y.ex.length aK,.slice a1 y.body.length aN,.slice aW y.els.length aL]);have bq:wr.heap.size≠b:=Qa
   have aQ:=O (aE (al.keep (.of_ext ad) (λ_ o _=>o)) (aE (an.keep (.of_ext ad) (λ_ o _=>o)) (ak.keep (.of_ext ad) (λ_ o _=>o))));generalize ((bK xs (i+1)).take a).flatMap F=af at*;generalize bx:((bK xs (i+1)).take (a+1)).flatMap F=b8 at*;have bw:=congrArg List.length bh.out;simp only[ac,ah,ai,ax.out]at bw;generalize jt (i+1)=av at*;clear al an ak bp a5 bI ad;go_wp2_with fail;refine aB 6 3 [(5,λx=>x=.string (J av),λ_ _=>True)] mixed Qb ⟨λ_ _ _ _ _=>trivial,trivial⟩ ?_;repeat (refine sx ?_ (λaA R=> ?_) ?_;rotate_left;(focus go_simp<;>with_reducible rfl);simp only[a8,a7,a6,aZ,aY])
   refine so (λaz R M bz aH=> ?_) ?_
   ·clear M R;go_simp;refine(bF.out az).mono ?_;rintro e bl ⟨rfl,aJ⟩;exact aH _ _ aJ rfl trivial
   rintro _ rfl;simp only[a8,a7,a6,aZ,aY];repeat (refine sx ?_ (λaA R=> ?_) ?_;rotate_left;(focus go_simp<;>with_reducible rfl);simp only[a8,a7,a6,aZ,aY])
   intro bk A M;clear M;simp only[ae,au];have X:=O (aj.out.ex A.un);have bB:=O (bD.out.ext A.un);have aR:=O (aE (aQ.out.1.keep (.of_ext A.un) (λ_ o _=>o)) (aE (aQ.out.2.1.keep (.of_ext A.un) (λ_ o _=>o)) (aQ.out.2.2.keep (.of_ext A.un) (λ_ o _=>o))));clear A aj;go_wp2_with (first|(go_at_call 91;refine(cV b (l++[123,10]++af) av _ X.out.bu (by have aO:=ax.out;(try have ar:=ag.out);(try have ap:=Hzc2.out);(try simp only[ac,ah,ai]);omega)).mono ?_;rintro e u3 ⟨rfl,w,j⟩;have V:=O (X.out.wr w j);have bA:=O (j.keep _ _ _ bq Qc bB.out);have bn:=bA.out.cell;have aS:=O (aE (aR.out.1.keep (j.keepP ab) (λ_ o _=>o)) (aE (aR.out.2.1.keep (j.keepP ab) (λ_ o _=>o)) (aR.out.2.2.keep (j.keepP ab) (λ_ o _=>o))));clear w j X)|(go_at_call 136;refine(bf.out P _ aV a1 aW _ aK _ aN _ aL b (i+1) (l++[123,10]++af++av) aS.out.1 aS.out.2.1 aS.out.2.2 ab V.out.tab V.out.bu (by have aO:=ax.out;(try have ar:=ag.out);(try have ap:=Hzc2.out);(try simp only[ac,ah,ai]);omega)).mono ?_;rintro e u4 ⟨rfl,w,j⟩;have aT:=O (V.out.wr w j);clear w j V bn)|(go_at_call 91;refine(cV b (l++[123,10]++af++av++dD y (i+1)) [10] _ aT.out.bu (by have aO:=ax.out;(try have ar:=ag.out);(try have ap:=Hzc2.out);(try simp only[ac,ah,ai]);omega)).mono ?_;rintro e u5 ⟨rfl,w,j⟩;have bL:=O (aT.out.wr w j);clear w j aT));go_roundw
   case rel=>exact⟨a+1,by go_num,by omega,by have:=bh.out;rw[bx,this];simpa[aq]using bL⟩
   case measure=>simp[intOf];omega
  ·have bt: ¬(a:Int)<z:=Qa
   have bv:a=z:=Qa
   have bi:=O (show(bK xs (i+1)).take a=bK xs (i+1)from by rw[bv,bj.out,bC (by rw[mq];simp)]);rw[bi.out]at I;generalize (bK xs (i+1)).flatMap F=af at*;clear bi;generalize jt i=G at*;have bo:=bg.out;obtain⟨aM,aP⟩: ∃c,Hid (G++[125]=c):=⟨_,O rfl⟩
   have a2:aM.length=G.length+1:=by rw[<-aP.out,ac];rfl
   have bP:J G++(⟨#[125]⟩:ByteArray)=J aM:=by rw[<-aP.out];exact eh _ _
   have bS: ¬9223372036854775807<G.length+1:=Qa
   have bV: ¬9223372036854775807<1+G.length:=Qa
   have bR:(J G).size=G.length:=bm _;have bQ:((⟨#[125]⟩:ByteArray)).size=1:=rfl;have ag:=O a2;clear a2;clear bo;go_wp2_with fail;refine aB 6 3 [(4,λx=>x=.string (J G),λ_ _=>True)] mixed Qb ⟨λ_ _ _ _ _=>trivial,trivial⟩ ?_;repeat (refine sx ?_ (λaA R=> ?_) ?_;rotate_left;(focus go_simp<;>with_reducible rfl);simp only[a8,a7,a6,aZ,aY])
   refine so (λaz R M bz aH=> ?_) ?_
   ·clear M R;go_simp;refine(bG.out az).mono ?_;rintro e bl ⟨rfl,aJ⟩;exact aH _ _ aJ rfl trivial
   rintro _ rfl;simp only[a8,a7,a6,aZ,aY];repeat (refine sx ?_ (λaA R=> ?_) ?_;rotate_left;(focus go_simp<;>with_reducible rfl);simp only[a8,a7,a6,aZ,aY])
   intro bk A M;clear M;simp only[ae,au];have X:=O (I.out.ex A.un);clear A I;go_wp2_with (go_at_call 91;refine(cV b (l++[123,10]++af) aM _ X.out.bu (by have aO:=bg.out;(try have ar:=ag.out);(try have ap:=Hzc2.out);(try simp only[ac,ah,ai]);omega)).mono ?_;rintro e u3 ⟨rfl,w,j⟩;have V:=O (X.out.wr w j);clear w j X)
   go_end0
   exact⟨rfl,by rw[<-bH.out];have:=V.out.bu;rw[<-aP.out]at this;simpa[aq]using this,V.out.fb⟩
theorem sj: ∀(m:Nat) (x:St),x.wt<=m->x.ok=true->FX x/\(x.k=4->wc x)
 |0,x,hm,_=>absurd hm (by have:=x.wt_eq;omega)
 |m+1,.mk k nm es bd el,hm,h=>by
  have an:=(St.mk k nm es bd el).wt_eq;simp only[St.nm,St.ex,St.body,St.els]at an;rw[St.ok,ag,ag,ag]at h;obtain⟨⟨a,al⟩,ak,aj⟩:=h;rw[kY]at al;rw[ib]at ak aj;have z: ∀y,y∈es->oP y:=λy M=>CV (List.all_eq_true.1 al y M);have J: ∀y,y∈bd->FX y:=λy M=>(sj m y (by have:=bO M;omega) (List.all_eq_true.1 ak y M)).1;have ae: ∀y,y∈el->FX y/\(y.k=4->wc y):=λy M=>sj m y (by have:=bO M;omega) (List.all_eq_true.1 aj y M);have ah:=sL bd J;have af:=sL el (λy M=>(ae y M).1);have ai:k=4->wc (.mk k nm es bd el):=by
   rintro rfl;rw[if_neg Qc,if_neg Qc,if_neg Qc,if_pos rfl]at a;simp only[ag,beq_iff_eq]at a;obtain⟨y,rfl⟩:=List.length_eq_one_iff.1 a.2;have M:=z y Qd;intro P A ac B C n c K ab G I b i l o R w V O X j
   match el,w,ae,af,j with
   | [],w,ae,af,j=>exact Hz nm bd y M ah P A ac B C n c K ab G I b i l o R w V O X _ rfl j
   | [s],w,ae,af,j=>
    by_cases hs:s.k=4
    ·exact Hy nm bd y M ah s hs ((ae s Qd).2 hs) P A ac B C n c K ab G I b i l o R w V O X _ rfl j
    ·exact Hx nm bd y M ah s hs af P A ac B C n c K ab G I b i l o R w V O X _ rfl j
   |s1::s2::r,w,ae,af,j=>exact Hw nm bd y M ah s1 s2 r af P A ac B C n c K ab G I b i l o R w V O X _ rfl j
  refine⟨?_,ai⟩;intro P A ac B C n c K ab G I b i l o R w V O X j;simp only[St.k,St.nm,St.ex,St.body,St.els]at*;by_cases k1:k=1
  ·subst k1;rw[if_pos rfl]at a;simp only[ag,decide_eq_true_eq]at a
   match es,z,a,o,j with
   | [],z,a,o,j=>exact Ge nm bd el P A ac B C n c K ab G I b i l o R w V O X _ rfl j
   | [y],z,a,o,j=>exact Gd nm bd el y (z y Qd) P A ac B C n c K ab G I b i l o R w V O X _ rfl j
   |y::ad::r,z,a,o,j=>exact absurd a.1.1.2 Qd
  rw[if_neg k1]at a;by_cases k2:k=2
  ·subst k2;rw[if_pos rfl]at a;simp only[ag,beq_iff_eq]at a;obtain⟨y,rfl⟩:=List.length_eq_one_iff.1 a.1.1.2;exact G9 nm bd el y (z y Qd) P A ac B C n c K ab G I b i l o R w V O X _ rfl j
  rw[if_neg k2]at a;by_cases k3:k=3
  ·subst k3;rw[if_pos rfl]at a;simp only[ag,beq_iff_eq]at a;obtain⟨y,ad,rfl⟩: ∃y ad,es=[y,ad]:=by
    match es,a with
    | [],a=>simp at a
    | [y],a=>simp at a
    | [y,ad],a=>exact⟨y,ad,rfl⟩
    |y::ad::u::r,a=>simp at a
   exact G8 nm bd el y ad (z y Qd) (z ad Qd) P A ac B C n c K ab G I b i l o R w V O X _ rfl j
  rw[if_neg k3]at a;by_cases k4:k=4
  ·subst k4;exact G7 nm bd el es (ai rfl) P A ac B C n c K ab G I b i l o R w V O X _ rfl j
  rw[if_neg k4]at a;by_cases k5:k=5
  ·subst k5;rw[if_pos rfl]at a;simp only[ag,beq_iff_eq]at a;obtain⟨y,rfl⟩:=List.length_eq_one_iff.1 a.1.2;exact G6 nm bd el y (z y Qd) ah P A ac B C n c K ab G I b i l o R w V O X _ rfl j
  rw[if_neg k5]at a;by_cases k6:k=6
  ·subst k6;rw[if_pos rfl]at a;simp only[ag,decide_eq_true_eq]at a
   match es,z,a,o,j with
   | [],z,a,o,j=>exact Gc nm bd el P A ac B C n c K ab G I b i l o R w V O X _ rfl j
   | [y],z,a,o,j=>exact Gb nm bd el y (z y Qd) P A ac B C n c K ab G I b i l o R w V O X _ rfl j
   |y::ad::r,z,a,o,j=>exact absurd a.1.1.2 Qd
  rw[if_neg k6]at a;by_cases k7:k=7
  ·subst k7;rw[if_pos rfl]at a;simp only[ag,beq_iff_eq]at a;obtain⟨y,rfl⟩:=List.length_eq_one_iff.1 a.1.1.1.2;exact G5 nm bd el y (z y Qd) P A ac B C n c K ab G I b i l o R w V O X _ rfl j
  ·rw[if_neg k7]at a
   cases a
theorem CX {x:St} (a:x.ok=true):FX x:=(sj _ x (ak _) a).1
theorem CY {xs:List St} (a:qv xs=true):mH xs:=sL xs λy h=>CX (by rw[ib]at a;exact List.all_eq_true.1 a y h)
theorem og (a:List UInt8) (l:List (List UInt8)):Lib.join l a=dS a l:=by
 cases l with
 |nil=>rfl
 |cons x r=>rw[Lib.join_cons];simp[Lib.joinTail,dS,List.flatMap_def]
theorem yD (j:Option Addr) (n c:Nat) (a:List (List UInt8)) (P:Nat->Prop) (h:World) (K:mQ h P (.slice j n c) a) (ab:(dS [44,32] a).length<=1000000000):
  Calls prog 93 #[.slice j n c,.string ⟨#[44,32]⟩] h λe w'=>e=.returned (.string (J (dS [44,32] a)))/\az h w':=by
 obtain⟨ad,ac,M,I⟩:=K;injection M with X O V;subst X O V;rcases I with rfl|⟨h1,h2,b,o,rfl,hP,hb,hcell⟩
 ·refine(Tryz.strings_Join_none j c ⟨#[44,32]⟩ h).mono ?_;rintro e w' ⟨rfl,rfl⟩;exact⟨rfl,aS _⟩
 ·have z:(a.map J).map (·.data.toList)=a:=by
   rw[dU];have:((λx:ByteArray=>x.data.toList) ∘ J)=id:=funext λl=>jw l;rw[this,List.map_id]
  unfold maxLen at h2
  have:=Tryz.strings_Join b o c (a.map J) ⟨#[44,32]⟩ h (λA x w=>by
    rw[jJ]at w;obtain⟨y,G,rfl⟩:=Option.map_eq_some_iff.1 w;obtain⟨R,rfl⟩:=List.getElem?_eq_some_iff.1 G;exact hcell A R) hb (by
    rw[eQ]
    cases a with
    |nil=>simp
    |cons x r=>
     have:=Lib.join_length x r [44,32];rw[og]at this;simp only[ah,ai]at this⊢
     omega) (by simp;exact h1) (by rw[z,show((⟨#[44,32]⟩:ByteArray).data.toList)=[44,32]from rfl,og];omega)
  rw[z,eQ,show((⟨#[44,32]⟩:ByteArray).data.toList)=[44,32]from rfl,og]at this;exact this
structure PQ (b px:Nat) (w0:World) (P:Nat->Prop) (vv fv:Value) (p:Pg) (l:List UInt8) (W:World):Prop where
 box:aU W px 34 #[vv,fv]
 bu:Bu W b l
 rv:ik W P vv p.vs
 rf:jl W P fv p.fs
 fb:FB b w0 W
 tab:dP W b
 ne:px≠b
 tt:34≠5
 hP: ∀k,P k->k<b
section
variable {b px:Nat} {w0 W W':World} {P:Nat->Prop} {vv fv:Value} {p:Pg} {l l':List UInt8}
theorem PQ.wr (a:PQ b px w0 P vv fv p l W) (o:Bu W' b l') (h:FB b W W'):PQ b px w0 P vv fv p l' W':=
 ⟨h.keep _ _ _ a.ne a.tt a.box,o,a.rv.keep (h.keepP a.hP) (λ_ j _=>j),a.rf.keep (h.keepP a.hP) (λ_ j _=>j),a.fb.trans h,a.tab.fb h,a.ne,a.tt,a.hP⟩
theorem PQ.ex (a:PQ b px w0 P vv fv p l W) (h:az W W'):PQ b px w0 P vv fv p l W':=a.wr (a.bu.ext h) (be h (aM a.bu.lt))
end
theorem lp {α:Type} (F:α->List UInt8) (l:List α) (a:Nat):((l.take a).flatMap F).length<=(l.flatMap F).length:=by
 conv=>rhs;rw[<-dm a l,gD,ac]
 omega
theorem jU {α:Type} (F:α->List UInt8) (l:List α) (a:Nat) (h:a<l.length):(l.take (a+1)).flatMap F=(l.take a).flatMap F++F l[a]:=by
 rw[aX h,gD];simp
theorem pE (p:Pg) (b2: ∀f,f∈p.fs->qv f.body=true) (bh: ∀v,v∈p.vs->v.sz<=9223372036854775807) (P:Nat->Prop) (j:World) (X B:Option Addr) (n c m d:Nat) (bH:ik j P (.slice X n c) p.vs) (al:jl j P (.slice B m d) p.fs) (aT:dP j j.heap.size) (c8:(iZ p).length<=1000000000):
  Calls prog 57 #[.agg #[.slice X n c,.slice B m d]] j λe w'=>e=.returned (.string (J (iZ p)))/\az j w':=by
 have bi:n=p.vs.length/\n<=maxLen:=by
  obtain⟨bX,bO,aD,A⟩:=bH;injection aD with _ a5 _;refine⟨a5,?_⟩;rcases A with A|⟨w,o,_⟩
  ·rw[a5,A];exact aI _
  ·omega
 have bj:m=p.fs.length/\m<=maxLen:=by
  obtain⟨bX,bO,aD,A⟩:=al;injection aD with _ a5 _;refine⟨a5,?_⟩;rcases A with A|⟨w,o,_⟩
  ·rw[a5,A];exact aI _
  ·omega
 obtain⟨bi,cu⟩:=bi;obtain⟨bj,ct⟩:=bj;unfold maxLen at cu ct;have cg:=O bi;have ch:=O bj;have cJ:=O bh;have cN:=O b2;have cf:=O (show p.vs.flatMap kS++p.fs.flatMap kT=iZ p from rfl);have c7:(p.vs.flatMap kS).length+(p.fs.flatMap kT).length=(iZ p).length:=by rw[<-cf.out,ac]
 generalize iZ p=S at*;have cb:=Z j (.cells #[.slice X n c,.slice B m d] 34);have bp:=cb.trans (Z (j.alloc (.cells #[.slice X n c,.slice B m d] 34)) (.cells #[.pointer none,.slice none 0 0] 195));have cp:(j.alloc (.cells #[.slice X n c,.slice B m d] 34)).heap.size=j.heap.size+1:=Array.size_push _;have bI:cR P j ((j.alloc (.cells #[.slice X n c,.slice B m d] 34)).alloc (.cells #[.pointer none,.slice none 0 0] 195)):=.of_ext bp;obtain⟨w0,bB⟩: ∃W,W=((j.alloc (.cells #[.slice X n c,.slice B m d] 34)).alloc (.cells #[.pointer none,.slice none 0 0] 195)):=⟨_,rfl⟩
 have cP:=O (show az j w0 from bB▸bp)
 have bT:=O (show PQ (j.heap.size+1) j.heap.size w0 (λk=>k<j.heap.size) (.slice X n c) (.slice B m d) p [] ((j.alloc (.cells #[.slice X n c,.slice B m d] 34)).alloc (.cells #[.pointer none,.slice none 0 0] 195))from
  ⟨(aw j _ _).ext (Z _ _),cp▸Bu.new _,bH.keep bI (λ_ _ A=>A),al.keep bI (λ_ _ A=>A),bB▸FB.refl _ _,⟨((aT.fb (be bp (ak _)))).1,Nat.lt_succ_of_lt aT.2⟩,na (gq _),by decide,λk A=>Nat.lt_succ_of_lt A⟩)
 clear bH al aT cb bp bI bi bj bh b2 bB;generalize au:j.heap.size+1=b at*;have cI:=O (show j.heap.size<=b/\True from⟨by omega,trivial⟩);generalize c5:j.heap.size=ap at*;have bG:=bT.out.box.cell;go_enter func57,ntmps57;go_wp2_with fail
 go_loopw [11] (λaB wr=> ∃a:Nat,aB=.int i64 (a:Int)/\a<=n/\Hid (PQ b ap w0 (λk=>k<ap) (.slice X n c) (.slice B m d) p ((p.vs.take a).flatMap kS) wr)) (λaB _=>n-(intOf aB).toNat)
 case atStart=>exact⟨0,rfl,aI _,bT⟩
 case round=>
  clear bT bG;obtain⟨a,rfl,b6,M⟩:=hrel;by_cases hlt:a<n
  ·have bk:(a:Int)<n:=Qa
   have I:a<p.vs.length:=by have:=cg.out;omega
   obtain⟨bX,bO,aD,aE⟩:=M.out.rv;injection aD with a9 bE bF;rcases aE with aE|⟨w,o,b9,o9,hA2,hP9,hb9,hcl⟩
   ·rw[aE]at I;simp at I
   obtain⟨cC,cB⟩:=hcl a I;have bM:X=some ⟨b9,o9,none⟩:=a9.trans hA2;subst bM;clear hcl a9 hA2 bE bF w o hP9;have cm:=cJ.out _ (ay I);have a1:=O (jU kS p.vs a I);have b7:=lp kS p.vs (a+1);have ao:=O (show kS p.vs[a]=[118,97,114,32]++p.vs[a].nm++(if 0<p.vs[a].sz then[91]++fZ p.vs[a].sz.toNat++[93]else[])++[59,10]from rfl);generalize kS p.vs[a]=cD at*;generalize p.vs[a].nm=K at*;generalize p.vs[a].sz=a2 at*;generalize (p.vs.take a).flatMap kS=V at*;generalize bo:(p.vs.take (a+1)).flatMap kS=cF at*;have aU:=congrArg List.length a1.out;simp only[ac]at aU;have bh:=M.out.bu.lt;have aF:=Z wr (.cells #[.string (J K),.int i64 a2] 85);have af:=O (M.out.ex aF);have aN:=O (aw wr 85 #[.string (J K),.int i64 a2]);have aC:=aN.out.cell;have aR:wr.heap.size≠b:=Qa
   clear aF;by_cases hz:0<a2
   ·have ag:=congrArg List.length ao.out;rw[if_pos hz]at ao ag;have cO:=O (λj A=>tV a2 Qa cm j b A);generalize fZ a2.toNat=D at*;simp only[ac,ah,ai]at ag;have ad:=O (show V.length+(4+K.length+(1+D.length+1)+2)<=1000000000 from by omega);obtain⟨z,ab⟩: ∃c,Hid ([118,97,114,32]++K=c):=⟨_,O rfl⟩
    have ar:z.length=4+K.length:=by rw[<-ab.out,ac];(try rfl)
    have b0:(⟨#[118,97,114,32]⟩:ByteArray)++J K=J z:=by rw[<-ab.out];exact eh _ _
    have b4: ¬9223372036854775807<4+K.length:=Qa
    have b5: ¬9223372036854775807<K.length+4:=Qa
    have b1:((⟨#[118,97,114,32]⟩:ByteArray)).size=4:=rfl;have cs:(J K).size=K.length:=bm _;obtain⟨G,aL⟩: ∃c,Hid ([91]++D=c):=⟨_,O rfl⟩
    have a4:G.length=1+D.length:=by rw[<-aL.out,ac];(try rfl)
    have co:(⟨#[91]⟩:ByteArray)++J D=J G:=by rw[<-aL.out];exact eh _ _
    have cw: ¬9223372036854775807<1+D.length:=Qa
    have cy: ¬9223372036854775807<D.length+1:=Qa
    have cr:((⟨#[91]⟩:ByteArray)).size=1:=rfl;have c3:(J D).size=D.length:=bm _;obtain⟨R,aK⟩: ∃c,Hid (G++[93]=c):=⟨_,O rfl⟩
    have a3:R.length=G.length+1:=by rw[<-aK.out,ac];(try rfl)
    have cn:J G++(⟨#[93]⟩:ByteArray)=J R:=by rw[<-aK.out];exact eh _ _
    have cv: ¬9223372036854775807<G.length+1:=Qa
    have cx: ¬9223372036854775807<1+G.length:=Qa
    have cq:(J G).size=G.length:=bm _;have c0:((⟨#[93]⟩:ByteArray)).size=1:=rfl;have aj:=O ar;clear ar;have aX:=O a4;clear a4;have aW:=O a3;clear a3;clear ag aU;go_wp2_with (first|(go_at_call 91;refine(cV b V z _ af.out.bu (by have ax:=aj.out;have aV:=ad.out;omega)).mono ?_;rintro e u2 ⟨rfl,w,o⟩;have aP:=O (af.out.wr w o);have bS:=O (o.keep _ _ _ aR Qc aN.out);clear aC;have aC:=bS.out.cell;clear w o af)|(go_at_call 92;refine(cO.out _ aP.out.tab).mono ?_;rintro e u3 ⟨rfl,bq⟩;have aA:=O (aP.out.ex bq);clear bq aC aP)|(go_at_call 91;refine(cV b (V++z) R _ aA.out.bu (by have ax:=aj.out;have aV:=aX.out;have bw:=aW.out;have bc:=ad.out;simp only[ac];omega)).mono ?_;rintro e u4 ⟨rfl,w,o⟩;have aO:=O (aA.out.wr w o);clear w o aA)|(go_at_call 91;refine(cV b (V++z++R) [59,10] _ aO.out.bu (by have ax:=aj.out;have aV:=aX.out;have bw:=aW.out;have bc:=ad.out;simp only[ac,ah,ai];omega)).mono ?_;rintro e u5 ⟨rfl,w,o⟩;have bd:=O (aO.out.wr w o);clear w o aO));go_roundw
    case rel=>exact⟨a+1,by go_num,by omega,by have ba:=a1.out;have bb:=ao.out;rw[bo,ba,bb,ab.out,aL.out,aK.out];simpa[aq]using bd⟩
    case measure=>simp[intOf];omega
   ·have ag:=congrArg List.length ao.out;rw[if_neg hz]at ao ag;simp only[ac,ah,ai]at ag;have ad:=O (show V.length+(4+K.length+2)<=1000000000 from by omega);obtain⟨z,ab⟩: ∃c,Hid ([118,97,114,32]++K=c):=⟨_,O rfl⟩
    have ar:z.length=4+K.length:=by rw[<-ab.out,ac];(try rfl)
    have b0:(⟨#[118,97,114,32]⟩:ByteArray)++J K=J z:=by rw[<-ab.out];exact eh _ _
    have b4: ¬9223372036854775807<4+K.length:=Qa
    have b5: ¬9223372036854775807<K.length+4:=Qa
    have b1:((⟨#[118,97,114,32]⟩:ByteArray)).size=4:=rfl;have cs:(J K).size=K.length:=bm _;have aj:=O ar;clear ar;clear ag aU;go_wp2_with (first|(go_at_call 91;refine(cV b V z _ af.out.bu (by have ax:=aj.out;have aV:=ad.out;omega)).mono ?_;rintro e u2 ⟨rfl,w,o⟩;have aP:=O (af.out.wr w o);have bS:=O (o.keep _ _ _ aR Qc aN.out);clear aC;have aC:=bS.out.cell;clear w o af)|(go_at_call 91;refine(cV b (V++z) [59,10] _ aP.out.bu (by have ax:=aj.out;have bc:=ad.out;simp only[ac,ah,ai];omega)).mono ?_;rintro e u5 ⟨rfl,w,o⟩;have bd:=O (aP.out.wr w o);clear w o aP));go_roundw
    case rel=>exact⟨a+1,by go_num,by omega,by have ba:=a1.out;have bb:=ao.out;rw[bo,ba,bb,ab.out];simpa[aq]using bd⟩
    case measure=>simp[intOf];omega
  ·have bk: ¬(a:Int)<n:=Qa
   have bl:a=n:=Qa
   have bx:=O (show p.vs.take a=p.vs from by rw[bl,cg.out,bU]);rw[bx.out]at M;clear bx;have bG:=M.out.box.cell;go_wp2_with fail;clear hlt bk bl b6;generalize da:p.vs.flatMap kS=ce at*
   go_loopw [36] (λaB wr=> ∃a:Nat,aB=.int i64 (a:Int)/\a<=m/\Hid (PQ b ap w0 (λk=>k<ap) (.slice X n c) (.slice B m d) p (ce++(p.fs.take a).flatMap kT) wr)) (λaB _=>m-(intOf aB).toNat)
   case atStart=>exact⟨0,rfl,aI _,by simpa using M⟩
   case round=>
    clear M bG;rename_i bY;obtain⟨a,rfl,b6,M⟩:=hrel;by_cases hlt:a<m
    ·have bk:(a:Int)<m:=Qa
     have I:a<p.fs.length:=by have:=ch.out;omega
     obtain⟨bX,bO,aD,aE⟩:=M.out.rf;injection aD with a9 bE bF;rcases aE with aE|⟨w,o,b9,o9,hA2,hP9,hb9,pv,bv,hcl⟩
     ·rw[aE]at I;simp at I
     obtain⟨cC,cB,dd,bD,bC⟩:=hcl a I;have bM:B=some ⟨b9,o9,none⟩:=a9.trans hA2;subst bM;clear hcl a9 hA2 bE bF w o hP9;have b3:=cN.out _ (ay I);have a1:=O (jU kT p.fs a I);have b7:=lp kT p.fs (a+1);have ao:=O (show kT p.fs[a]=[102,117,110,99,32]++p.fs[a].nm++[40]++dS [44,32] p.fs[a].ps++[41,32]++fu 0 (bK p.fs[a].body 1)++[10]from rfl);generalize kT p.fs[a]=cD at*;generalize p.fs[a].nm=fn at*;generalize p.fs[a].ps=aG at*;generalize p.fs[a].body=aH at*;generalize pv a=cW at*;generalize bv a=de at*
     have cS:=O (show ∀(P:Nat->Prop) (j:World) (B:Option Addr) (bf bt b:Nat) (l:List UInt8),db j P (.slice B bf bt) aH->(∀k,P k->k<b)->dP j b->Bu j b l->l.length+(fu 0 (bK aH 1)).length<=1000000000->
      Calls prog 94 #[.pointer (some ⟨b,0,none⟩),.slice B bf bt,.int i64 0] j (λe w'=>e=.returned (.tuple #[])/\Bu w' b (l++fu 0 (bK aH 1))/\FB b j w')from λP j B bf bt b l=>CY b3 P j B bf bt b 0 l)
     generalize dc:(p.fs.take a).flatMap kT=cG at*;generalize ca:ce++cG=V at*;have b8:=congrArg List.length ca;generalize bo:(p.fs.take (a+1)).flatMap kT=cF at*;have aU:=congrArg List.length a1.out;simp only[ac]at aU b8;obtain⟨bz,br,rfl,_⟩:=id bD;obtain⟨bW,bN,rfl,_⟩:=bC.form;have bh:=M.out.bu.lt;have aF:=Z wr (.cells #[.string (J fn),.slice bz aG.length br,.slice bW aH.length bN] 59);have af:=O (M.out.ex aF);have aN:=O (aw wr 59 #[.string (J fn),.slice bz aG.length br,.slice bW aH.length bN]);have cM:=O (bD.keep (.of_ext aF) (λ_ au _=>au));have cL:=O (bC.keep (.of_ext aF) (λ_ au _=>au));have aR:wr.heap.size≠b:=Qa
     have ag:=congrArg List.length ao.out;have bV:=O (show ∀(k:Nat),k<ap->k<b from M.out.hP);generalize bL:dS [44,32] aG=an at*;simp only[ac,ah,ai]at ag;have ad:=O (show V.length+(5+fn.length+1+an.length+2+(fu 0 (bK aH 1)).length+1)<=1000000000 from by omega);obtain⟨z,ab⟩: ∃c,Hid ([102,117,110,99,32]++fn=c):=⟨_,O rfl⟩
     have ar:z.length=5+fn.length:=by rw[<-ab.out,ac];(try rfl)
     have b0:(⟨#[102,117,110,99,32]⟩:ByteArray)++J fn=J z:=by rw[<-ab.out];exact eh _ _
     have b4: ¬9223372036854775807<5+fn.length:=Qa
     have b5: ¬9223372036854775807<fn.length+5:=Qa
     have b1:((⟨#[102,117,110,99,32]⟩:ByteArray)).size=5:=rfl;have c4:(J fn).size=fn.length:=bm _;obtain⟨G,aL⟩: ∃c,Hid (z++[40]=c):=⟨_,O rfl⟩
     have a4:G.length=z.length+1:=by rw[<-aL.out,ac];(try rfl)
     have co:J z++(⟨#[40]⟩:ByteArray)=J G:=by rw[<-aL.out];exact eh _ _
     have cw: ¬9223372036854775807<z.length+1:=Qa
     have cy: ¬9223372036854775807<1+z.length:=Qa
     have c2:(J z).size=z.length:=bm _;have cr:((⟨#[40]⟩:ByteArray)).size=1:=rfl;obtain⟨R,aK⟩: ∃c,Hid (G++an=c):=⟨_,O rfl⟩
     have a3:R.length=G.length+an.length:=by rw[<-aK.out,ac];(try rfl)
     have cn:J G++J an=J R:=by rw[<-aK.out];exact eh _ _
     have cv: ¬9223372036854775807<G.length+an.length:=Qa
     have cx: ¬9223372036854775807<an.length+G.length:=Qa
     have cq:(J G).size=G.length:=bm _;have c1:(J an).size=an.length:=bm _;obtain⟨aJ,bQ⟩: ∃c,Hid (R++[41,32]=c):=⟨_,O rfl⟩
     have bZ:aJ.length=R.length+2:=by rw[<-bQ.out,ac];(try rfl)
     have cX:J R++(⟨#[41,32]⟩:ByteArray)=J aJ:=by rw[<-bQ.out];exact eh _ _
     have c6: ¬9223372036854775807<R.length+2:=Qa
     have c9: ¬9223372036854775807<2+R.length:=Qa
     have cZ:(J R).size=R.length:=bm _;have cY:((⟨#[41,32]⟩:ByteArray)).size=2:=rfl;have aj:=O ar;clear ar;have aX:=O a4;clear a4;have aW:=O a3;clear a3;have bP:=O bZ;clear bZ;have ci:=O (λW (A:mQ W (λk=>k<ap) (.slice bz aG.length br) aG)=>yD bz aG.length br aG (λk=>k<ap) W A (by have ax:=ad.out;rw[bL];omega));rw[bL]at ci;clear ag aU aF bD bC bL b7 b8 b3;go_wp2_with fail;have bn:=aM af.out.bu.lt;refine jb b 11 8 [(7,λx=>x=.string (J an),λ_ _=>True),(10,λx=>x=.tuple #[.int i64 aJ.length,.nilIface],λ_ bY=>Bu bY b (V++aJ))] 10 mixed Qb bn ⟨λ_ _ _ _ _=>trivial,λ_ _ _ A cl=>A.ext cl,trivial⟩ ⟨.inr λ_ _ _ _ _=>trivial,.inl rfl,trivial⟩ ?_;repeat (refine sx ?_ (λck av=> ?_) ?_;rotate_left;(focus have al:=nA (av bn);have cA:=(al.keep _ _ _ aR Qc aN.out).cell;clear al av;go_simp<;>with_reducible rfl);simp only[a8,a7,a6,aZ,aY])
     refine so (λbA av aS cE bJ=> ?_) ?_
     ·have cz:=cM.out.keep ((nA (av bn)).keepP bV.out) (λ_ au _=>au);clear aS av;go_simp;refine(ci.out bA cz).mono ?_;rintro e cj ⟨rfl,bq⟩;exact bJ _ _ bq rfl trivial
     rintro _ rfl;simp only[a8,a7,a6,aZ,aY];repeat (refine sx ?_ (λck av=> ?_) ?_;rotate_left;(focus have al:=nA (av bn);have cA:=(al.keep _ _ _ aR Qc aN.out).cell;clear al av;go_simp<;>with_reducible rfl);simp only[a8,a7,a6,aZ,aY])
     refine bR _ _ Qe rfl ⟨_,rfl⟩ rfl (λbA aT aS cE bJ=> ?_) ?_
     ·have cQ:=O (af.out.ex aT.un);clear aS aT;go_simp;refine(cV b V aJ bA cQ.out.bu (by have ax:=aj.out;have aV:=aX.out;have bw:=aW.out;have bc:=bP.out;have cd:=ad.out;omega)).mono ?_;rintro e cj ⟨rfl,w,o⟩;exact bJ _ _ (λ_=>o) rfl w
     rintro _ rfl;simp only[a8,a7,a6,aZ,aY];intro cU bg aS;have aA:=O (af.out.wr (aS _ (.head _)) bg);have cH:=O (bg.keep _ _ _ aR Qc aN.out);have aC:=cH.out.cell;have cK:=O (cL.out.keep (bg.keepP bV.out) (λ_ au _=>au));clear bg aS af;simp only[ae,aQ];go_wp2_with (first|(go_at_call 94;refine(cS.out (λk=>k<ap) _ bW _ bN b (V++aJ) cK.out bV.out aA.out.tab aA.out.bu (by have ax:=aj.out;have aV:=aX.out;have bw:=aW.out;have bc:=bP.out;have cd:=ad.out;simp only[ac];omega)).mono ?_;rintro e u4 ⟨rfl,w,o⟩;have aO:=O (aA.out.wr w o);clear w o aA aC)|(go_at_call 91;refine(cV b (V++aJ++fu 0 (bK aH 1)) [10] _ aO.out.bu (by have ax:=aj.out;have aV:=aX.out;have bw:=aW.out;have bc:=bP.out;have cd:=ad.out;simp only[ac,ah,ai];omega)).mono ?_;rintro e u5 ⟨rfl,w,o⟩;have bd:=O (aO.out.wr w o);clear w o aO));go_roundw
     case rel=>exact⟨a+1,by go_num,by omega,by have ba:=a1.out;have bb:=ao.out;rw[bo,ba,bb,ab.out,aL.out,aK.out,bQ.out,<-aq,ca];simpa[aq]using bd⟩
     case measure=>simp[intOf];omega
    ·have bk: ¬(a:Int)<m:=Qa
     have bl:a=m:=Qa
     have bx:=O (show p.fs.take a=p.fs from by rw[bl,ch.out,bU]);rw[bx.out,cf.out]at M;go_wp2_with (go_at_call 95;refine(Al b S _ M.out.bu Qa).mono ?_;rintro e u9 ⟨rfl,cc⟩;have cT:=O cc;clear cc);go_ret;exact⟨rfl,show Below j.heap.size j _ from Below.trans cP.out (Below.mono (Below.trans M.out.fb.below cT.out) (by have:=cI.out.1;omega))⟩
theorem uE (l:List UInt8) (j:l.length<=1073741824) (a:World):Calls prog 68 #[.string (J l)] a λe w'=>e=.returned (.bool (!dY l))/\az a w':=by
 have o:=O (dJ l j);generalize dY l=r at*;go_enter func68,ntmps68;go_wp2_with (go_at_call 66;refine(o.out _).mono ?_;rintro e w ⟨rfl,rfl⟩);go_ret;exact⟨rfl,aS _⟩
def pd (v:Vr):Bool:=dY v.nm&&decide (0<=v.sz)&&decide (v.sz<=2000)
def oa (f:Fc):Bool:=dY f.nm&&decide (f.ps.length<=4)&&f.ps.all dY&&f.body.all (λs=>decide (s.dep<=20)&&s.ok)
def gx (p:Pg):Bool:=p.vs.all pd&&p.fs.all oa&&decide (p.vs.length<=20)&&decide (p.fs.length<=20)&&decide ((iZ p).length<=4000)
theorem tJ {p:Pg} (a:gx p=true):(iZ p).length<=4000:=by
 unfold gx at a;simp only[ag,decide_eq_true_eq]at a;exact a.2
theorem kr {f:Fc} (a:oa f=true):qv f.body=true:=by
 unfold oa at a;simp only[ag,cf,decide_eq_true_eq]at a;rw[ib,cf];exact λs h=>(a.2 s h).2
def oW (i:Nat) (ts:List (List UInt8)):Nat:=(ts.map λt=>t.length+i).sum
theorem gY (i:Nat) (t:List UInt8) (a:List (List UInt8)):oW i (t::a)=t.length+i+oW i a:=by simp[oW]
theorem lN {i h:Nat} (j:i<=h): ∀a,oW i a<=oW h a
 | []=>ak _
 |t::a=>by have:=lN j a;rw[gY,gY];omega
theorem uQ (i:Nat): ∀a:List (List UInt8),(a.headD []).length<=oW i a
 | []=>by simp[oW]
 |t::a=>by rw[gY];simp;omega
theorem wI (i:Nat): ∀a:List (List UInt8),(a.headD []).length+(a.tail.headD []).length<=oW i a
 | []=>by simp[oW]
 | [t]=>by rw[gY];simp[oW]<;>omega
 |t::u::a=>by rw[gY,gY];simp;omega
theorem uV {k:Int} {op nm tx:List UInt8} {v:Int} {ps:List Int} {ss:List (List UInt8)} (h:k=1->v<=2147483647):
  (j_ k op nm tx v ps ss).length<=10+op.length+nm.length+2*tx.length+oW 2 ss:=by
 have M:=uQ 2 ss;have K:=wI 2 ss;have a:=rk [44,32] ss;have G:=vg tx;have A:=o_ (decide (ps.headD 0<7)) (ss.headD []);have z:=o_ (decide (ps.headD 0<im op)) (ss.headD []);have w:=o_ (decide (ps.tail.headD 0<=im op)) (ss.tail.headD []);have j:k=1->(fZ v.toNat).length<=10:=λo=>ug (h o);simp only[ah,ai]at a;change _<=oW 2 ss at a;unfold j_;split
 ·have:=j (by assumption);omega
 repeat' split
 all_goals (try simp only[ac,ah,ai])
 all_goals omega
mutual
theorem tp: ∀x:Ex,x.ok=true->(b_ x).length+2<=12*x.wt
 | .mk k op nm tx v a,h=>by
  rw[Ex.ok,ag]at h;have ha:=pA a h.2
  have o:=uV (k:=k) (op:=op) (nm:=nm) (tx:=tx) (v:=v) (ps:=a.map Ex.prec) (ss:=eX a) (λe=>by
   subst e;have j:=h.1;rw[if_pos rfl]at j;simp only[ag,decide_eq_true_eq]at j
   exact j.1.1.2)
  rw[b_,Ex.wt];omega
theorem pA: ∀l:List Ex,sW l=true->oW 2 (eX l)<=12*gA l
 | [],_=>by simp[eX,oW]
 |x::r,h=>by
  rw[sW,ag]at h;have:=tp x h.1;have:=pA r h.2;rw[eX,gY,gA];omega
end
theorem qg (i:Nat) (a:List (List UInt8)):(fu i a).length=3+i+oW (i+2) a:=by
 have h: ∀a:List (List UInt8),(a.flatMap (λt=>jt (i+1)++t++[10])).length=oW (i+2) a:=by
  intro a
  induction a with
  |nil=>rfl
  |cons t r ih=>rw[bx,ac,ih,gY];simp[jt];omega
 unfold fu;rw[ac,ac,h];simp[jt];omega
theorem uU {i:Nat} {k:Int} {nm:List UInt8} {es bs ls l0:List (List UInt8)} {mO:Bool} {E B L:Nat} (h:oW 0 es<=E) (j:oW (i+2) bs<=B)
  (a:oW (i+2) ls<=L) (K:oW 0 l0<=L):(kU i k nm es bs ls l0 mO).length<=20+2*i+nm.length+E+B+L:=by
 have G:=uQ 0 es;have A:=wI 0 es;have z:=uQ 0 l0;have w:=qg i bs;have o:=qg i ls;unfold kU;repeat' split
 all_goals simp only[ac,ah,ai,oR,zN,Ei,ju,r6,mm]
 all_goals omega
theorem Ej (i:Nat) (a:List (List UInt8)):oW 0 a<=oW i a:=lN (aI _) a
mutual
theorem xZ: ∀(x:St) (i:Nat),x.ok=true->i+x.dep<=21->(dD x i).length+i+2<=150*x.wt
 | .mk k nm e b l,i,h,hd=>by
  rw[St.ok]at h;simp only[ag]at h;rw[St.dep]at hd;have O:=pA e h.1.2;have j:=kj b (i+1);have a:=kj l (i+1);have o:=kj l i;have M:=j h.2.1 Qa;have K:=a h.2.2 Qa;have R:=o h.2.2 Qa;have G:=lN (show i+2<=i+1+2 by omega) (bK b (i+1));have A:=lN (show i+2<=i+1+2 by omega) (bK l (i+1));have z:=Ej 2 (eX e);have w:=Ej (i+2) (bK l i);have:=uU (i:=i) (k:=k) (nm:=nm) (es:=eX e) (bs:=bK b (i+1)) (ls:=bK l (i+1)) (l0:=bK l i) (mO:=fR l) (E:=12*gA e) (B:=150*fP b) (L:=150*fP l)
   Qa Qa Qa Qa
  rw[dD,St.wt];omega
theorem kj: ∀(l:List St) (i:Nat),qv l=true->i+ie l<=21->oW (i+2) (bK l i)<=150*fP l
 | [],i,_,_=>by simp[bK,oW]
 |x::r,i,h,hd=>by
  rw[qv,ag]at h;rw[ie]at hd;have:=xZ x i h.1 Qa;have:=kj r i h.2 Qa;rw[bK,gY,fP];omega
end
theorem jv {α:Type} (f g:α->Nat): ∀(l:List α),(∀x,x∈l->f x<=g x)->(l.map f).sum<=(l.map g).sum
 | [],_=>ak _
 |x::r,h=>by
  have:=jv f g r (λy a=>h y (cM _ a));have:=h x (dr ..);simp only[bF,eq];omega
theorem gv {α:Type} (c:Nat): ∀(l:List α),(l.map λ_=>c).sum=c*l.length
 | []=>rfl
 |x::r=>by rw[bF,eq,gv c r,ah,Nat.mul_succ];omega
theorem pZ {l:List UInt8} (a:dY l=true):l.length<=14:=by
 unfold dY at a;simp only[ag,decide_eq_true_eq]at a;exact a.1.1.2
theorem zW {v:Vr} (a:pd v=true):(kS v).length<=40:=by
 unfold pd at a;simp only[ag,decide_eq_true_eq]at a;have:=pZ a.1.1;have:=ug (v:=v.sz) Qa;unfold kS;split<;>simp only[ac,ah,ai,oR]<;>omega
theorem Db {f:Fc} (a:oa f=true):ie f.body<=20:=by
 unfold oa at a;simp only[ag,cf,decide_eq_true_eq]at a;have h:=a.2;clear a;generalize f.body=l at*
 induction l with
 |nil=>exact aI _
 |cons x r ih=>
  have:=ih λs j=>h s (cM _ j);have:=(h x (dr ..)).1;rw[ie];omega
theorem zY {f:Fc} (a:oa f=true):(kT f).length<=100+150*fP f.body:=by
 have A:=kj f.body 1 (kr a) (by have:=Db a;omega);have w:=qg 0 (bK f.body 1);have z:=rk [44,32] f.ps;have o:=lN (show 0+2<=1+2 by omega) (bK f.body 1);unfold oa at a;simp only[ag,cf,decide_eq_true_eq]at a;have G:=pZ a.1.1.1;have j:=jv (λs:List UInt8=>s.length+[44,32].length) (λ_=>16) f.ps (λs h=>by have:=pZ (a.1.2 s h);simp;omega);rw[gv]at j;unfold kT;simp only[ac,ah,ai,tm];omega
theorem zX {p:Pg} (h:p.vs.all pd=true) (j:p.fs.all oa=true) (w:p.vs.length<=20) (o:p.fs.length<=20):(iZ p).length<=2800+150*(p.fs.map λf=>fP f.body).sum:=by
 have A:(p.vs.flatMap kS).length<=40*p.vs.length:=by
  rw[i'];have:=jv (λv=>(kS v).length) (λ_=>40) p.vs (λv a=>zW (List.all_eq_true.1 h v a));rwa [gv]at this
 have z:(p.fs.flatMap kT).length<=100*p.fs.length+150*(p.fs.map λf=>fP f.body).sum:=by
  rw[i'];have:=jv (λf=>(kT f).length) (λf=>100+150*fP f.body) p.fs (λf a=>zY (List.all_eq_true.1 j f a));have e: ∀l:List Fc,(l.map λf=>100+150*fP f.body).sum=100*l.length+150*(l.map λf=>fP f.body).sum:=by
   intro l
   induction l with
   |nil=>rfl
   |cons f r ih=>simp only[bF,eq,ah,ih];omega
  rwa [e]at this
 unfold iZ;rw[ac];omega
def dR:List bT->Nat
 | []=>0
 |t::r=>2+t.t.length+dR r
theorem gu {l:List bT} (a:(cO l).k≠0):dR l=2+(cO l).t.length+dR l.tail:=by
 cases l with
 |nil=>exact absurd rfl a
 |cons t r=>rfl
theorem vU {s:List UInt8} {l:List bT} (a:bX s l=true):(cO l).k≠0:=by
 intro e;simp[bX,e]at a
theorem fw {s:List UInt8} {l r:List bT} {u:Unit} (h:bw s l=.ok (u,r)):dR r+2<=dR l:=by
 obtain⟨a,rfl,_⟩:=eK h;have:=gu (vU a);omega
theorem nu {l r:List bT} {nm:List UInt8} (h:iH l=.ok (nm,r)):nm.length+2+dR r=dR l:=by
 obtain⟨a,rfl,rfl,_⟩:=lT h;have:=gu (l:=l) (by rw[a];decide);omega
theorem iM {s:List UInt8} {l:List bT} (a:bX s l=true):dR l.tail+2<=dR l:=by
 have:=gu (vU a);omega
theorem Bo: ∀(f:Nat),
  (∀n l x r,bS f n l=.ok (x,r)->x.wt+1+dR r<=dR l)/\(∀n y l x r,gB f n y l=.ok (x,r)->x.wt+dR r<=y.wt+dR l)/\
  (∀l x r,cF f l=.ok (x,r)->x.wt+1+dR r<=dR l)/\(∀nm l x r,cG f nm l=.ok (x,r)->x.wt+dR r<=1+nm.length+dR l)/\
  (∀l x r,fS f l=.ok (x,r)->gA x+dR r<=dR l)/\(∀K l x r,fV f K l=.ok (x,r)->gA x+dR r<=gA K+dR l)
 |0=>by
  refine⟨?_,?_,?_,?_,?_,?_⟩;all_goals (intros;rename_i a;simp[bS,gB,cF,cG,fS,fV]at a)
 |f+1=>by
  obtain⟨G,R,O,I,ab,V⟩:=Bo f;refine⟨?_,?_,?_,?_,?_,?_⟩
  ·intro n l x r a;rw[bS]at a;obtain⟨w,q,o,j⟩:=aW a;have:=O _ _ _ o;have:=R _ _ _ _ _ j;omega
  ·intro n y l x r a;rw[gB]at a;split at a
   ·rename_i h;obtain⟨w,q,o,j⟩:=aW a;have:=G _ _ _ _ o;have:=R _ _ _ _ _ j;have:=gu (l:=l) (by rw[h.1];decide);simp only[Ex.wt,gA,ai]at*;omega
   ·obtain⟨rfl,rfl⟩:=bI a;exact ak _
  ·intro l x r a;rw[cF]at a;split at a
   ·rename_i h;have:=gu (l:=l) (by rw[h];decide);obtain⟨rfl,rfl⟩:=bI a;simp only[Ex.wt,gA,ai];omega
   ·split at a
    ·rename_i h;have:=gu (l:=l) (by rw[h];decide);obtain⟨rfl,rfl⟩:=bI a;simp only[Ex.wt,gA,ai];omega
    ·split at a
     ·rename_i h;have:=gu (l:=l) (by rw[h];decide);have:=I _ _ _ _ a;omega
     ·split at a
      ·rename_i h;obtain⟨w,q,o,j⟩:=aW a;have:=O _ _ _ o;obtain⟨rfl,rfl⟩:=bI j;have ac:(cO l).k≠0:=by
        rw[bJ]at h;rcases h with h|h<;>exact vU h
       have:=gu ac;simp only[Ex.wt,gA,ai]at*;omega
      ·obtain⟨w,q,o,j⟩:=aW a;obtain⟨X,M,A,z⟩:=aW j;obtain⟨ag,af,ae,ad⟩:=aW z;have:=fw o;have:=G _ _ _ _ A;have:=fw ae;obtain⟨rfl,rfl⟩:=bI ad;omega
  ·intro nm l x r a;rw[cG]at a;split at a
   ·rename_i h;obtain⟨w,q,o,j⟩:=aW a;obtain⟨X,M,A,z⟩:=aW j;have:=iM h;have:=G _ _ _ _ o;have:=fw A;obtain⟨rfl,rfl⟩:=bI z;simp only[Ex.wt,gA,ai];omega
   ·split at a
    ·rename_i h;obtain⟨w,q,o,j⟩:=aW a;have:=iM h;have:=ab _ _ _ o;obtain⟨rfl,rfl⟩:=bI j;simp only[Ex.wt,ai];omega
    ·obtain⟨rfl,rfl⟩:=bI a;simp only[Ex.wt,gA,ai];omega
  ·intro l x r a;rw[fS]at a;split at a
   ·rename_i h;have:=iM h;obtain⟨rfl,rfl⟩:=bI a;simp only[gA];omega
   ·have:=V _ _ _ _ a;simp only[gA]at this;omega
  ·intro K l x r a;rw[fV]at a;obtain⟨w,q,o,j⟩:=aW a;have:=G _ _ _ _ o;split at j
   ·rename_i h;have:=iM h;obtain⟨rfl,rfl⟩:=bI j;rw[rP];simp only[gA];omega
   ·obtain⟨X,M,A,z⟩:=aW j;have:=fw A;have:=V _ _ _ _ z;rw[rP]at this;simp only[gA]at this;omega
theorem zR: ∀(f:Nat),
  (∀l x r,dn f l=.ok (x,r)->fP x+dR r<=dR l)/\(∀ah l x r,d7 f ah l=.ok (x,r)->fP x+dR r<=fP ah+dR l)/\
  (∀l x r,nP f l=.ok (x,r)->x.wt+dR r<=dR l)/\(∀l x r,dg f l=.ok (x,r)->x.wt+dR r<=dR l)
 |0=>by
  refine⟨?_,?_,?_,?_⟩;all_goals (intros;rename_i a;simp[dn,d7,nP,dg]at a)
 |f+1=>by
  obtain⟨I,al,ak,ar⟩:=zR f;obtain⟨M,_,_,au,_,_⟩:=Bo f;refine⟨?_,?_,?_,?_⟩
  ·intro l x r a;rw[dn]at a;obtain⟨V,q,z,w⟩:=aW a;have:=fw z;have:=al _ _ _ _ w;simp only[fP]at this;omega
  ·intro ah l x r a;rw[d7]at a;split at a
   ·rename_i j;have:=iM j;obtain⟨rfl,rfl⟩:=bI a;omega
   ·obtain⟨V,q,z,w⟩:=aW a;have:=ar _ _ _ z;have:=al _ _ _ _ w;rw[wl]at this;simp only[fP]at this;omega
  ·intro l x r a;rw[nP]at a;obtain⟨V,q,z,w⟩:=aW a;obtain⟨ay,K,h,o⟩:=aW w;have:=M _ _ _ _ z;have:=I _ _ _ h;split at o
   ·rename_i j;have:=iM j;split at o
    ·rename_i ab;have:=iM ab;obtain⟨ax,aq,G,A⟩:=aW o;have:=ak _ _ _ G;obtain⟨rfl,rfl⟩:=bI A;simp only[St.wt,gA,fP,ai];omega
    ·obtain⟨ax,aq,G,A⟩:=aW o;have:=I _ _ _ G;obtain⟨rfl,rfl⟩:=bI A;simp only[St.wt,gA,ai];omega
   ·obtain⟨rfl,rfl⟩:=bI o;simp only[St.wt,gA,fP,ai];omega
  ·intro l x r a;rw[dg]at a;split at a
   ·rename_i j;have:=iM j;have:=ak _ _ _ a;omega
   ·split at a
    ·rename_i j;have:=iM j;obtain⟨V,q,z,w⟩:=aW a;obtain⟨ay,K,h,o⟩:=aW w;have:=M _ _ _ _ z;have:=I _ _ _ h;obtain⟨rfl,rfl⟩:=bI o;simp only[St.wt,gA,fP,ai];omega
    ·split at a
     ·rename_i j;have:=iM j;obtain⟨nm,q,z,w⟩:=aW a;obtain⟨ag,K,h,o⟩:=aW w;obtain⟨V,aj,G,A⟩:=aW o;have:=nu z;have:=fw G;have J:gA ag+dR K<=dR q:=by
       split at h
       ·rename_i ab;have:=iM ab;obtain⟨y,X,R,O⟩:=aW h;have:=M _ _ _ _ R;obtain⟨rfl,rfl⟩:=bI O;simp only[gA];omega
       ·obtain⟨rfl,rfl⟩:=bI h;simp only[gA];omega
      obtain⟨rfl,rfl⟩:=bI A;simp only[St.wt,fP];omega
     ·split at a
      ·rename_i j;have:=iM j;obtain⟨ag,K,h,o⟩:=aW a;obtain⟨V,aj,G,A⟩:=aW o;have:=fw G;have J:gA ag+dR K<=dR l.tail:=by
        split at h
        ·obtain⟨rfl,rfl⟩:=bI h;simp only[gA];omega
        ·obtain⟨y,X,R,O⟩:=aW h;have:=M _ _ _ _ R;obtain⟨rfl,rfl⟩:=bI O;simp only[gA];omega
       obtain⟨rfl,rfl⟩:=bI A;simp only[St.wt,fP,ai];omega
      ·obtain⟨nm,q,z,w⟩:=aW a;obtain⟨s,K,h,o⟩:=aW w;obtain⟨V,aj,G,A⟩:=aW o;have:=nu z;have:=fw G;have J:s.wt+dR K<=2+nm.length+dR q:=by
        split at h
        ·obtain⟨y,X,R,O⟩:=aW h;have:=au _ _ _ _ R;obtain⟨rfl,rfl⟩:=bI O;simp only[St.wt,gA,fP,ai];omega
        ·split at h
         ·rename_i j;have:=iM j;obtain⟨y,X,R,O⟩:=aW h;obtain⟨_,ap,ac,af⟩:=aW O;obtain⟨_,az,aw,av⟩:=aW af;obtain⟨an,ao,ae,ad⟩:=aW av;have:=M _ _ _ _ R;have:=fw ac;have:=fw aw;have:=M _ _ _ _ ae;obtain⟨rfl,rfl⟩:=bI ad;simp only[St.wt,gA,fP];omega
         ·obtain⟨_,ap,ac,af⟩:=aW h;obtain⟨an,ao,ae,ad⟩:=aW af;have:=fw ac;have:=M _ _ _ _ ae;obtain⟨rfl,rfl⟩:=bI ad;simp only[St.wt,gA,fP];omega
       obtain⟨rfl,rfl⟩:=bI A;omega
def Fc.wt (f:Fc):Nat:=f.nm.length+(f.ps.map λs=>s.length+1).sum+fP f.body
def jo (p:Pg):Nat:=(p.vs.map λv=>v.nm.length+1).sum+(p.fs.map λf=>f.wt+1).sum
theorem F2 {l r:List bT} {v:Vr} (j:jy l=.ok (v,r)):v.nm.length+1+dR r<=dR l/\0<=v.sz/\v.sz<=2000:=by
 unfold jy at j;obtain⟨nm,q,X,V⟩:=aW j;obtain⟨h,o,a,R⟩:=aW V;obtain⟨ad,ab,O,M⟩:=aW R;have:=nu X;have:=fw O;have A:dR o<=dR q/\0<=h/\h<=2000:=by
  split at a
  ·rename_i z;have:=iM z;split at a
   ·rename_i w;have:=gu (l:=q.tail) (by rw[w];decide);split at a
    ·cases a
    ·rename_i ac;obtain⟨_,I,K,G⟩:=aW a;have:=fw K;obtain⟨rfl,rfl⟩:=bI G;omega
   ·cases a
  ·obtain⟨rfl,rfl⟩:=bI a;exact⟨ak _,by decide,by decide⟩
 obtain⟨rfl,rfl⟩:=bI M;refine⟨?_,A.2⟩;change nm.length+1+_<=_;omega
theorem tP: ∀(f:Nat) acc l x r,eM f acc l=.ok (x,r)->(x.map λs=>s.length+1).sum+dR r<=(acc.map λs:List UInt8=>s.length+1).sum+dR l
 |0,acc,l,x,r,h=>by cases h
 |f+1,acc,l,x,r,h=>by
  rw[eM]at h;obtain⟨K,q,z,a⟩:=aW h;have:=nu z;split at a
  ·rename_i j;have:=iM j;obtain⟨rfl,rfl⟩:=bI a;simp;omega
  ·obtain⟨G,A,w,o⟩:=aW a;have:=fw w;have:=tP f _ _ _ _ o;simp at this;omega
theorem Dg {f:Nat} {l r:List bT} {x:List (List UInt8)} (a:fe f l=.ok (x,r)):(x.map λs=>s.length+1).sum+dR r<=dR l:=by
 unfold fe at a;split at a
 ·rename_i h;have:=iM h;obtain⟨rfl,rfl⟩:=bI a;simp;omega
 ·have:=tP _ _ _ _ _ a;simpa using this
theorem Fl {f:Nat} {l r:List bT} {x:Fc} (a:jz f l=.ok (x,r)):x.wt+1+dR r<=dR l:=by
 unfold jz at a;obtain⟨nm,q,K,G⟩:=aW a;obtain⟨_,R,A,z⟩:=aW G;obtain⟨ps,O,w,o⟩:=aW z;obtain⟨b,M,j,h⟩:=aW o;have:=nu K;have:=fw A;have:=Dg w;have:=(zR f).1 _ _ _ j;obtain⟨rfl,rfl⟩:=bI h;change nm.length+(ps.map λs=>s.length+1).sum+fP b+1+_<=_;omega
theorem vh: ∀(f:Nat) (p:Pg) (l:List bT) (x:Pg) (r:List bT),de f p l=.ok (x,r)->jo x<=jo p+dR l/\((∀v,v∈p.vs->0<=v.sz/\v.sz<=2000)-> ∀v,v∈x.vs->0<=v.sz/\v.sz<=2000)
 |0,p,l,x,r,a=>by cases a
 |f+1,p,l,x,r,a=>by
  rw[de]at a;split at a
  ·obtain⟨rfl,rfl⟩:=bI a;exact⟨by omega,λa=>a⟩
  ·split at a
   ·rename_i K;have:=iM K;obtain⟨v,q,z,w⟩:=aW a;have o:=F2 z;have j:=vh f _ _ _ _ w;refine⟨?_,λG=>j.2 λu h=> ?_⟩
    ·have:=j.1;simp only[jo,d9,lh,bF,cY,eq,nc]at this⊢;omega
    ·rcases List.mem_append.1 h with h|h
     ·exact G u h
     ·rw[cP]at h;subst h;exact o.2
   ·obtain⟨_,q,z,w⟩:=aW a;obtain⟨c,M,o,j⟩:=aW w;have:=fw z;have:=Fl o;have A:=vh f _ _ _ _ j;refine⟨?_,A.2⟩;have:=A.1;simp only[jo,d9,lh,bF,cY,eq,nc]at this⊢;omega
theorem At (p:Pg):(p.fs.map λf=>fP f.body).sum<=jo p:=by
 have:=jv (λf:Fc=>fP f.body) (λf=>f.wt+1) p.fs (λf _=>by unfold Fc.wt;omega);unfold jo;omega
theorem sD {α:Type} (f:α->Nat): ∀(l:List α) (x:α),x∈l->f x<=(l.map f).sum
 |y::r,x,h=>by
  rw[bF,eq];rcases List.mem_cons.1 h with rfl|h
  ·omega
  ·have:=sD f r x h;omega
end
section
open Go.RowKit
structure VQ (px:Nat) (w0:World) (P:Nat->Prop) (vv fv:Value) (p:Pg) (W:World):Prop where
 box:aU W px 34 #[vv,fv]
 rv:ik W P vv p.vs
 rf:jl W P fv p.fs
 ext:az w0 W
theorem VQ.ex {w:Nat} {w0 W A:World} {P:Nat->Prop} {o z:Value} {p:Pg} (h:VQ w w0 P o z p W) (a:az W A):VQ w w0 P o z p A:=
 ⟨h.box.ext a,h.rv.keep (.of_ext a) (λ_ j _=>j),h.rf.keep (.of_ext a) (λ_ j _=>j),h.ext.trans a⟩
def sq (s:St):Bool:=decide (s.dep<=20)&&s.ok
theorem i8 {α:Type} (f:α->Bool) (l:List α) (a:Nat) (j:a<l.length) (h:f l[a]=false):l.all f=false:=by
 cases hh:l.all f with
 |false=>rfl
 |true=>rw[cf]at hh;have:=hh _ (ay j);rw[h]at this;cases this
theorem jD {α:Type} (f:α->Bool) (l:List α) (a:Nat) (o:a<l.length) (j:(l.take a).all f=true) (h:f l[a]=true):(l.take (a+1)).all f=true:=by
 rw[aX o,iW,j];simp[h]
theorem xF (p:Pg) (bG: ∀v,v∈p.vs->v.nm.length<=1073741824) (P:Nat->Prop) (K:World) (af B:Option Addr) (n c m d:Nat) (bI: ∀f,f∈p.fs->f.nm.length<=1073741824/\(∀y,y∈f.ps->y.length<=1073741824)/\ ∀s,s∈f.body->s.wt<=1073741824) (bH:p.vs.all pd=true->p.fs.all oa=true->p.vs.length<=20->p.fs.length<=20->(iZ p).length<=1000000000) (bf:ik K P (.slice af n c) p.vs) (bg:jl K P (.slice B m d) p.fs) (bJ:dP K K.heap.size):
  Calls prog 35 #[.agg #[.slice af n c,.slice B m d]] K λe w'=>e=.returned (.bool (gx p))/\az K w':=by
 have aK:n=p.vs.length/\n<=maxLen:=by
  obtain⟨bB,bl,ah,w⟩:=bf;injection ah with _ ax _;refine⟨ax,?_⟩;rcases w with w|⟨ab,ae,_⟩
  ·rw[ax,w];exact aI _
  ·omega
 have aL:m=p.fs.length/\m<=maxLen:=by
  obtain⟨bB,bl,ah,w⟩:=bg;injection ah with _ ax _;refine⟨ax,?_⟩;rcases w with w|⟨ab,ae,_⟩
  ·rw[ax,w];exact aI _
  ·omega
 obtain⟨aK,ce⟩:=aK;obtain⟨aL,cd⟩:=aL;unfold maxLen at ce cd;have aW:=O aK;have aX:=O aL;have cs:=O bG;have cx:=O bI;have cu:=O bH;have bO:=O bJ;generalize bK:gx p=R;have aU:=O bK;have aO:=Z K (.cells #[.slice af n c,.slice B m d] 34);have bz:=O (show VQ K.heap.size K P (.slice af n c) (.slice B m d) p (K.alloc (.cells #[.slice af n c,.slice B m d] 34))from⟨aw K _ _,bf.keep (.of_ext aO) (λ_ o _=>o),bg.keep (.of_ext aO) (λ_ o _=>o),aO⟩);have aN:=bz.out.box.cell;clear aK aL bG bI bH bK aO bf bg bJ;go_enter func35,ntmps35;go_wp2_with fail
 go_loopw [12] (λan wr=> ∃a:Nat,an=.int i64 (a:Int)/\a<=n/\Hid ((p.vs.take a).all pd=true)/\Hid (VQ K.heap.size K P (.slice af n c) (.slice B m d) p wr)) (λan _=>n-(intOf an).toNat)
 case atStart=>exact⟨0,rfl,aI _,O Qd,bz⟩
 case round=>
  clear bz aN;obtain⟨a,rfl,bb,aq,G⟩:=hrel;by_cases hlt:a<n
  ·have aM:(a:Int)<n:=Qa
   have X:a<p.vs.length:=by have:=aW.out;omega
   obtain⟨bB,bl,ah,ao⟩:=G.out.rv;injection ah with aB ba bc;rcases ao with ao|⟨ab,ae,b9,o9,hA2,hP9,hb9,hcl⟩
   ·rw[ao]at X;simp at X
   obtain⟨cr,cq⟩:=hcl a X;have bh:af=some ⟨b9,o9,none⟩:=aB.trans hA2;subst bh;clear hcl aB hA2 ba bc ab ae hP9;have cb:=cs.out _ (ay X);have av:=O (λw:pd p.vs[a]=false=>show R=false by rw[<-aU.out,gx,i8 pd p.vs a X w];rfl);have bw:=O (λw:pd p.vs[a]=true=>jD pd p.vs a X aq.out w);have bY:=O (show pd p.vs[a]=(dY p.vs[a].nm&&decide (0<=p.vs[a].sz)&&decide (p.vs[a].sz<=2000))from rfl);generalize pd p.vs[a]=bD at*;generalize p.vs[a].nm=aG at*;generalize p.vs[a].sz=ac at*;have ai:=O (dJ aG cb);generalize dY aG=aC at*;have aj:=O (G.out.ex (Z wr (.cells #[.string (J aG),.int i64 ac] 85)));have aJ:=(aw wr 85 #[.string (J aG),.int i64 ac]).cell;by_cases hok:aC=true/\0<=ac/\ac<=2000
   ·obtain⟨rfl,bF,bE⟩:=hok;have bq:=O (bw.out (by rw[bY.out];simp[bF,bE]));have cI: ¬ac<0:=Qa
    have cH: ¬2000<ac:=Qa
    go_wp2_with (go_at_call 66;refine(ai.out _).mono ?_;rintro e al ⟨rfl,rfl⟩);go_roundw
    case rel=>exact⟨a+1,by go_num,by omega,bq,aj⟩
    case measure=>simp[intOf];omega
   ·have I:=O (av.out (by
     rw[bY.out]
     cases aC with
     |false=>rfl
     |true=>
      by_cases h0:0<=ac
      ·have ab: ¬ac<=2000:=λw=>hok ⟨rfl,h0,w⟩;simp[ab]
      ·simp[h0]))
    have A:=O aj.out.ext
    cases aC with
    |false=>
     clear hok;go_wp2_with (go_at_call 66;refine(ai.out _).mono ?_;rintro e al ⟨rfl,rfl⟩);go_ret;exact⟨by rw[I.out];rfl,A.out⟩
    |true=>
     by_cases bF:ac<0
     ·clear hok;go_wp2_with (go_at_call 66;refine(ai.out _).mono ?_;rintro e al ⟨rfl,rfl⟩);go_ret;exact⟨by rw[I.out];rfl,A.out⟩
     ·have bE:2000<ac:=by
       by_cases w:2000<ac
       ·exact w
       ·exact absurd ⟨rfl,by omega,by omega⟩ hok
      clear hok;go_wp2_with (go_at_call 66;refine(ai.out _).mono ?_;rintro e al ⟨rfl,rfl⟩);go_ret;exact⟨by rw[I.out];rfl,A.out⟩
  ·have aM: ¬(a:Int)<n:=Qa
   have aA:a=n:=Qa
   have bt:=O (show p.vs.all pd=true by have:=aq.out;rwa [aA,aW.out,bU]at this);have aN:=G.out.box.cell;go_wp2_with fail;clear hlt aM aA bb aq
   go_loopw [34] (λan wr=> ∃a:Nat,an=.int i64 (a:Int)/\a<=m/\Hid ((p.fs.take a).all oa=true)/\Hid (VQ K.heap.size K P (.slice af n c) (.slice B m d) p wr)) (λan _=>m-(intOf an).toNat)
   case atStart=>exact⟨0,rfl,aI _,O Qd,G⟩
   case round=>
    clear G aN;obtain⟨a,rfl,bb,aq,G⟩:=hrel;by_cases hlt:a<m
    ·have aM:(a:Int)<m:=Qa
     have X:a<p.fs.length:=by have:=aX.out;omega
     obtain⟨bB,bl,ah,ao⟩:=G.out.rf;injection ah with aB ba bc;rcases ao with ao|⟨ab,ae,b9,o9,hA2,hP9,hb9,pv,bv,hcl⟩
     ·rw[ao]at X;simp at X
     obtain⟨cr,cq,cP,a6,a5⟩:=hcl a X;have bh:B=some ⟨b9,o9,none⟩:=aB.trans hA2;subst bh;clear hcl aB hA2 ba bc ab ae hP9;obtain⟨ck,cj,ci⟩:=cx.out _ (ay X);have av:=O (λw:oa p.fs[a]=false=>show R=false by rw[<-aU.out,gx,i8 oa p.fs a X w];simp);have bw:=O (λw:oa p.fs[a]=true=>jD oa p.fs a X aq.out w);have aV:=O (show oa p.fs[a]=(dY p.fs[a].nm&&decide (p.fs[a].ps.length<=4)&&p.fs[a].ps.all dY&&p.fs[a].body.all sq)from rfl);generalize oa p.fs[a]=bD at*;generalize p.fs[a].nm=fn at*;generalize p.fs[a].ps=M at*;generalize p.fs[a].body=z at*;generalize pv a=cE at*;generalize bv a=cQ at*;obtain⟨a2,aR,rfl,cn⟩:=id a6;obtain⟨bA,bk,rfl,bd⟩:=a5.form;have bd:z.length<=maxLen:=by
      rcases bd with w|⟨ab,ae,_⟩
      ·rw[w];exact aI _
      ·omega
     unfold maxLen at bd;have ai:=O (dJ fn ck);generalize dY fn=aC at*;have ad:=Z wr (.cells #[.string (J fn),.slice a2 M.length aR,.slice bA z.length bk] 59);have aj:=O (G.out.ex ad);have bp:=O (aw wr 59 #[.string (J fn),.slice a2 M.length aR,.slice bA z.length bk]);have aJ:=bp.out.cell;have bV:=O (a6.keep (.of_ext ad) (λ_ o _=>o));have bS:=O (a5.keep (.of_ext ad) (λ_ o _=>o));have b0:=O (fun(W:World) (w:mQ W P (.slice a2 M.length aR) M) (bL:M.length<=1073741824)=>BD (λy=> !dY y) M P W a2 M.length aR w bL (λy ca w' _=>uE y (cj y ca) w'));clear ad a6 a5 cn
     cases aC with
     |false=>
      have I:=O (av.out (by rw[aV.out];simp));have A:=O aj.out.ext;go_wp2_with (go_at_call 66;refine(ai.out _).mono ?_;rintro e al ⟨rfl,rfl⟩);go_ret;exact⟨by rw[I.out];rfl,A.out⟩
     |true=>
      by_cases bL:4<M.length
      ·have I:=O (av.out (by rw[aV.out];simp[show ¬M.length<=4 from by omega]));have A:=O aj.out.ext;have co:(4:Int)<M.length:=Qa
       go_wp2_with (go_at_call 66;refine(ai.out _).mono ?_;rintro e al ⟨rfl,rfl⟩);go_ret;exact⟨by rw[I.out];rfl,A.out⟩
      ·have co: ¬(4:Int)<M.length:=Qa
       have ar:=O (b0.out _ bV.out Qa);have b4:=O (show M.any (λy=> !dY y)= !M.all dY from by rw[List.not_all_eq_any_not]);rw[b4.out]at ar;clear b4 b0
       cases hal:M.all dY with
       |false=>
        rw[hal]at ar;have I:=O (av.out (by rw[aV.out,hal];simp));clear hal;go_wp2_with (first|(go_at_call 66;refine(ai.out _).mono ?_;rintro e al ⟨rfl,rfl⟩)|(go_at_call 67;refine ar.out.mono ?_;rintro e b7 ⟨rfl,j⟩;have A:=O (aj.out.ex j).ext;clear j));go_ret;exact⟨by rw[I.out];rfl,A.out⟩
       |true=>
        rw[hal]at ar;have bP:=O (show bD=z.all sq from by rw[aV.out,hal];simp[show M.length<=4 from by omega]);clear hal;go_wp2_with (first|(go_at_call 66;refine(ai.out _).mono ?_;rintro e al ⟨rfl,rfl⟩)|(go_at_call 67;refine ar.out.mono ?_;rintro e b7 ⟨rfl,j⟩;have b1:=O (aj.out.ex j);have bM:=O (bp.out.ext j);clear aJ;have aJ:=bM.out.cell;have bR:=O (bS.out.keep (.of_ext j) (λ_ o _=>o));clear j aj));clear aJ
        go_loopw [56] (λa3 wr=> ∃k:Nat,a3=.int i64 (k:Int)/\k<=z.length/\Hid ((z.take k).all sq=true)/\Hid (VQ K.heap.size K P (.slice af n c) (.slice (some ⟨b9,o9,none⟩) m d) p wr)/\Hid (db wr P (.slice bA z.length bk) z)) (λa3 _=>z.length-(intOf a3).toNat)
        case atStart=>exact⟨0,rfl,aI _,O Qd,b1,bR⟩
        case round=>
         clear b1 bR bM bp bS bV ar G;obtain⟨k,rfl,cK,b3,bZ,bT⟩:=hrel;by_cases hkl:k<z.length
         ·have ch:(k:Int)<z.length:=Qa
          obtain⟨bs,cG,cO,ev,cN,rfl,cL,cM,cD,cC,cB,cA,cz,a8,a9,a7⟩:=bT.out.at_ k hkl;have a4:=ci _ (ay hkl);have b2:=O (λw:sq z[k]=false=>av.out (by rw[bP.out,i8 sq z k hkl w]));have cw:=O (λw:sq z[k]=true=>jD sq z k hkl b3.out w);have bu:=O (show sq z[k]=(decide (z[k].dep<=20)&&z[k].ok)from rfl);generalize sq z[k]=cF at*;generalize z[k]=y at*;obtain⟨aY,aP,rfl,_⟩:=a8.form;obtain⟨a1,aS,rfl,_⟩:=a9.form;obtain⟨aZ,aQ,rfl,_⟩:=a7.form;have ad:=Z wr (.cells #[.int i64 y.k,.string (J y.nm),.slice aY y.ex.length aP,.slice a1 y.body.length aS,.slice aZ y.els.length aQ] 72);have au:=O (bZ.out.ex ad);have bX:=O (bT.out.keep (.of_ext ad) (λ_ o _=>o) (Q:=P));have bo:=O (aw wr 72 #[.int i64 y.k,.string (J y.nm),.slice aY y.ex.length aP,.slice a1 y.body.length aS,.slice aZ y.els.length aQ]);have aH:=bo.out.cell;have V:=O (aE (a8.keep (.of_ext ad) (λ_ o _=>o) (Q:=P)) (aE (a9.keep (.of_ext ad) (λ_ o _=>o) (Q:=P)) (a7.keep (.of_ext ad) (λ_ o _=>o) (Q:=P))));have bx:=O (λW ab ae bi=>tz y.wt y (ak _) a4 P W aY a1 aZ y.ex.length aP y.body.length aS y.els.length aQ ab ae bi);have bN:=O (λW ab ae bi=>pu y.wt y (ak _) a4 P W aY a1 aZ y.ex.length aP y.body.length aS y.els.length aQ ab ae bi);clear a8 a9 a7 ad a4;generalize y.dep=bj at*;generalize y.ok=b8 at*;by_cases hd:bj<=20
          ·have cm: ¬(20:Int)<bj:=Qa
           cases b8 with
           |true=>
            have ct:=O (cw.out (by rw[bu.out];simp[hd]));go_wp2_with (first|(go_at_call 69;refine(bx.out _ V.out.1 V.out.2.1 V.out.2.2).mono ?_;rintro e bC ⟨rfl,j⟩;have aD:=O (au.out.ex j);have bW:=O (bX.out.keep (.of_ext j) (λ_ o _=>o) (Q:=P));have bn:=O (bo.out.ext j);clear aH;have aH:=bn.out.cell;have ap:=O (aE (V.out.1.keep (.of_ext j) (λ_ o _=>o) (Q:=P)) (aE (V.out.2.1.keep (.of_ext j) (λ_ o _=>o) (Q:=P)) (V.out.2.2.keep (.of_ext j) (λ_ o _=>o) (Q:=P))));clear j au)|(go_at_call 70;refine(bN.out _ ap.out.1 ap.out.2.1 ap.out.2.2).mono ?_;rintro e b6 ⟨rfl,j⟩;have cy:=O (aD.out.ex j);have cv:=O (bW.out.keep (.of_ext j) (λ_ o _=>o) (Q:=P));clear j aD));go_roundw
            case rel=>exact⟨k+1,by go_num,by omega,ct,cy,cv⟩
            case measure=>simp[intOf];omega
           |false=>
            have I:=O (b2.out (by rw[bu.out];simp));go_wp2_with (first|(go_at_call 69;refine(bx.out _ V.out.1 V.out.2.1 V.out.2.2).mono ?_;rintro e bC ⟨rfl,j⟩;have aD:=O (au.out.ex j);have bW:=O (bX.out.keep (.of_ext j) (λ_ o _=>o) (Q:=P));have bn:=O (bo.out.ext j);clear aH;have aH:=bn.out.cell;have ap:=O (aE (V.out.1.keep (.of_ext j) (λ_ o _=>o) (Q:=P)) (aE (V.out.2.1.keep (.of_ext j) (λ_ o _=>o) (Q:=P)) (V.out.2.2.keep (.of_ext j) (λ_ o _=>o) (Q:=P))));clear j au)|(go_at_call 70;refine(bN.out _ ap.out.1 ap.out.2.1 ap.out.2.2).mono ?_;rintro e b6 ⟨rfl,j⟩;have A:=O (aD.out.ex j).ext;clear j aD));go_ret;exact⟨by rw[I.out];rfl,A.out⟩
          ·have cm:(20:Int)<bj:=Qa
           have I:=O (b2.out (by rw[bu.out];simp[hd]));go_wp2_with (go_at_call 69;refine(bx.out _ V.out.1 V.out.2.1 V.out.2.2).mono ?_;rintro e bC ⟨rfl,j⟩;have A:=O (au.out.ex j).ext;clear j au);go_ret;exact⟨by rw[I.out];rfl,A.out⟩
         ·have ch: ¬(k:Int)<z.length:=Qa
          have cg:k=z.length:=Qa
          have bq:=O (bw.out (by have:=b3.out;rw[cg,bU]at this;rw[bP.out];exact this));go_wp2_with fail;go_roundw
          case rel=>exact⟨a+1,by go_num,by omega,bq,bZ⟩
          case measure=>simp[intOf];omega
    ·have aM: ¬(a:Int)<m:=Qa
     have aA:a=m:=Qa
     have br:=O (show p.fs.all oa=true by have:=aq.out;rwa [aA,aX.out,bU]at this);have aT:=O (show R=(decide (n<=20)&&decide (m<=20)&&decide ((iZ p).length<=4000)) by rw[<-aU.out,gx,bt.out,br.out,<-aW.out,<-aX.out];simp);have aN:=G.out.box.cell;clear bb aA aq aU;by_cases h20:n<=20
     ·have cp:(n:Int)<=20:=Qa
      by_cases hm20:m<=20
      ·have cf:(m:Int)<=20:=Qa
       have bQ:=O (pE p (λf cl=>kr (List.all_eq_true.1 br.out f cl)) (λv ah=>by have:=List.all_eq_true.1 bt.out v ah;unfold pd at this;simp only[ag,decide_eq_true_eq]at this;omega) P _ af B n c m d G.out.rv G.out.rf ⟨(bO.out.fb (be G.out.ext (ak _))).1,aF bO.out.2 G.out.ext.size⟩ (cu.out bt.out br.out (by have:=aW.out;omega) (by have:=aX.out;omega)));generalize iZ p=S at*;have cJ:(J S).size=S.length:=bm S;by_cases hs:S.length<=4000
       ·have cc:(S.length:Int)<=4000:=Qa
        go_wp2_with (go_at_call 57;refine bQ.out.mono ?_;rintro e b5 ⟨rfl,j⟩;have A:=O (G.out.ex j).ext;clear j);go_ret;exact⟨by rw[aT.out];simp[h20,hm20,hs,dO],A.out⟩
       ·have cc: ¬(S.length:Int)<=4000:=Qa
        go_wp2_with (go_at_call 57;refine bQ.out.mono ?_;rintro e b5 ⟨rfl,j⟩;have A:=O (G.out.ex j).ext;clear j);go_ret;exact⟨by rw[aT.out];simp[h20,hm20,hs,dO];(try omega),A.out⟩
      ·have cf: ¬(m:Int)<=20:=Qa
       have A:=O G.out.ext;go_wp2_with fail;go_ret;exact⟨by rw[aT.out];simp[h20,hm20,dO],A.out⟩
     ·have cp: ¬(n:Int)<=20:=Qa
      have A:=O G.out.ext;go_wp2_with fail;go_ret;exact⟨by rw[aT.out];simp[h20,dO],A.out⟩
theorem q_: ∀(f:Nat) (m:List UInt8) (t:List UInt8) (n:Nat),oS f m=some (t,n)->t.length+1<=n
 |0,m,t,n,h=>by cases h
 |f+1,[],t,n,h=>by cases h
 |f+1,c::r,t,n,h=>by
  simp only[oS]at h;split at h
  ·cases h;simp
  ·split at h
   ·cases h
   ·obtain⟨⟨a,j⟩,w,o⟩:=Option.map_eq_some_iff.1 h
    cases o;have:=q_ f _ a j w;show(_::a).length+1<=(cA (c::r)).2+j;rw[ah];omega
theorem xQ {c:UInt8} {r:List UInt8} {k:Int} {t:List UInt8} {v:Int} {n:Nat} (a:iF (c::r)=.ok ((k,t,v),n)):t.length<=n:=by
 simp only[iF]at a;split at a
 ·unfold kh at a;split at a
  ·cases a;rw[bN];omega
  ·split at a
   ·cases a
   ·cases a;rw[bN];omega
 ·split at a
  ·unfold ji at a;split at a
   ·cases a
   ·split at a
    ·cases a
    ·cases a;simp
  ·split at a
   ·unfold jZ at a;split at a
    ·cases a
    ·cases a;simp
   ·split at a
    ·unfold jM at a;split at a
     ·cases a
     ·rename_i j o h;split at a
      ·cases a
      ·cases a;have:=q_ _ _ _ _ h;omega
    ·unfold ja at a;split at a
     ·cases a;rw[bN];omega
     ·split at a
      ·cases a;rw[bN];omega
      ·cases a
theorem wF: ∀(f:Nat) (m:List UInt8) (j:Nat) (a:List bT),gT f m j=.ok a->dR a<=3*m.length
 |0,m,j,a,h=>by cases h;simp[dR]
 |f+1,m,j,a,h=>by
  simp only[gT]at h;split at h
  ·cases h;simp[dR]
  ·rename_i c r K;split at h
   ·cases h
   ·rename_i k t v n o;have A:=pq o;have M:=xQ o;split at h
    ·cases h
    ·rename_i w z
     cases h;have:=wF f _ _ w z;have G:(c::r).length<=m.length:=by rw[<-K,bD];omega
     rw[bD]at this;simp only[dR,ah]at this G A⊢;omega
theorem mK: ∀(f:Nat) (m:List UInt8) (j:Nat) (a:List bT),gT f m j=.ok a->a.length<=m.length
 |0,m,j,a,h=>by cases h;simp
 |f+1,m,j,a,h=>by
  simp only[gT]at h;split at h
  ·cases h;simp
  ·rename_i c r K;split at h
   ·cases h
   ·rename_i k t v n z;have A:=pq z;split at h
    ·cases h
    ·rename_i o w
     cases h;have:=mK f _ _ o w;have G:(c::r).length<=m.length:=by rw[<-K,bD];omega
     rw[bD]at this;simp only[ah]at this G A⊢;omega
theorem Cn (l:List UInt8):(gG l).1.length<=4000/\dR (gG l).1<=12000:=by
 unfold gG;split
 ·simp[dR]
 ·split
  ·rename_i j _ a h;have:=mK _ _ _ _ h;have:=wF _ _ _ _ h;show a.length<=4000/\dR a<=12000;omega
  ·simp[dR]
def lS:Pg:=⟨[],[]⟩
def vw (n:Nat) (ts:List bT):Pg×Int×Int:=match de (4*ts.length+8) lS ts with
 | .ok (p,_)=>if gx p then(p,0,0)else(lS,0,6)
 | .error (q,e)=>(lS,Gz n q,e)
def lQ (s:List UInt8):Pg×Int×Int:=if(gG s).2.2=0 then vw s.length (gG s).1 else(lS,(gG s).2.1,(gG s).2.2)
theorem AC {p:Pg} (w:jo p<=6000000) (a:p.vs.all pd=true) (h:p.fs.all oa=true) (o:p.vs.length<=20) (j:p.fs.length<=20):(iZ p).length<=1000000000:=by
 have:=zX a h o j;have:=At p;omega
theorem Aq {p:Pg} {v:Vr} (a:v∈p.vs):v.nm.length<=jo p:=by
 have:=sD (λv:Vr=>v.nm.length+1) p.vs v a;unfold jo;omega
theorem oH {p:Pg} {f:Fc} (a:f∈p.fs):f.wt<=jo p:=by
 have:=sD (λf:Fc=>f.wt+1) p.fs f a;unfold jo;omega
theorem wS {f:Fc}:f.nm.length<=f.wt:=by unfold Fc.wt;omega
theorem Ar {f:Fc} {y:List UInt8} (a:y∈f.ps):y.length<=f.wt:=by
 have:=sD (λs:List UInt8=>s.length+1) f.ps y a;unfold Fc.wt;omega
theorem Gi {f:Fc} {s:St} (a:s∈f.body):s.wt<=f.wt:=by
 have:=bO a;unfold Fc.wt;omega
theorem rV (p:Pg) (w:jo p<=6000000) (P:Nat->Prop) (a:World) (j B:Option Addr) (n c m d:Nat) (G:ik a P (.slice j n c) p.vs) (M:jl a P (.slice B m d) p.fs) (K:dP a a.heap.size):
  Calls prog 35 #[.agg #[.slice j n c,.slice B m d]] a λe w'=>e=.returned (.bool (gx p))/\az a w':=
 xF p (λv z=>by have:=Aq z;omega) P a j B n c m d
  (λf h=>⟨by have:=oH h;have:=wS (f:=f);omega,λy o=>by have:=oH h;have:=Ar o;omega,λs A=>by have:=oH h;have:=Gi A;omega⟩)
  (λX V R O=>AC w X V R O) G M K
end
section
section
variable (fn:List UInt8->Fc)
mutual
def Cb:Ex->Bool
 | .mk k op nm tx v a=>
  if k=1\/k=3 then true
  else if k=4\/k=6 then decide (1<=a.length)&&zd a
  else if k=5 then(match fp nm with
   |some (c,ls)=>decide (a.length=ls.length)&&(decide (c≠9)||a.all (λy=>y.k !=2))&&EP ls a
   |none=>decide ((fn nm).ps.length<=a.length)&&zd a)
  else if k=7 then decide (2<=a.length)&&zd a
  else false
def zd:List Ex->Bool
 | []=>true
 |y::r=>Cb y&&zd r
def EP:List UInt8->List Ex->Bool
 | _,[]=>true
 |ls,y::r=>(ls.headD 0 !=105||Cb y)&&EP ls.tail r
end
mutual
def EO:St->Bool
 | .mk k nm ex b e=>(if k=5 then decide (1<=ex.length)else if k=3 then decide (2<=ex.length)else decide (1<=k/\k<=7))&&zd fn ex&&(pG b&&pG e)
def pG:List St->Bool
 | []=>true
 |s::r=>EO s&&pG r
end
end
theorem dM {α h:Type} {x:Except Er α} {k:α->Except Er h} {b:h} (j:CR.then x k=.ok b): ∃a,x=.ok a/\k a=.ok b:=by
 cases x with
 |error e=>cases j
 |ok a=>exact⟨a,rfl,j⟩
theorem wM {fn:List UInt8->Fc}: ∀l,zd fn l=l.all (Cb fn)
 | []=>rfl
 |x::r=>by simp[zd,wM r]
theorem tw {fn:List UInt8->Fc}: ∀l,pG fn l=l.all (EO fn)
 | []=>rfl
 |x::r=>by simp[pG,tw r]
theorem H4: ∀x∈rC,x.2.1=9->x.2.2=[105,97,105]:=Qc
theorem Fv {s:List UInt8} {c:Int} {ls:List UInt8} (a:fp s=some (c,ls)) (j:c=9):ls=[105,97,105]:=by
 unfold fp at a;rw[fN]at a;obtain⟨x,h,a⟩:=a;have:=H4 x (cr h);rw[a]at this;exact this j
theorem BJ {g:Gl} {lo:Ls} {x:Ex} (a:oM g lo x=.ok ()):x.k≠2:=by
 obtain⟨k,op,nm,tx,v,h⟩:=x;intro e;simp only[Ex.k]at e;subst e;rw[oM,if_neg Qc,if_neg Qc,if_pos rfl]at a
 cases a
theorem BG {g:Gl} {lo:Ls} {nm:List UInt8} {c:Int}: ∀j:List Ex,j.length=3->oU g lo nm (some (c,[105,97,105])) 0 j=.ok ()-> ∀y∈j,y.k≠2
 | [x,y,z],_,a=>by
  rw[oU]at a;obtain⟨_,A,a⟩:=dM a;rw[oU]at a;obtain⟨_,h,a⟩:=dM a;rw[oU]at a;obtain⟨_,w,_⟩:=dM a;rw[if_pos Qe]at A w;rw[if_neg (by simp[lA])]at h;have G:y.k≠2:=by
   intro e;rw[if_pos (by simp[qE,AV,e])]at h
   cases h
  intro u o;simp only[ew,dw,or_false]at o;rcases o with rfl|rfl|rfl
  ·exact BJ A
  ·exact G
  ·exact BJ w
section
variable {g:Gl} {lo:Ls} {fn:List UInt8->Fc} (hfn: ∀s n,g.fn s=some n->(fn s).ps.length=n)
include hfn
mutual
theorem uW: ∀x:Ex,x.ok=true->oM g lo x=.ok ()->Cb fn x=true
 | .mk k op nm tx v a,h,j=>by
  rw[Ex.ok,ag]at h;rw[oM]at j;rw[Cb];by_cases h3:k=3
  ·rw[if_pos (.inr h3)]
  rw[if_neg h3]at j;by_cases h1:k=1
  ·rw[if_pos (.inl h1)]
  rw[if_neg Qa];by_cases h4:k=4
  ·subst h4;rw[if_pos rfl]at j;obtain⟨_,_,j⟩:=dM j;rw[if_pos (.inl rfl),ag];have o:=h.1;rw[if_neg Qc,if_neg Qc,if_neg Qc,if_pos rfl,ag]at o;exact⟨decide_eq_true (by have:=eq_of_beq o.2;omega),se a h.2 j⟩
  rw[if_neg h4]at j;by_cases h2:k=2
  ·rw[if_pos h2]at j;cases j
  rw[if_neg h2]at j;by_cases h5:k=5
  ·subst h5;rw[if_pos rfl]at j;rw[if_neg Qc,if_pos rfl];unfold xy at j
   cases hb:fp nm with
   |some b=>
    obtain⟨c,ls⟩:=b;rw[hb]at j;simp only at j⊢;split at j
    ·rename_i o;rw[ag,ag,bJ];refine⟨⟨decide_eq_true o.symm,?_⟩,?_⟩
     ·by_cases h9:c=9
      ·right;have G:=Fv hb h9;subst G;exact List.all_eq_true.2 λy z=>by simpa using BG a (by simpa using o.symm) j y z
      ·left;exact decide_eq_true h9
     ·have:=z_ nm c ls a h.2 0 Qa j;simpa using this
    ·cases j
   |none=>
    rw[hb]at j;simp only at j⊢;split at j
    ·cases j
    ·rename_i n A;split at j
     ·rename_i o;rw[ag];refine⟨decide_eq_true (by rw[hfn _ _ A];omega),?_⟩;exact z7 nm a h.2 0 j
     ·cases j
  rw[if_neg h5]at j;by_cases h67:k=6\/k=7
  ·rw[if_pos h67]at j;have w:=se a h.2 j;have o:=h.1;rw[if_neg h1,if_neg h2,if_neg h3,if_neg h4,if_neg h5]at o;rcases h67 with rfl|rfl
   ·rw[if_pos rfl,ag]at o;rw[if_pos (.inr rfl),ag];exact⟨decide_eq_true (by have:=eq_of_beq o.2;omega),w⟩
   ·rw[if_neg Qc,if_pos rfl,ag]at o;rw[if_neg Qc,if_neg Qc,if_pos rfl,ag];exact⟨decide_eq_true (by have:=eq_of_beq o.2;omega),w⟩
  ·have o:=h.1;rw[if_neg h1,if_neg h2,if_neg h3,if_neg h4,if_neg h5,if_neg Qa,if_neg Qa]at o
   cases o
theorem se: ∀l:List Ex,sW l=true->oL g lo l=.ok ()->zd fn l=true
 | [],_,_=>rfl
 |x::r,h,hc=>by
  rw[sW,ag]at h;rw[oL]at hc;obtain⟨_,j,a⟩:=dM hc;rw[zd,ag];exact⟨uW x h.1 j,se r h.2 a⟩
theorem z_ (nm:List UInt8) (c:Int) (ls:List UInt8): ∀l:List Ex,sW l=true-> ∀i,i+l.length<=ls.length->oU g lo nm (some (c,ls)) i l=.ok ()->EP fn (ls.drop i) l=true
 | [],_,_,_,_=>by cases h:ls.drop _<;>rfl
 |x::r,h,i,hi,hc=>by
  rw[sW,ag]at h;rw[oU]at hc;obtain⟨_,a,o⟩:=dM hc;simp only[ah]at hi;have j:=z_ nm c ls r h.2 (i+1) Qa o;rw[EP,ag,List.tail_drop];refine⟨?_,j⟩;rw[aD Qa,List.headD_cons];by_cases hh:ls[i]=105
  ·have:lA (some (c,ls)) i=true:=by
    simp only[lA];rw[bJ];right;rw[ch,aO Qa];simp[hh]
   rw[if_pos this]at a;rw[uW x h.1 a,Bool.or_true]
  ·rw[bJ];left;simp[hh]
theorem z7 (nm:List UInt8): ∀l:List Ex,sW l=true-> ∀i,oU g lo nm none i l=.ok ()->zd fn l=true
 | [],_,_,_=>rfl
 |x::r,h,i,hc=>by
  rw[sW,ag]at h;rw[oU]at hc;obtain⟨_,a,j⟩:=dM hc;rw[show lA none i=true from rfl,if_pos rfl]at a;rw[zd,ag];exact⟨uW x h.1 a,z7 nm r h.2 (i+1) j⟩
end
omit hfn in
theorem DW {g:Gl} {lo o:Ls} {k:Int} {nm:List UInt8} {w:List Ex} {b e:List St} (a:sJ g lo (.mk k nm w b e)=.ok o):oL g lo w=.ok ()/\ ∃j h,gm g j b=.ok h/\gm g h e=.ok o:=by
 rw[sJ]at a;obtain⟨_,_,a⟩:=dM a;obtain⟨_,A,a⟩:=dM a;obtain⟨j,_,a⟩:=dM a;obtain⟨h,z,a⟩:=dM a;exact⟨A,j,h,z,a⟩
mutual
theorem ES: ∀(x:St) (lo z:Ls),x.ok=true->sJ g lo x=.ok z->EO fn x=true
 | .mk k nm ex b e,lo,z,h,hc=>by
  obtain⟨w,G,A,o,j⟩:=DW hc;rw[St.ok,ag,ag,ag]at h;rw[EO,ag,ag,ag];refine⟨⟨?_,se hfn ex h.1.2 w⟩,oZ b _ _ h.2.1 o,oZ e _ _ h.2.2 j⟩;have a:=h.1.1;by_cases h5:k=5
  ·subst h5;rw[if_neg Qc,if_neg Qc,if_neg Qc,if_neg Qc,if_pos rfl,ag,ag]at a;rw[if_pos rfl];exact decide_eq_true (by have:=eq_of_beq a.1.2;omega)
  rw[if_neg h5];by_cases j:k=3
  ·subst j;rw[if_neg Qc,if_neg Qc,if_pos rfl,ag,ag,ag]at a;rw[if_pos rfl];exact decide_eq_true (by have:=eq_of_beq a.1.1.2;omega)
  rw[if_neg j];refine decide_eq_true ?_;by_cases w:k=1
  ·omega
  by_cases o:k=2
  ·omega
  by_cases h4:k=4
  ·omega
  by_cases h6:k=6
  ·omega
  by_cases h7:k=7
  ·omega
  rw[if_neg w,if_neg o,if_neg j,if_neg h4,if_neg h5,if_neg h6,if_neg h7]at a
  cases a
theorem oZ: ∀(l:List St) (lo a:Ls),qv l=true->gm g lo l=.ok a->pG fn l=true
 | [],_,_,_,_=>rfl
 |x::r,lo,a,h,hc=>by
  rw[qv,ag]at h;rw[gm]at hc;obtain⟨w,o,j⟩:=dM hc;rw[pG,ag];exact⟨ES x _ _ h.1 o,oZ r _ _ h.2 j⟩
end
end
theorem rX: ∀(vs:List Vr) (g a:Gl),kP g vs=.ok a->a.fn=g.fn
 | [],g,a,h=>by cases h;rfl
 |v::r,g,a,h=>by
  rw[kP]at h;split at h
  ·cases h
  ·rw[rX r _ _ h];unfold Gl.addV;split<;>rfl
theorem rY: ∀(o:List Fc) (g a:Gl),jq g o=.ok a-> ∀s,a.fn s=match o.find? (λf=>decide (s=f.nm))with|some f=>some f.ps.length|none=>g.fn s
 | [],g,a,h,s=>by cases h;rfl
 |f::r,g,a,h,s=>by
  rw[jq]at h;split at h
  ·cases h
  ·rename_i w;rw[rY r _ _ h s,li];by_cases hs:s=f.nm
   ·rw[decide_eq_true hs];simp only;have z:r.find? (λf=>decide (s=f.nm))=none:=by
     cases hr:r.find? (λf=>decide (s=f.nm))with
     |none=>rfl
     |some f2=>exact absurd h (by
       have j:=cr hr;have A:s=f2.nm:=by have:=List.find?_some hr;simpa using this
       exact topF_dup r (g.addF f) a f2 j (by simp[Gl.addF,<-A,hs]))
    rw[z];simp[Gl.addF,hs]
   ·rw[decide_eq_false hs];simp only;split
    ·rfl
    ·simp[Gl.addF,hs]
where topF_dup: ∀(o:List Fc) (g a:Gl) (f:Fc),f∈o->(g.fn f.nm).isSome=true->jq g o≠ .ok a
 |f2::r,g,a,f,j,hs,h=>by
  rw[jq]at h;split at h
  ·cases h
  ·rename_i w;rcases List.mem_cons.1 j with rfl|j
   ·apply w;unfold Gl.known;rw[hs];simp
   ·exact topF_dup r _ a f j (by unfold Gl.addF;simp only;split;rfl;exact hs) h
theorem l6: ∀(h:List Fc) (s:List UInt8),jA h s=((h.find? (λf=>decide (s=f.nm))).getD ⟨[],[],[]⟩)
 | [],s=>rfl
 |f::r,s=>by
  rw[jA,li];split
  ·rename_i a;rw[decide_eq_true a];rfl
  ·rename_i a;rw[decide_eq_false a];exact l6 r s
theorem wB {p:Pg} {g:Gl} (a:ng p=.ok g): ∀s,g.fn s=(p.fs.find? (λf=>decide (s=f.nm))).map (·.ps.length):=by
 unfold ng at a;obtain⟨w,j,a⟩:=dM a;obtain⟨o,h,a⟩:=dM a;have:o=g:=by
  split at a
  ·cases a
  ·split at a
   ·cases a
   ·cases a;rfl
 subst this;intro s;rw[rY _ _ _ h s,rX _ _ _ j]
 cases p.fs.find? _<;>rfl
theorem xJ {p:Pg} {g:Gl} (a:ng p=.ok g):(jA p.fs bW).ps=[]/\ ∃f∈p.fs,jA p.fs bW=f:=by
 have h:=wB a bW;unfold ng at a;obtain⟨K,G,a⟩:=dM a;obtain⟨j,A,a⟩:=dM a;have:j=g/\j.fn bW=some 0:=by
  split at a
  ·cases a
  ·rename_i n o;split at a
   ·cases a
   ·cases a;exact⟨rfl,by rw[o,show n=0 by omega]⟩
 obtain⟨rfl,z⟩:=this;rw[z]at h
 cases hx:p.fs.find? (λf=>decide (bW=f.nm))with
 |none=>rw[hx]at h;cases h
 |some f=>
  rw[hx]at h;have w:f.ps.length=0:=by simpa using h.symm
  refine⟨?_,f,cr hx,?_⟩
  ·rw[l6,hx];exact ax w
  ·rw[l6,hx];rfl
theorem uj {g:Gl}: ∀(j:List Fc) (f:Fc),f∈j->ky g j=.ok ()-> ∃lo h,gm g lo f.body=.ok h
 |f2::r,f,hm,a=>by
  rw[ky]at a;obtain⟨lo,_,a⟩:=dM a;obtain⟨h,o,a⟩:=dM a;rcases List.mem_cons.1 hm with rfl|hm
  ·exact⟨lo,h,o⟩
  ·exact uj r f hm a
theorem tB {p:Pg} (j:gx p=true) (h:ig p=.ok ()):(jA p.fs bW).ps=[]/\ ∀s,pG (jA p.fs) (jA p.fs s).body=true:=by
 unfold ig at h;obtain⟨g,w,h⟩:=dM h;obtain⟨_,G,h⟩:=dM h;refine⟨(xJ w).1,λs=> ?_⟩;rw[l6 p.fs s]
 cases hx:p.fs.find? (λf=>decide (s=f.nm))with
 |none=>rfl
 |some f=>
  have o:=cr hx;obtain⟨lo,z,A⟩:=uj _ _ o G;unfold gx at j;simp only[ag]at j;refine oZ (λs n a=> ?_) f.body lo z (kr (List.all_eq_true.1 j.1.1.1.2 f o)) A;rw[wB w]at a;rw[l6]
  cases hy:p.fs.find? (λf=>decide (s=f.nm))with
  |none=>rw[hy]at a;cases a
  |some f3=>rw[hy]at a;simpa using a
end
section
structure xD (R:Rs) (Q:Ms->Prop):Prop where
 step: ∀s,Q s->Q s.step
 used: ∀s,Q s->s.used<R.length->Q {s with used:=s.used+1}
 setI: ∀s nm v,Q s->Q (s.setI nm v)
 setA: ∀s nm v,Q s->Q (s.setA nm v)
 stk: ∀s k,Q s->Q {s with stk:=k}
def qq (Q:Ms->Prop) {α:Type} (r:ER α):Prop:=match r with
 | .ok (_,s)=>Q s
 | .error o=> ∃s,Q s/\o.used=s.used
theorem qq.then {Q:Ms->Prop} {α h:Type} {r:ER α} {k:α->Ms->ER h} (a:qq Q r) (j: ∀w s,Q s->qq Q (k w s)):qq Q (r.then k):=by
 cases r with
 |error o=>exact a
 |ok p=>exact j _ _ a
theorem qq.err {Q:Ms->Prop} {α:Type} {s:Ms} {a:Oc} (j:Q s) (h:a.used=s.used):qq Q (.error a:ER α):=⟨s,j,h⟩
section
variable {R:Rs} {Q:Ms->Prop} (hQ:xD R Q)
include hQ
theorem uR {s:Ms} {c j b d:Int} {l:List UInt8} (a:Q s):qq Q (gZ R s c j b d l):=by
 unfold gZ;split
 ·exact .err a rfl
 ·rename_i r h;exact hQ.used s a (List.getElem?_eq_some_iff.1 h).1
omit hQ in
theorem pi {E:Ms->Ex->ER Int} (j: ∀s x,Q s->qq Q (E s x)): ∀(ls:List UInt8) (h:List Ex) (vs:List Int) (la:Int) (d:Dt) (s:Ms),Q s->qq Q (eO E ls h vs la d s)
 |c::ls,y::h,vs,la,d,s,a=>by
  rw[eO];split
  ·exact(j s y a).then λv s a=>pi j ls h _ _ _ s a
  ·split
   ·exact pi j ls h _ _ _ s a
   ·exact pi j ls h _ _ _ s a
 | [],_,vs,la,d,s,a=>a
 | _::_,[],vs,la,d,s,a=>a
theorem E5 {s:Ms} {n:Nat} {r:List UInt8} (a:Q s): ∀d:Dt,Q (d.put s n r)
 | .no=>a
 | .txt _=>a
 | .arr _=>hQ.setA _ _ _ a
theorem BS {E:Ms->Ex->ER Int} (j: ∀s x,Q s->qq Q (E s x)) (c:Int) (ls:List UInt8) (h:List Ex) (s:Ms) (a:Q s):qq Q (qf R E s c ls h):=by
 unfold qf oV;refine(pi j ls h [] 0 .no s a).then λp s a=> ?_;split
 ·exact(uR hQ a).then λr s a=>a
 ·split
  ·exact .err a rfl
  ·split
   ·exact(uR hQ a).then λr s a=>a
   ·exact(uR hQ a).then λr s a=>E5 hQ a _
omit hQ in
theorem vW {E:Ms->Ex->ER Int} (h: ∀s x,Q s->qq Q (E s x)): ∀(j:List Ex) (vs:List Int) (s:Ms),Q s->qq Q (xo E vs s j)
 | [],vs,s,a=>a
 |y::r,vs,s,a=>(h s y a).then λv s a=>vW h r _ s a
omit hQ in
theorem pz {S:Ms->Lo->St->m7} (h: ∀s l x,Q s->qq Q (S s l x)): ∀(j:List St) (l:Lo) (s:Ms),Q s->qq Q (nO S s l j)
 | [],l,s,a=>a
 |y::r,l,s,a=>by
  rw[nO];refine(h s l y a).then λp s a=> ?_;split
  ·exact a
  ·exact pz h r _ s a
theorem BN {S:Ms->Lo->St->m7} (h: ∀s l x,Q s->qq Q (S s l x)) (f:Fc) (vs:List Int) (s:Ms) (a:Q s):qq Q (gK S f vs s):=by
 unfold gK;split
 ·exact .err a rfl
 ·exact(pz h f.body _ _ (hQ.stk _ _ a)).then λp s a=>hQ.stk _ _ a
omit hQ in
theorem BV (op:List UInt8) (h b:Int) (s:Ms) (a:Q s):qq Q (kA op h b s):=by
 unfold kA;repeat' split
 all_goals first|exact a|exact .err a rfl
theorem ua {C:Cx} (w:C.R=R): ∀n,(∀s l x,Q s->qq Q (ev C n s l x))/\(∀s l x,Q s->qq Q (st C n s l x))/\(∀s l c b,Q s->qq Q (wh C n s l c b))
 |0=>⟨λs l x a=> .err a rfl,λs l x a=> .err a rfl,λs l c b a=> .err a rfl⟩
 |n+1=>by
  obtain⟨j,o,z⟩:=ua w n;refine⟨λs l x a=> ?_,λs l x a=> ?_,λs l c b a=> ?_⟩
  ·have h:=hQ.step s a;rw[ev];split
   ·exact .err a rfl
   split
   ·exact h
   split
   ·exact h
   split
   ·refine(j _ l _ h).then λi s a=> ?_;split
    ·exact a
    ·exact .err a rfl
   split
   ·split
    ·rw[w];exact BS hQ (λs x a=>j s l x a) _ _ _ _ h
    ·exact(vW (λs x a=>j s l x a) _ _ _ h).then λvs s a=>BN hQ (λs l x a=>o s l x a) _ _ _ a
   split
   ·refine(j _ l _ h).then λi s a=> ?_;split<;>exact a
   ·refine(j _ l _ h).then λi s a=> ?_;split
    ·exact a
    split
    ·exact a
    refine(j _ l _ a).then λA s a=> ?_;split
    ·exact a
    ·exact BV _ _ _ _ a
  ·have h:=hQ.step s a;rw[st];split
   ·exact .err a rfl
   split
   ·exact z _ _ _ _ h
   refine qq.then (by split;exact h;exact j _ _ _ h) λv s a=> ?_;split
   ·exact a
   split
   ·split
    ·exact a
    ·exact hQ.setI _ _ _ a
   split
   ·refine(j _ l _ a).then λu s a=> ?_;split
    ·exact hQ.setA _ _ _ a
    ·exact .err a rfl
   split
   ·exact pz (λs l x a=>o s l x a) _ _ _ a
   split<;>exact a
  ·rw[wh];refine(j _ l _ a).then λv s a=> ?_;split
   ·exact a
   refine(pz (λs l x a=>o s l x a) _ _ _ a).then λp s a=> ?_;split
   ·exact a
   ·exact z _ _ _ _ a
end
theorem jY (h:Rs) (m:Nat):xD h (λs=>s.left<=m):=⟨λs a=>by show s.left-1<=m;omega,λs a _=>a,λs _ _ a=>a,λs _ _ a=>a,λs _ a=>a⟩
theorem ph {C:Cx} {n:Nat} {s a:Ms} {l:Lo} {x:Ex} {v:Int} (h:ev C n s l x=.ok (v,a)):a.left<=s.left:=by
 have:=(ua (jY C.R s.left) rfl n).1 s l x (ak _);rw[h]at this;exact this
theorem CC {C:Cx} {n:Nat} {s a:Ms} {l:Lo} {x:St} {v:Option Int×Lo} (h:st C n s l x=.ok (v,a)):a.left<=s.left:=by
 have:=(ua (jY C.R s.left) rfl n).2.1 s l x (ak _);rw[h]at this;exact this
end
end Go.Proofs.YtddomeddabfinaaGreatDoor
