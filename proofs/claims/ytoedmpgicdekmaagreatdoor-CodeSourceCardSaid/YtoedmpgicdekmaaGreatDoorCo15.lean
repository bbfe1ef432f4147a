/- Parts of the proof. -/
import Derived.Test.YtoedmpgicdekmaaGreatDoorCo13
import Derived.Test.YtoedmpgicdekmaaGreatDoorCo14
set_option maxRecDepth 100000
set_option maxHeartbeats 8000000
set_option linter.all false
namespace Go.Proofs.YtoedmpgicdekmaaGreatDoor
open IntKind(i64)
open Go.Proofs.Tryz
section
open Go.RowKit
theorem uy (i:Nat) (d:i<=1000000000) (a:World):Calls prog 173 #[.string ⟨#[9]⟩,.int i64 (i:Int)] a λe w'=>e=.returned (.string (Z (lG i)))/\au a w':=by
 refine(Tryz.strings_Repeat ⟨#[9]⟩ i a J (by show 1*i<=_;omega)).mono ?_;rintro e w' ⟨rfl,d⟩;refine⟨?_,d⟩;have:=Lib.repeatL_replicate 9 1 i;rw[lP]at this;rw[show((⟨#[9]⟩:ByteArray).data.toList)=List.replicate 1 9 from rfl,this];rfl
structure PB (b:Nat) (w0:World) (P:Nat->Prop) (v:Value) (xs:List St) (l:List UInt8) (W:World):Prop where
 bu:Bu W b l
 rd:eq W P v xs
 fb:FB b w0 W
 tab:ew W b
 hP: ∀k,P k->k<b
section
variable {b:Nat} {w0 W W':World} {P:Nat->Prop} {v:Value} {xs:List St} {l l':List UInt8}
theorem PB.wr (a:PB b w0 P v xs l W) (o:Bu W' b l') (d:FB b W W'):PB b w0 P v xs l' W':=⟨o,a.rd.keep (d.keepP a.hP) (λ_ h _=>h),a.fb.trans d,a.tab.fb d,a.hP⟩
theorem PB.ex (a:PB b w0 P v xs l W) (d:au W W'):PB b w0 P v xs l W':=a.wr (a.bu.ext d) (aW d (aG a.bu.lt))
end
theorem JX (nm:List UInt8) (V:List St) (w:Ex) (aK:pY w) (aB:mS V) (P:Nat->Prop) (a:World) (aJ B C:Option Addr) (n c z R aw ah b i:Nat) (l:List UInt8) (am:dS a P (.slice aJ n c) [w]) (aH:eq a P (.slice B z R) V) (ax:eq a P (.slice C aw ah) []) (o: ∀k,P k->k<b) (aD:ew a b) (ad:Bu a b l) (S:List UInt8) (aE:eQ (.mk 4 nm [w] V []) i=S) (aU:l.length+S.length<=1000000000):
  Calls prog 217 #[.pointer (some ⟨b,0,none⟩),.agg #[.int i64 4,.string (Z nm),.slice aJ n c,.slice B z R,.slice C aw ah],.int i64 (i:Int)] a λe w'=>e=.returned (.tuple #[])/\Bu w' b (l++S)/\FB b a w':=by
 have aI:=G (show[105,102,32]++de w++[32]++gC i (cu V (i+1))++[]=S from by rw[<-aE];simp[eQ,l5,cu,f7,py,Hi,qs]);have aT:3+(de w).length+1+(gC i (cu V (i+1))).length+0=S.length:=by rw[<-aI.out];simp only[H,ag,ai]
 clear aE;have az:=ax.len;simp only[ag,ai]at az;obtain rfl:aw=0:=az;have aA:=am.len;simp only[ag,ai]at aA;obtain rfl:n=1:=aA;obtain⟨b0,u,a0,aM,A,F,av,au,ar,ap,ao,an,al⟩:=am.at_ 0 Qe;simp only[aF,aP,aY,bx,cE]at av au ar ap ao an al;obtain⟨aS,aN,rfl,_⟩:=al.form;have X:=G (aC av (aC au (aC ar (aC ap (aC ao an)))));have aR:=G al;clear av au ar ap ao an al;subst aM;have d:=G (show PS b a.heap.size a P #[.int i64 4,.string (Z nm),.slice (some ⟨b0,u,none⟩) 1 c,.slice B z R,.slice C 0 ah] (.slice (some ⟨b0,u,none⟩) 1 c) (.slice B z R) (.slice C 0 ah) (.mk 4 nm [w] V []) l _ from⟨aq a 147 #[.int i64 4,.string (Z nm),.slice (some ⟨b0,u,none⟩) 1 c,.slice B z R,.slice C 0 ah],ad.ext (aa a _),am.keep (.of_ext (aa a _)) (λ_ y _=>y),aH.keep (.of_ext (aa a _)) (λ_ y _=>y),ax.keep (.of_ext (aa a _)) (λ_ y _=>y),aW (aa a _) (aG ad.lt),aD.fb (aW (aa a _) (aG ad.lt)),bW ad.lt,by decide,o⟩);have aj:=d.out.box.cell;clear ad am aD aH ax;unfold mS at aB;go_enter func217,ntmps217;have e0:=(d.out.fb.keepP o).cell (u) F A|>.trans X.out.1;have a2:=(d.out.fb.keepP o).cell (u+1) F A|>.trans X.out.2.1;have a1:=(d.out.fb.keepP o).cell (u+2) F A|>.trans X.out.2.2.1;have aZ:=(d.out.fb.keepP o).cell (u+3) F A|>.trans X.out.2.2.2.1;have aX:=(d.out.fb.keepP o).cell (u+4) F A|>.trans X.out.2.2.2.2.1;have aV:=(d.out.fb.keepP o).cell (u+5) F A|>.trans X.out.2.2.2.2.2;go_wp2_with (first|(go_at_call 216;refine(fG w aK [105,102,32] [32] P _ aS _ aN b l (aR.out.keep (d.out.fb.keepP o) (λ_ y _=>y)) o d.out.tab d.out.bu (by(try have aQ:=Hzc1.out);(try have aO:=Hzc2.out);simp only[H,ag,ai];omega)).mono ?_;rintro e u1 ⟨rfl,af,ae⟩;have I:=G (d.out.wr af ae);clear af ae d;clear aj;have aj:=I.out.box.cell)|(go_at_call 121;refine(aB P _ B z R b i (l++([105,102,32]++de w++[32])) I.out.rb o I.out.tab I.out.bu (by(try have aQ:=Hzc1.out);(try have aO:=Hzc2.out);simp only[H,ag,ai];omega)).mono ?_;rintro e u2 ⟨rfl,af,ae⟩;have ay:=G (I.out.wr af ae);clear af ae I;clear aj;have aj:=ay.out.box.cell));first|go_end0|((try simp only[Exit.inBlock,Exit.then]);refine bodyPost_ret (results_none rfl _ _ _) rfl ?_)
 exact⟨rfl,by rw[<-aI.out];have:=ay.out.bu;simpa[aL]using this,ay.out.fb⟩
theorem JW (nm:List UInt8) (ae:List St) (R:Ex) (bd:pY R) (a1:mS ae) (s:St) (aZ:s.k=4) (aR:xP s) (P:Nat->Prop) (d:World) (bc B C:Option Addr) (n c af am aQ ar b i:Nat) (l:List UInt8) (az:dS d P (.slice bc n c) [R]) (a4:eq d P (.slice B af am) ae) (ay:eq d P (.slice C aQ ar) [s]) (a: ∀k,P k->k<b) (a2:ew d b) (ap:Bu d b l) (S:List UInt8) (a3:eQ (.mk 4 nm [R] ae [s]) i=S) (bt:l.length+S.length<=1000000000):
  Calls prog 217 #[.pointer (some ⟨b,0,none⟩),.agg #[.int i64 4,.string (Z nm),.slice bc n c,.slice B af am,.slice C aQ ar],.int i64 (i:Int)] d λe w'=>e=.returned (.tuple #[])/\Bu w' b (l++S)/\FB b d w':=by
 have ba:=G (show[105,102,32]++de R++[32]++gC i (cu ae (i+1))++([32,101,108,115,101,32]++eQ s i)=S from by rw[<-a3];simp[eQ,l5,cu,f7,py,Hi,qs,aZ]);have br:3+(de R).length+1+(gC i (cu ae (i+1))).length+(6+(eQ s i).length)=S.length:=by rw[<-ba.out];simp only[H,ag,ai]
 clear a3;have aV:=ay.len;simp only[ag,ai]at aV;obtain rfl:aQ=1:=aV;obtain⟨bs,o,bq,bp,sz,be,V,X,aO,aN,aM,aK,aJ,av,aw,au⟩:=ay.at_ 0 Qe;simp only[aF,aY,bx]at aO aN aM aK aJ av aw au;obtain⟨bl,bi,rfl,_⟩:=av.form;obtain⟨bn,bj,rfl,_⟩:=aw.form;obtain⟨bm,bh,rfl,_⟩:=au.form;subst be;have F:=G (aC aO (aC aN (aC aM (aC aK aJ))));have aU:=G (aC av (aC aw au));clear aO aN aM aK aJ av aw au;have aX:=az.len;simp only[ag,ai]at aX;obtain rfl:n=1:=aX;obtain⟨b0,I,a0,bf,aj,al,aI,aH,aE,aD,aB,aA,ax⟩:=az.at_ 0 Qe;simp only[aF,aP,aY,bx,cE]at aI aH aE aD aB aA ax;obtain⟨bo,bg,rfl,_⟩:=ax.form;have an:=G (aC aI (aC aH (aC aE (aC aD (aC aB aA)))));have bk:=G ax;clear aI aH aE aD aB aA ax;subst bf;have y:=G (show PS b d.heap.size d P #[.int i64 4,.string (Z nm),.slice (some ⟨b0,I,none⟩) 1 c,.slice B af am,.slice (some ⟨bs,o,none⟩) 1 ar] (.slice (some ⟨b0,I,none⟩) 1 c) (.slice B af am) (.slice (some ⟨bs,o,none⟩) 1 ar) (.mk 4 nm [R] ae [s]) l _ from⟨aq d 147 #[.int i64 4,.string (Z nm),.slice (some ⟨b0,I,none⟩) 1 c,.slice B af am,.slice (some ⟨bs,o,none⟩) 1 ar],ap.ext (aa d _),az.keep (.of_ext (aa d _)) (λ_ u _=>u),a4.keep (.of_ext (aa d _)) (λ_ u _=>u),ay.keep (.of_ext (aa d _)) (λ_ u _=>u),aW (aa d _) (aG ap.lt),a2.fb (aW (aa d _) (aG ap.lt)),bW ap.lt,by decide,a⟩);have ah:=y.out.box.cell;clear ap az a2 a4 ay;unfold mS at a1;unfold xP at aR;rw[aZ]at F aR;go_enter func217,ntmps217;have e0:=(y.out.fb.keepP a).cell (I) al aj|>.trans an.out.1;have bB:=(y.out.fb.keepP a).cell (I+1) al aj|>.trans an.out.2.1;have bA:=(y.out.fb.keepP a).cell (I+2) al aj|>.trans an.out.2.2.1;have bz:=(y.out.fb.keepP a).cell (I+3) al aj|>.trans an.out.2.2.2.1;have bw:=(y.out.fb.keepP a).cell (I+4) al aj|>.trans an.out.2.2.2.2.1;have bv:=(y.out.fb.keepP a).cell (I+5) al aj|>.trans an.out.2.2.2.2.2;go_wp2_with (first|(go_at_call 216;refine(fG R bd [105,102,32] [32] P _ bo _ bg b l (bk.out.keep (y.out.fb.keepP a) (λ_ u _=>u)) a y.out.tab y.out.bu (by(try have aT:=Hzc1.out);(try have aS:=Hzc2.out);simp only[H,ag,ai];omega)).mono ?_;rintro e u1 ⟨rfl,A,z⟩;have ao:=G (y.out.wr A z);clear A z y;clear ah;have ah:=ao.out.box.cell)|(go_at_call 121;refine(a1 P _ B af am b i (l++([105,102,32]++de R++[32])) ao.out.rb a ao.out.tab ao.out.bu (by(try have aT:=Hzc1.out);(try have aS:=Hzc2.out);simp only[H,ag,ai];omega)).mono ?_;rintro e u2 ⟨rfl,A,z⟩;have ad:=G (ao.out.wr A z);clear A z ao;clear ah;have ah:=ad.out.box.cell;have a9:=(ad.out.fb.keepP a).cell (o) X V|>.trans F.out.1;have a8:=(ad.out.fb.keepP a).cell (o+1) X V|>.trans F.out.2.1;have a7:=(ad.out.fb.keepP a).cell (o+2) X V|>.trans F.out.2.2.1;have a6:=(ad.out.fb.keepP a).cell (o+3) X V|>.trans F.out.2.2.2.1;have a5:=(ad.out.fb.keepP a).cell (o+4) X V|>.trans F.out.2.2.2.2)|(go_at_call 118;refine(c_ b ((l++([105,102,32]++de R++[32]))++gC i (cu ae (i+1))) [32,101,108,115,101,32] _ ad.out.bu (by(try have aT:=Hzc1.out);(try have aS:=Hzc2.out);(try simp only[H,ag,ai]);omega)).mono ?_;rintro e u3 ⟨rfl,A,z⟩;have w:=G (ad.out.wr A z);clear A z ad;clear ah;have ah:=w.out.box.cell;clear a9 a8 a7 a6 a5;have a9:=(w.out.fb.keepP a).cell (o) X V|>.trans F.out.1;have a8:=(w.out.fb.keepP a).cell (o+1) X V|>.trans F.out.2.1;have a7:=(w.out.fb.keepP a).cell (o+2) X V|>.trans F.out.2.2.1;have a6:=(w.out.fb.keepP a).cell (o+3) X V|>.trans F.out.2.2.2.1;have a5:=(w.out.fb.keepP a).cell (o+4) X V|>.trans F.out.2.2.2.2)|(go_at_call 217;refine(aR P _ bl bn bm _ bi _ bj _ bh b i (((l++([105,102,32]++de R++[32]))++gC i (cu ae (i+1)))++[32,101,108,115,101,32]) (aU.out.1.keep (w.out.fb.keepP a) (λ_ u _=>u)) (aU.out.2.1.keep (w.out.fb.keepP a) (λ_ u _=>u)) (aU.out.2.2.keep (w.out.fb.keepP a) (λ_ u _=>u)) a w.out.tab w.out.bu (by(try have aT:=Hzc1.out);(try have aS:=Hzc2.out);(try simp only[H,ag,ai]);omega)).mono ?_;rintro e u4 ⟨rfl,A,z⟩;have bb:=G (w.out.wr A z);clear A z w));first|go_end0|((try simp only[Exit.inBlock,Exit.then]);refine bodyPost_ret (results_none rfl _ _ _) rfl ?_)
 exact⟨rfl,by rw[<-ba.out];have:=bb.out.bu;simpa[aL]using this,bb.out.fb⟩
theorem JV (nm:List UInt8) (R:List St) (y:Ex) (a7:pY y) (aZ:mS R) (s:St) (aV:s.k≠4) (aX:mS [s]) (P:Nat->Prop) (a:World) (a6 B C:Option Addr) (n c I aj aQ ah b i:Nat) (l:List UInt8) (az:dS a P (.slice a6 n c) [y]) (a3:eq a P (.slice B I aj) R) (ay:eq a P (.slice C aQ ah) [s]) (d: ∀k,P k->k<b) (a1:ew a b) (ap:Bu a b l) (S:List UInt8) (a2:eQ (.mk 4 nm [y] R [s]) i=S) (bh:l.length+S.length<=1000000000):
  Calls prog 217 #[.pointer (some ⟨b,0,none⟩),.agg #[.int i64 4,.string (Z nm),.slice a6 n c,.slice B I aj,.slice C aQ ah],.int i64 (i:Int)] a λe w'=>e=.returned (.tuple #[])/\Bu w' b (l++S)/\FB b a w':=by
 have a4:=G (show[105,102,32]++de y++[32]++gC i (cu R (i+1))++([32,101,108,115,101,32]++gC i (cu [s] (i+1)))=S from by rw[<-a2];simp[eQ,l5,cu,f7,py,Hi,qs,aV]);have bg:3+(de y).length+1+(gC i (cu R (i+1))).length+(6+(gC i (cu [s] (i+1))).length)=S.length:=by rw[<-a4.out];simp only[H,ag,ai]
 clear a2;have aT:=ay.len;simp only[ag,ai]at aT;obtain rfl:aQ=1:=aT;obtain⟨bs,z,be,bd,sz,a8,an,ao,aO,aN,aM,aK,aJ,av,aw,au⟩:=ay.at_ 0 Qe;simp only[aF,aY,bx]at aO aN aM aK aJ av aw au;obtain⟨bA,bv,rfl,_⟩:=av.form;obtain⟨bC,bw,rfl,_⟩:=aw.form;obtain⟨bB,bt,rfl,_⟩:=au.form;subst a8;have ar:=G (aC aO (aC aN (aC aM (aC aK aJ))));have bz:=G (aC av (aC aw au));clear aO aN aM aK aJ av aw au;have aU:=az.len;simp only[ag,ai]at aU;obtain rfl:n=1:=aU;obtain⟨b0,A,a0,a9,ae,af,aI,aH,aE,aD,aB,aA,ax⟩:=az.at_ 0 Qe;simp only[aF,aP,aY,bx,cE]at aI aH aE aD aB aA ax;obtain⟨bc,ba,rfl,_⟩:=ax.form;have al:=G (aC aI (aC aH (aC aE (aC aD (aC aB aA)))));have bb:=G ax;clear aI aH aE aD aB aA ax;subst a9;have o:=G (show PS b a.heap.size a P #[.int i64 4,.string (Z nm),.slice (some ⟨b0,A,none⟩) 1 c,.slice B I aj,.slice (some ⟨bs,z,none⟩) 1 ah] (.slice (some ⟨b0,A,none⟩) 1 c) (.slice B I aj) (.slice (some ⟨bs,z,none⟩) 1 ah) (.mk 4 nm [y] R [s]) l _ from⟨aq a 147 #[.int i64 4,.string (Z nm),.slice (some ⟨b0,A,none⟩) 1 c,.slice B I aj,.slice (some ⟨bs,z,none⟩) 1 ah],ap.ext (aa a _),az.keep (.of_ext (aa a _)) (λ_ V _=>V),a3.keep (.of_ext (aa a _)) (λ_ V _=>V),ay.keep (.of_ext (aa a _)) (λ_ V _=>V),aW (aa a _) (aG ap.lt),a1.fb (aW (aa a _) (aG ap.lt)),bW ap.lt,by decide,d⟩);have ad:=o.out.box.cell;clear ap az a1 a3 ay;unfold mS at aZ;unfold mS at aX;have bf:(s.k==4)=false:=by rw[Qn];exact aV
 go_enter func217,ntmps217;have e0:=(o.out.fb.keepP d).cell (A) af ae|>.trans al.out.1;have br:=(o.out.fb.keepP d).cell (A+1) af ae|>.trans al.out.2.1;have bq:=(o.out.fb.keepP d).cell (A+2) af ae|>.trans al.out.2.2.1;have bp:=(o.out.fb.keepP d).cell (A+3) af ae|>.trans al.out.2.2.2.1;have bo:=(o.out.fb.keepP d).cell (A+4) af ae|>.trans al.out.2.2.2.2.1;have bn:=(o.out.fb.keepP d).cell (A+5) af ae|>.trans al.out.2.2.2.2.2;go_wp2_with (first|(go_at_call 216;refine(fG y a7 [105,102,32] [32] P _ bc _ ba b l (bb.out.keep (o.out.fb.keepP d) (λ_ V _=>V)) d o.out.tab o.out.bu (by(try have aS:=Hzc1.out);(try have aR:=Hzc2.out);simp only[H,ag,ai];omega)).mono ?_;rintro e u1 ⟨rfl,w,u⟩;have am:=G (o.out.wr w u);clear w u o;clear ad;have ad:=am.out.box.cell)|(go_at_call 121;refine(aZ P _ B I aj b i (l++([105,102,32]++de y++[32])) am.out.rb d am.out.tab am.out.bu (by(try have aS:=Hzc1.out);(try have aR:=Hzc2.out);simp only[H,ag,ai];omega)).mono ?_;rintro e u2 ⟨rfl,w,u⟩;have F:=G (am.out.wr w u);clear w u am;clear ad;have ad:=F.out.box.cell;have bm:=(F.out.fb.keepP d).cell (z) ao an|>.trans ar.out.1;have bl:=(F.out.fb.keepP d).cell (z+1) ao an|>.trans ar.out.2.1;have bk:=(F.out.fb.keepP d).cell (z+2) ao an|>.trans ar.out.2.2.1;have bj:=(F.out.fb.keepP d).cell (z+3) ao an|>.trans ar.out.2.2.2.1;have bi:=(F.out.fb.keepP d).cell (z+4) ao an|>.trans ar.out.2.2.2.2)|(go_at_call 118;refine(c_ b ((l++([105,102,32]++de y++[32]))++gC i (cu R (i+1))) [32,101,108,115,101,32] _ F.out.bu (by(try have aS:=Hzc1.out);(try have aR:=Hzc2.out);(try simp only[H,ag,ai]);omega)).mono ?_;rintro e u3 ⟨rfl,w,u⟩;have X:=G (F.out.wr w u);clear w u F;clear ad;have ad:=X.out.box.cell)|(go_at_call 121;guard_hyp X;refine(aX P _ (some ⟨bs,z,none⟩) 1 ah b i (((l++([105,102,32]++de y++[32]))++gC i (cu R (i+1)))++[32,101,108,115,101,32]) X.out.rl d X.out.tab X.out.bu (by(try have aS:=Hzc1.out);(try have aR:=Hzc2.out);(try simp only[H,ag,ai]);omega)).mono ?_;rintro e u4 ⟨rfl,w,u⟩;have a5:=G (X.out.wr w u);clear w u X));first|go_end0|((try simp only[Exit.inBlock,Exit.then]);refine bodyPost_ret (results_none rfl _ _ _) rfl ?_)
 exact⟨rfl,by rw[<-a4.out];have:=a5.out.bu;simpa[aL]using this,a5.out.fb⟩
theorem JU (nm:List UInt8) (F:List St) (y:Ex) (aT:pY y) (aK:mS F) (X V:St) (r:List St) (aJ:mS (X::V::r)) (P:Nat->Prop) (a:World) (aS B C:Option Addr) (n c I aj A ah b i:Nat) (l:List UInt8) (ar:dS a P (.slice aS n c) [y]) (aO:eq a P (.slice B I aj) F) (aB:eq a P (.slice C A ah) (X::V::r)) (o: ∀k,P k->k<b) (aM:ew a b) (ao:Bu a b l) (S:List UInt8) (aN:eQ (.mk 4 nm [y] F (X::V::r)) i=S) (a5:l.length+S.length<=1000000000):
  Calls prog 217 #[.pointer (some ⟨b,0,none⟩),.agg #[.int i64 4,.string (Z nm),.slice aS n c,.slice B I aj,.slice C A ah],.int i64 (i:Int)] a λe w'=>e=.returned (.tuple #[])/\Bu w' b (l++S)/\FB b a w':=by
 have aQ:=G (show[105,102,32]++de y++[32]++gC i (cu F (i+1))++([32,101,108,115,101,32]++gC i (cu (X::V::r) (i+1)))=S from by rw[<-aN];simp[eQ,l5,cu,f7,py,Hi,qs]);have a4:3+(de y).length+1+(gC i (cu F (i+1))).length+(6+(gC i (cu (X::V::r) (i+1))).length)=S.length:=by rw[<-aQ.out];simp only[H,ag,ai]
 clear aN;have aH:=aB.len;simp only[ag,ai]at aH;have a3:((A:Int)==1)=false:=by rw[Qn];omega
 have a2:0<A:=J
 have a1:(0:Int)<A:=J
 clear aH;have aI:=ar.len;simp only[ag,ai]at aI;obtain rfl:n=1:=aI;obtain⟨b0,z,a0,aU,ae,af,aA,az,ay,ax,aw,av,ap⟩:=ar.at_ 0 Qe;simp only[aF,aP,aY,bx,cE]at aA az ay ax aw av ap;obtain⟨aZ,aV,rfl,_⟩:=ap.form;have al:=G (aC aA (aC az (aC ay (aC ax (aC aw av)))));have aX:=G ap;clear aA az ay ax aw av ap;subst aU;have d:=G (show PS b a.heap.size a P #[.int i64 4,.string (Z nm),.slice (some ⟨b0,z,none⟩) 1 c,.slice B I aj,.slice C A ah] (.slice (some ⟨b0,z,none⟩) 1 c) (.slice B I aj) (.slice C A ah) (.mk 4 nm [y] F (X::V::r)) l _ from⟨aq a 147 #[.int i64 4,.string (Z nm),.slice (some ⟨b0,z,none⟩) 1 c,.slice B I aj,.slice C A ah],ao.ext (aa a _),ar.keep (.of_ext (aa a _)) (λ_ R _=>R),aO.keep (.of_ext (aa a _)) (λ_ R _=>R),aB.keep (.of_ext (aa a _)) (λ_ R _=>R),aW (aa a _) (aG ao.lt),aM.fb (aW (aa a _) (aG ao.lt)),bW ao.lt,by decide,o⟩);have ad:=d.out.box.cell;clear ao ar aM aO aB;unfold mS at aK;unfold mS at aJ;go_enter func217,ntmps217;have e0:=(d.out.fb.keepP o).cell (z) af ae|>.trans al.out.1;have ba:=(d.out.fb.keepP o).cell (z+1) af ae|>.trans al.out.2.1;have a9:=(d.out.fb.keepP o).cell (z+2) af ae|>.trans al.out.2.2.1;have a8:=(d.out.fb.keepP o).cell (z+3) af ae|>.trans al.out.2.2.2.1;have a7:=(d.out.fb.keepP o).cell (z+4) af ae|>.trans al.out.2.2.2.2.1;have a6:=(d.out.fb.keepP o).cell (z+5) af ae|>.trans al.out.2.2.2.2.2;go_wp2_with (first|(go_at_call 216;refine(fG y aT [105,102,32] [32] P _ aZ _ aV b l (aX.out.keep (d.out.fb.keepP o) (λ_ R _=>R)) o d.out.tab d.out.bu (by(try have aE:=Hzc1.out);(try have aD:=Hzc2.out);simp only[H,ag,ai];omega)).mono ?_;rintro e u1 ⟨rfl,w,u⟩;have an:=G (d.out.wr w u);clear w u d;clear ad;have ad:=an.out.box.cell)|(go_at_call 121;refine(aK P _ B I aj b i (l++([105,102,32]++de y++[32])) an.out.rb o an.out.tab an.out.bu (by(try have aE:=Hzc1.out);(try have aD:=Hzc2.out);simp only[H,ag,ai];omega)).mono ?_;rintro e u2 ⟨rfl,w,u⟩;have au:=G (an.out.wr w u);clear w u an;clear ad;have ad:=au.out.box.cell)|(go_at_call 118;refine(c_ b ((l++([105,102,32]++de y++[32]))++gC i (cu F (i+1))) [32,101,108,115,101,32] _ au.out.bu (by(try have aE:=Hzc1.out);(try have aD:=Hzc2.out);(try simp only[H,ag,ai]);omega)).mono ?_;rintro e u3 ⟨rfl,w,u⟩;have am:=G (au.out.wr w u);clear w u au;clear ad;have ad:=am.out.box.cell)|(go_at_call 121;refine(aJ P _ C A ah b i (((l++([105,102,32]++de y++[32]))++gC i (cu F (i+1)))++[32,101,108,115,101,32]) am.out.rl o am.out.tab am.out.bu (by(try have aE:=Hzc1.out);(try have aD:=Hzc2.out);(try simp only[H,ag,ai]);omega)).mono ?_;rintro e u4 ⟨rfl,w,u⟩;have aR:=G (am.out.wr w u);clear w u am));first|go_end0|((try simp only[Exit.inBlock,Exit.then]);refine bodyPost_ret (results_none rfl _ _ _) rfl ?_)
 exact⟨rfl,by rw[<-aQ.out];have:=aR.out.bu;simpa[aL]using this,aR.out.fb⟩
theorem t7 (xs:List St) (a3: ∀u,u∈xs->Hn u):mS xs:=by
 intro P F B y bb b i l ar af a7 ba bT;have aH:=ar.len;have bn:y<=maxLen:=by
  obtain⟨A',c',_,h|⟨o,a,_⟩⟩:=ar.form
  ·rw[aH,h];exact aD _
  ·omega
 unfold maxLen at bn;have bx:=G a3;generalize a8:gC i (cu xs (i+1))=S at*;have aI:[123,10]++(cu xs (i+1)).flatMap (λt=>lG (i+1)++t++[10])++(lG i++[125])=S:=a8;clear a8;generalize a9:(λt:List UInt8=>lG (i+1)++t++[10])=w at*;have bI:=G (show ∀t,w t=lG (i+1)++t++[10]from λt=>by rw[<-a9]);have bG:=G aI;have aG:(lG i).length=i:=by simp[lG]
 have a4:(lG (i+1)).length=i+1:=by simp[lG]
 have bS:2+((cu xs (i+1)).flatMap w).length+(i+1)=S.length:=by rw[<-aI];simp only[H,ag,ai,aG]
 have bL:IntKind.i64.wrap ((i:Int)+1)=((i+1:Nat):Int):=Qc
 have bg:=G aH;have bd:=G aG;have az:=G a4;clear aI a9 a3 aH aG a4;have aW:=G (show PB b F P (.slice B y bb) xs l F from⟨ba,ar,FB.refl _ _,a7,af⟩);have bF:=G (λF=>uy i J F);have bz:=G (λF=>uy (i+1) J F);clear ba ar a7;go_enter func121,ntmps121;go_wp2_with (go_at_call 118;refine(c_ b l [123,10] _ aW.out.bu (by(try have av:=al.out);(try have au:=Hzc2.out);(try simp only[H,ag,ai]);omega)).mono ?_;rintro e u1 ⟨rfl,o,a⟩;have am:=G (aW.out.wr o a);clear o a aW)
 go_loopw [14] (λaF wr=> ∃j:Nat,aF=.int i64 (j:Int)/\j<=y/\Hid (PB b F P (.slice B y bb) xs (l++[123,10]++((cu xs (i+1)).take j).flatMap w) wr)) (λaF _=>y-(intOf aF).toNat)
 case atStart=>exact⟨0,rfl,aD _,by simpa using am⟩
 case round=>
  clear am;obtain⟨j,rfl,bV,ad⟩:=hrel;by_cases hlt:j<y
  ·have bo:(j:Int)<y:=J
   have a6:j<xs.length:=by have:=bg.out;omega
   have bl:(cu xs (i+1)).length=xs.length:=by rw[my];simp
   have a5:(cu xs (i+1))[j]' J=eQ xs[j] (i+1):=by simp[my]
   have be:=G (show((cu xs (i+1)).take (j+1)).flatMap w=((cu xs (i+1)).take j).flatMap w++(lG (i+1)++eQ xs[j] (i+1)++[10])from by rw[aT J,fB,a5,<-bI.out];simp);have bX:(((cu xs (i+1)).take (j+1)).flatMap w).length<=((cu xs (i+1)).flatMap w).length:=by
    conv=>rhs;rw[<-df (j+1) (cu xs (i+1)),fB,H]
    omega
   obtain⟨ca,bK,b5,b4,bZ,rfl,bW,bY,e0,b9,b8,b7,b6,ao,ap,an⟩:=ad.out.rd.at_ j a6;have bc:=G (bx.out _ (ax a6));generalize xs[j]=u at*;unfold Hn at bc;obtain⟨aX,aM,rfl,_⟩:=ao.form;obtain⟨a1,aO,rfl,_⟩:=ap.form;obtain⟨aY,aN,rfl,_⟩:=an.form;have bH:=G (aC ao (aC ap an));have bM:=ad.out.bu.lt;have ah:=aa wr (.cells #[.int i64 u.k,.string (Z u.nm),.slice aX u.ex.length aM,.slice a1 u.body.length aO,.slice aY u.els.length aN] 147);have am:=G (ad.out.ex ah);have bw:=G (aq wr 147 #[.int i64 u.k,.string (Z u.nm),.slice aX u.ex.length aM,.slice a1 u.body.length aO,.slice aY u.els.length aN]);have bm:wr.heap.size≠b:=J
   have aR:=G (aC (ao.keep (.of_ext ah) (λ_ d _=>d)) (aC (ap.keep (.of_ext ah) (λ_ d _=>d)) (an.keep (.of_ext ah) (λ_ d _=>d))));generalize ((cu xs (i+1)).take j).flatMap w=aj at*;generalize br:((cu xs (i+1)).take (j+1)).flatMap w=cb at*;have bq:=congrArg List.length be.out;simp only[H,ag,ai,az.out]at bq;generalize lG (i+1)=ay at*;clear ao ap an bl a5 bH ah;go_wp2_with fail;refine aB 6 3 [(5,λx=>x=.string (Z ay),λ_ _=>True)] mixed Qb ⟨λ_ _ _ _ _=>trivial,trivial⟩ ?_;repeat (refine sx ?_ (λaE V=> ?_) ?_;rotate_left;(focus go_simp<;>with_reducible rfl);simp only[bE,bD,bC,bB,bA])
   refine so (λaA V R K aJ=> ?_) ?_
   ·clear R V;go_simp;refine(bz.out aA).mono ?_;rintro e bi ⟨rfl,aK⟩;exact aJ _ _ aK rfl trivial
   rintro _ rfl;simp only[bE,bD,bC,bB,bA];repeat (refine sx ?_ (λaE V=> ?_) ?_;rotate_left;(focus go_simp<;>with_reducible rfl);simp only[bE,bD,bC,bB,bA])
   intro bh z R;clear R;simp only[ae,aw];have I:=G (am.out.ex z.un);have bv:=G (bw.out.ext z.un);have aS:=G (aC (aR.out.1.keep (.of_ext z.un) (λ_ d _=>d)) (aC (aR.out.2.1.keep (.of_ext z.un) (λ_ d _=>d)) (aR.out.2.2.keep (.of_ext z.un) (λ_ d _=>d))));clear z am;go_wp2_with (first|(go_at_call 118;refine(c_ b (l++[123,10]++aj) ay _ I.out.bu (by have aP:=az.out;(try have av:=al.out);(try have au:=Hzc2.out);(try simp only[H,ag,ai]);omega)).mono ?_;rintro e u3 ⟨rfl,o,a⟩;have X:=G (I.out.wr o a);have bt:=G (a.keep _ _ _ bm Qd bv.out);have bj:=bt.out.cell;have aU:=G (aC (aS.out.1.keep (a.keepP af) (λ_ d _=>d)) (aC (aS.out.2.1.keep (a.keepP af) (λ_ d _=>d)) (aS.out.2.2.keep (a.keepP af) (λ_ d _=>d))));clear o a I)|(go_at_call 174;refine(bc.out P _ aX a1 aY _ aM _ aO _ aN b (i+1) (l++[123,10]++aj++ay) aU.out.1 aU.out.2.1 aU.out.2.2 af X.out.tab X.out.bu (by have aP:=az.out;(try have av:=al.out);(try have au:=Hzc2.out);(try simp only[H,ag,ai]);omega)).mono ?_;rintro e u4 ⟨rfl,o,a⟩;have aV:=G (X.out.wr o a);clear o a X bj)|(go_at_call 118;refine(c_ b (l++[123,10]++aj++ay++eQ u (i+1)) [10] _ aV.out.bu (by have aP:=az.out;(try have av:=al.out);(try have au:=Hzc2.out);(try simp only[H,ag,ai]);omega)).mono ?_;rintro e u5 ⟨rfl,o,a⟩;have bJ:=G (aV.out.wr o a);clear o a aV));go_roundw
   case rel=>exact⟨j+1,by go_num,by omega,by have:=be.out;rw[br,this];simpa[aL]using bJ⟩
   case measure=>simp[intOf];omega
  ·have bo: ¬(j:Int)<y:=J
   have bp:j=y:=J
   have bf:=G (show(cu xs (i+1)).take j=cu xs (i+1)from by rw[bp,bg.out,bQ (by rw[my];simp)]);rw[bf.out]at ad;generalize (cu xs (i+1)).flatMap w=aj at*;clear bf;generalize lG i=A at*;have bk:=bd.out;obtain⟨c1,aQ⟩: ∃c,Hid (A++[125]=c):=⟨_,G rfl⟩
   have a2:c1.length=A.length+1:=by rw[<-aQ.out,H];rfl
   have bN:Z A++(⟨#[125]⟩:ByteArray)=Z c1:=by rw[<-aQ.out];exact eH _ _
   have bR: ¬9223372036854775807<A.length+1:=J
   have bU: ¬9223372036854775807<1+A.length:=J
   have bP:(Z A).size=A.length:=aZ _;have bO:((⟨#[125]⟩:ByteArray)).size=1:=rfl;have al:=G a2;clear a2;clear bk;go_wp2_with fail;refine aB 6 3 [(4,λx=>x=.string (Z A),λ_ _=>True)] mixed Qb ⟨λ_ _ _ _ _=>trivial,trivial⟩ ?_;repeat (refine sx ?_ (λaE V=> ?_) ?_;rotate_left;(focus go_simp<;>with_reducible rfl);simp only[bE,bD,bC,bB,bA])
   refine so (λaA V R K aJ=> ?_) ?_
   ·clear R V;go_simp;refine(bF.out aA).mono ?_;rintro e bi ⟨rfl,aK⟩;exact aJ _ _ aK rfl trivial
   rintro _ rfl;simp only[bE,bD,bC,bB,bA];repeat (refine sx ?_ (λaE V=> ?_) ?_;rotate_left;(focus go_simp<;>with_reducible rfl);simp only[bE,bD,bC,bB,bA])
   intro bh z R;clear R;simp only[ae,aw];have I:=G (ad.out.ex z.un);clear z ad;go_wp2_with (go_at_call 118;refine(c_ b (l++[123,10]++aj) c1 _ I.out.bu (by have aP:=bd.out;(try have av:=al.out);(try have au:=Hzc2.out);(try simp only[H,ag,ai]);omega)).mono ?_;rintro e u3 ⟨rfl,o,a⟩;have X:=G (I.out.wr o a);clear o a I)
   go_end0
   exact⟨rfl,by rw[<-bG.out];have:=X.out.bu;rw[<-aQ.out]at this;simpa[aL]using this,X.out.fb⟩
theorem tm: ∀(m:Nat) (x:St),x.wt<=m->x.ok=true->Hn x/\(x.k=4->xP x)
 |0,x,hm,_=>absurd hm (by have:=x.wt_eq;omega)
 |m+1,.mk k nm es bd el,hm,h=>by
  have ap:=(St.mk k nm es bd el).wt_eq;simp only[St.nm,St.ex,St.body,St.els]at ap;rw[St.ok,am,am,am]at h;obtain⟨⟨d,an⟩,al,Z⟩:=h;rw[tC]at an;rw[kY]at al Z;have z: ∀a,a∈es->pY a:=λa R=>Eb (List.all_eq_true.1 an a R);have ao: ∀a,a∈bd->Hn a:=λa R=>(tm m a (by have:=cM R;omega) (List.all_eq_true.1 al a R)).1;have ag: ∀a,a∈el->Hn a/\(a.k=4->xP a):=λa R=>tm m a (by have:=cM R;omega) (List.all_eq_true.1 Z a R);have ai:=t7 bd ao;have ah:=t7 el (λa R=>(ag a R).1);have aj:k=4->xP (.mk k nm es bd el):=by
   rintro rfl;rw[if_neg Qd,if_neg Qd,if_neg Qd,if_pos rfl]at d;simp only[am,beq_iff_eq]at d;obtain⟨a,rfl⟩:=List.length_eq_one_iff.1 d.2;have R:=z a Qe;intro P A ae B C n c G ad F H b i l w X y aa V I o
   match el,y,ag,ah,o with
   | [],y,ag,ah,o=>exact JX nm bd a R ai P A ae B C n c G ad F H b i l w X y aa V I _ rfl o
   | [s],y,ag,ah,o=>
    by_cases hs:s.k=4
    ·exact JW nm bd a R ai s hs ((ag s Qe).2 hs) P A ae B C n c G ad F H b i l w X y aa V I _ rfl o
    ·exact JV nm bd a R ai s hs ah P A ae B C n c G ad F H b i l w X y aa V I _ rfl o
   |s1::s2::r,y,ag,ah,o=>exact JU nm bd a R ai s1 s2 r ah P A ae B C n c G ad F H b i l w X y aa V I _ rfl o
  refine⟨?_,aj⟩;intro P A ae B C n c G ad F H b i l w X y aa V I o;simp only[St.k,St.nm,St.ex,St.body,St.els]at*;by_cases k1:k=1
  ·subst k1;rw[if_pos rfl]at d;simp only[am,decide_eq_true_eq]at d
   match es,z,d,w,o with
   | [],z,d,w,o=>exact Hy nm bd el P A ae B C n c G ad F H b i l w X y aa V I _ rfl o
   | [a],z,d,w,o=>exact Hx nm bd el a (z a Qe) P A ae B C n c G ad F H b i l w X y aa V I _ rfl o
   |a::af::r,z,d,w,o=>exact absurd d.1.1.2 Qe
  rw[if_neg k1]at d;by_cases k2:k=2
  ·subst k2;rw[if_pos rfl]at d;simp only[am,beq_iff_eq]at d;obtain⟨a,rfl⟩:=List.length_eq_one_iff.1 d.1.1.2;exact Jl nm bd el a (z a Qe) P A ae B C n c G ad F H b i l w X y aa V I _ rfl o
  rw[if_neg k2]at d;by_cases k3:k=3
  ·subst k3;rw[if_pos rfl]at d;simp only[am,beq_iff_eq]at d;obtain⟨a,af,rfl⟩: ∃a af,es=[a,af]:=by
    match es,d with
    | [],d=>simp at d
    | [a],d=>simp at d
    | [a,af],d=>exact⟨a,af,rfl⟩
    |a::af::u::r,d=>simp at d
   exact Jk nm bd el a af (z a Qe) (z af Qe) P A ae B C n c G ad F H b i l w X y aa V I _ rfl o
  rw[if_neg k3]at d;by_cases k4:k=4
  ·subst k4;exact Jj nm bd el es (aj rfl) P A ae B C n c G ad F H b i l w X y aa V I _ rfl o
  rw[if_neg k4]at d;by_cases k5:k=5
  ·subst k5;rw[if_pos rfl]at d;simp only[am,beq_iff_eq]at d;obtain⟨a,rfl⟩:=List.length_eq_one_iff.1 d.1.2;exact Ji nm bd el a (z a Qe) ai P A ae B C n c G ad F H b i l w X y aa V I _ rfl o
  rw[if_neg k5]at d;by_cases k6:k=6
  ·subst k6;rw[if_pos rfl]at d;simp only[am,decide_eq_true_eq]at d
   match es,z,d,w,o with
   | [],z,d,w,o=>exact Hw nm bd el P A ae B C n c G ad F H b i l w X y aa V I _ rfl o
   | [a],z,d,w,o=>exact Hv nm bd el a (z a Qe) P A ae B C n c G ad F H b i l w X y aa V I _ rfl o
   |a::af::r,z,d,w,o=>exact absurd d.1.1.2 Qe
  rw[if_neg k6]at d;by_cases k7:k=7
  ·subst k7;rw[if_pos rfl]at d;simp only[am,beq_iff_eq]at d;obtain⟨a,rfl⟩:=List.length_eq_one_iff.1 d.1.1.1.2;exact Jh nm bd el a (z a Qe) P A ae B C n c G ad F H b i l w X y aa V I _ rfl o
  ·rw[if_neg k7]at d
   cases d
theorem Ec {x:St} (a:x.ok=true):Hn x:=(tm _ x (ah _) a).1
theorem Ed {xs:List St} (a:pM xs=true):mS xs:=t7 xs λd h=>Ec (by rw[kY]at a;exact List.all_eq_true.1 a d h)
theorem ph (a:List UInt8) (l:List (List UInt8)):Lib.join l a=eY a l:=by
 cases l with
 |nil=>rfl
 |cons x r=>rw[Lib.join_cons];simp[Lib.joinTail,eY,List.flatMap_def]
theorem zD (h:Option Addr) (n c:Nat) (a:List (List UInt8)) (P:Nat->Prop) (d:World) (z:rA d P (.slice h n c) a) (I:(eY [44,32] a).length<=1000000000):
  Calls prog 120 #[.slice h n c,.string ⟨#[44,32]⟩] d λe w'=>e=.returned (.string (Z (eY [44,32] a)))/\au d w':=by
 obtain⟨H,c',A,X⟩:=z;injection A with V F R;subst V F R;rcases X with rfl|⟨h1,h2,b,o,rfl,hP,hb,hcell⟩
 ·refine(Tryz.strings_Join_none h c ⟨#[44,32]⟩ d).mono ?_;rintro e w' ⟨rfl,rfl⟩;exact⟨rfl,aI _⟩
 ·have w:(a.map Z).map (·.data.toList)=a:=by
   rw[List.map_map];have:((λx:ByteArray=>x.data.toList) ∘ Z)=id:=funext λl=>jJ l;rw[this,List.map_id]
  unfold maxLen at h2
  have:=Tryz.strings_Join b o c (a.map Z) ⟨#[44,32]⟩ d (λj x u=>by
    rw[dC]at u;obtain⟨aa,y,rfl⟩:=Option.map_eq_some_iff.1 u;obtain⟨G,rfl⟩:=List.getElem?_eq_some_iff.1 y;exact hcell j G) hb (by
    rw[jj]
    cases a with
    |nil=>simp
    |cons x r=>
     have:=Lib.join_length x r [44,32];rw[ph]at this;simp only[ag,ai]at this⊢
     omega) (by simp;exact h1) (by rw[w,show((⟨#[44,32]⟩:ByteArray).data.toList)=[44,32]from rfl,ph];omega)
  rw[w,jj,show((⟨#[44,32]⟩:ByteArray).data.toList)=[44,32]from rfl,ph]at this;exact this
structure PQ (b px:Nat) (w0:World) (P:Nat->Prop) (vv fv:Value) (p:Pg) (l:List UInt8) (W:World):Prop where
 box:aO W px 31 #[vv,fv]
 bu:Bu W b l
 rv:nM W P vv p.vs
 rf:nP W P fv p.fs
 fb:FB b w0 W
 tab:ew W b
 ne:px≠b
 tt:31≠5
 hP: ∀k,P k->k<b
section
variable {b px:Nat} {w0 W W':World} {P:Nat->Prop} {vv fv:Value} {p:Pg} {l l':List UInt8}
theorem PQ.wr (a:PQ b px w0 P vv fv p l W) (o:Bu W' b l') (d:FB b W W'):PQ b px w0 P vv fv p l' W':=
 ⟨d.keep _ _ _ a.ne a.tt a.box,o,a.rv.keep (d.keepP a.hP) (λ_ h _=>h),a.rf.keep (d.keepP a.hP) (λ_ h _=>h),a.fb.trans d,a.tab.fb d,a.ne,a.tt,a.hP⟩
theorem PQ.ex (a:PQ b px w0 P vv fv p l W) (d:au W W'):PQ b px w0 P vv fv p l W':=a.wr (a.bu.ext d) (aW d (aG a.bu.lt))
end
theorem lz {a:Type} (d:a->List UInt8) (l:List a) (j:Nat):((l.take j).flatMap d).length<=(l.flatMap d).length:=by
 conv=>rhs;rw[<-df j l,fB,H]
 omega
theorem ka {d:Type} (a:d->List UInt8) (l:List d) (j:Nat) (h:j<l.length):(l.take (j+1)).flatMap a=(l.take j).flatMap a++a l[j]:=by
 rw[aT h,fB];simp
theorem wO (p:Pg) (bX: ∀f,f∈p.fs->pM f.body=true) (bc: ∀v,v∈p.vs->v.sz<=9223372036854775807) (P:Nat->Prop) (a:World) (F B:Option Addr) (n c m V:Nat) (bG:nM a P (.slice F n c) p.vs) (al:nP a P (.slice B m V) p.fs) (aR:ew a a.heap.size) (c7:(nj p).length<=1000000000):
  Calls prog 62 #[.agg #[.slice F n c,.slice B m V]] a λe w'=>e=.returned (.string (Z (nj p)))/\au a w':=by
 have bd:n=p.vs.length/\n<=maxLen:=by
  obtain⟨bS,c',aB,u⟩:=bG;injection aB with _ a4 _;refine⟨a4,?_⟩;rcases u with u|⟨o,d,_⟩
  ·rw[a4,u];exact aD _
  ·omega
 have be:m=p.fs.length/\m<=maxLen:=by
  obtain⟨bS,c',aB,u⟩:=al;injection aB with _ a4 _;refine⟨a4,?_⟩;rcases u with u|⟨o,d,_⟩
  ·rw[a4,u];exact aD _
  ·omega
 obtain⟨bd,cv⟩:=bd;obtain⟨be,ct⟩:=be;unfold maxLen at cv ct;have cg:=G bd;have ch:=G be;have cI:=G bc;have cM:=G bX;have cf:=G (show p.vs.flatMap nh++p.fs.flatMap nk=nj p from rfl);have c6:(p.vs.flatMap nh).length+(p.fs.flatMap nk).length=(nj p).length:=by rw[<-cf.out,H]
 generalize nj p=S at*;have cb:=aa a (.cells #[.slice F n c,.slice B m V] 31);have bj:=cb.trans (aa (a.alloc (.cells #[.slice F n c,.slice B m V] 31)) (.cells #[.pointer none,.slice none 0 0] 217));have cp:(a.alloc (.cells #[.slice F n c,.slice B m V] 31)).heap.size=a.heap.size+1:=Array.size_push _;have bH:dM P a ((a.alloc (.cells #[.slice F n c,.slice B m V] 31)).alloc (.cells #[.pointer none,.slice none 0 0] 217)):=.of_ext bj;obtain⟨w0,br⟩: ∃W,W=((a.alloc (.cells #[.slice F n c,.slice B m V] 31)).alloc (.cells #[.pointer none,.slice none 0 0] 217)):=⟨_,rfl⟩
 have cO:=G (show au a w0 from br▸bj)
 have bP:=G (show PQ (a.heap.size+1) a.heap.size w0 (λk=>k<a.heap.size) (.slice F n c) (.slice B m V) p [] ((a.alloc (.cells #[.slice F n c,.slice B m V] 31)).alloc (.cells #[.pointer none,.slice none 0 0] 217))from
  ⟨(aq a _ _).ext (aa _ _),cp▸Bu.new _,bG.keep bH (λ_ _ u=>u),al.keep bH (λ_ _ u=>u),br▸FB.refl _ _,⟨((aR.fb (aW bj (ah _)))).1,Nat.lt_succ_of_lt aR.2⟩,gD (dZ _),by decide,λk u=>Nat.lt_succ_of_lt u⟩)
 clear bG al aR cb bj bH bd be bc bX br;generalize ar:a.heap.size+1=b at*;have cH:=G (show a.heap.size<=b/\True from⟨by omega,trivial⟩);generalize c4:a.heap.size=ao at*;have bF:=bP.out.box.cell;go_enter func62,ntmps62;go_wp2_with fail
 go_loopw [11] (λaz wr=> ∃j:Nat,az=.int i64 (j:Int)/\j<=n/\Hid (PQ b ao w0 (λk=>k<ao) (.slice F n c) (.slice B m V) p ((p.vs.take j).flatMap nh) wr)) (λaz _=>n-(intOf az).toNat)
 case atStart=>exact⟨0,rfl,aD _,bP⟩
 case round=>
  clear bP bF;obtain⟨j,rfl,b5,y⟩:=hrel;by_cases hlt:j<n
  ·have bf:(j:Int)<n:=J
   have R:j<p.vs.length:=by have:=cg.out;omega
   obtain⟨bS,c',aB,aC⟩:=y.out.rv;injection aB with a5 bx bz;rcases aC with aC|⟨o,d,b9,o9,hA2,hP9,hb9,hcl⟩
   ·rw[aC]at R;simp at R
   obtain⟨e0,cC⟩:=hcl j R;have bK:F=some ⟨b9,o9,none⟩:=a5.trans hA2;subst bK;clear hcl a5 hA2 bx bz o d hP9;have cm:=cI.out _ (ax R);have aY:=G (ka nh p.vs j R);have b7:=lz nh p.vs (j+1);have an:=G (show nh p.vs[j]=[118,97,114,32]++p.vs[j].nm++(if 0<p.vs[j].sz then[91]++mf p.vs[j].sz.toNat++[93]else[])++[59,10]from rfl);generalize nh p.vs[j]=cD at*;generalize p.vs[j].nm=w at*;generalize p.vs[j].sz=a1 at*;generalize (p.vs.take j).flatMap nh=A at*;generalize bi:(p.vs.take (j+1)).flatMap nh=cE at*;have aS:=congrArg List.length aY.out;simp only[H]at aS;have bc:=y.out.bu.lt;have aE:=aa wr (.cells #[.string (Z w),.int i64 a1] 76);have ad:=G (y.out.ex aE);have aM:=G (aq wr 76 #[.string (Z w),.int i64 a1]);have aA:=aM.out.cell;have aP:wr.heap.size≠b:=J
   clear aE;by_cases hz:0<a1
   ·have af:=congrArg List.length an.out;rw[if_pos hz]at an af;have cN:=G (λa u=>vq a1 J cm a b u);generalize mf a1.toNat=D at*;simp only[H,ag,ai]at af;have I:=G (show A.length+(4+w.length+(1+D.length+1)+2)<=1000000000 from by omega);obtain⟨c1,X⟩: ∃c,Hid ([118,97,114,32]++w=c):=⟨_,G rfl⟩
    have ap:c1.length=4+w.length:=by rw[<-X.out,H];(try rfl)
    have bV:(⟨#[118,97,114,32]⟩:ByteArray)++Z w=Z c1:=by rw[<-X.out];exact eH _ _
    have bZ: ¬9223372036854775807<4+w.length:=J
    have b4: ¬9223372036854775807<w.length+4:=J
    have bW:((⟨#[118,97,114,32]⟩:ByteArray)).size=4:=rfl;have cs:(Z w).size=w.length:=aZ _;obtain⟨c2,aK⟩: ∃c,Hid ([91]++D=c):=⟨_,G rfl⟩
    have a3:c2.length=1+D.length:=by rw[<-aK.out,H];(try rfl)
    have co:(⟨#[91]⟩:ByteArray)++Z D=Z c2:=by rw[<-aK.out];exact eH _ _
    have cx: ¬9223372036854775807<1+D.length:=J
    have cz: ¬9223372036854775807<D.length+1:=J
    have cr:((⟨#[91]⟩:ByteArray)).size=1:=rfl;have c0:(Z D).size=D.length:=aZ _;obtain⟨z,aJ⟩: ∃c,Hid (c2++[93]=c):=⟨_,G rfl⟩
    have a2:z.length=c2.length+1:=by rw[<-aJ.out,H];(try rfl)
    have cn:Z c2++(⟨#[93]⟩:ByteArray)=Z z:=by rw[<-aJ.out];exact eH _ _
    have cw: ¬9223372036854775807<c2.length+1:=J
    have cy: ¬9223372036854775807<1+c2.length:=J
    have cq:(Z c2).size=c2.length:=aZ _;have cX:((⟨#[93]⟩:ByteArray)).size=1:=rfl;have aj:=G ap;clear ap;have aX:=G a3;clear a3;have aU:=G a2;clear a2;clear af aS;go_wp2_with (first|(go_at_call 118;refine(c_ b A c1 _ ad.out.bu (by have aw:=aj.out;have aT:=I.out;omega)).mono ?_;rintro e u2 ⟨rfl,o,d⟩;have aO:=G (ad.out.wr o d);have bO:=G (d.keep _ _ _ aP Qd aM.out);clear aA;have aA:=bO.out.cell;clear o d ad)|(go_at_call 119;refine(cN.out _ aO.out.tab).mono ?_;rintro e u3 ⟨rfl,bk⟩;have ay:=G (aO.out.ex bk);clear bk aA aO)|(go_at_call 118;refine(c_ b (A++c1) z _ ay.out.bu (by have aw:=aj.out;have aT:=aX.out;have bn:=aU.out;have a8:=I.out;simp only[H];omega)).mono ?_;rintro e u4 ⟨rfl,o,d⟩;have aN:=G (ay.out.wr o d);clear o d ay)|(go_at_call 118;refine(c_ b (A++c1++z) [59,10] _ aN.out.bu (by have aw:=aj.out;have aT:=aX.out;have bn:=aU.out;have a8:=I.out;simp only[H,ag,ai];omega)).mono ?_;rintro e u5 ⟨rfl,o,d⟩;have a9:=G (aN.out.wr o d);clear o d aN));go_roundw
    case rel=>exact⟨j+1,by go_num,by omega,by have a6:=aY.out;have a7:=an.out;rw[bi,a6,a7,X.out,aK.out,aJ.out];simpa[aL]using a9⟩
    case measure=>simp[intOf];omega
   ·have af:=congrArg List.length an.out;rw[if_neg hz]at an af;simp only[H,ag,ai]at af;have I:=G (show A.length+(4+w.length+2)<=1000000000 from by omega);obtain⟨c1,X⟩: ∃c,Hid ([118,97,114,32]++w=c):=⟨_,G rfl⟩
    have ap:c1.length=4+w.length:=by rw[<-X.out,H];(try rfl)
    have bV:(⟨#[118,97,114,32]⟩:ByteArray)++Z w=Z c1:=by rw[<-X.out];exact eH _ _
    have bZ: ¬9223372036854775807<4+w.length:=J
    have b4: ¬9223372036854775807<w.length+4:=J
    have bW:((⟨#[118,97,114,32]⟩:ByteArray)).size=4:=rfl;have cs:(Z w).size=w.length:=aZ _;have aj:=G ap;clear ap;clear af aS;go_wp2_with (first|(go_at_call 118;refine(c_ b A c1 _ ad.out.bu (by have aw:=aj.out;have aT:=I.out;omega)).mono ?_;rintro e u2 ⟨rfl,o,d⟩;have aO:=G (ad.out.wr o d);have bO:=G (d.keep _ _ _ aP Qd aM.out);clear aA;have aA:=bO.out.cell;clear o d ad)|(go_at_call 118;refine(c_ b (A++c1) [59,10] _ aO.out.bu (by have aw:=aj.out;have a8:=I.out;simp only[H,ag,ai];omega)).mono ?_;rintro e u5 ⟨rfl,o,d⟩;have a9:=G (aO.out.wr o d);clear o d aO));go_roundw
    case rel=>exact⟨j+1,by go_num,by omega,by have a6:=aY.out;have a7:=an.out;rw[bi,a6,a7,X.out];simpa[aL]using a9⟩
    case measure=>simp[intOf];omega
  ·have bf: ¬(j:Int)<n:=J
   have bg:j=n:=J
   have bo:=G (show p.vs.take j=p.vs from by rw[bg,cg.out,b6]);rw[bo.out]at y;clear bo;have bF:=y.out.box.cell;go_wp2_with fail;clear hlt bf bg b5;generalize c9:p.vs.flatMap nh=ce at*
   go_loopw [36] (λaz wr=> ∃j:Nat,az=.int i64 (j:Int)/\j<=m/\Hid (PQ b ao w0 (λk=>k<ao) (.slice F n c) (.slice B m V) p (ce++(p.fs.take j).flatMap nk) wr)) (λaz _=>m-(intOf az).toNat)
   case atStart=>exact⟨0,rfl,aD _,by simpa using y⟩
   case round=>
    clear y bF;rename_i bT;obtain⟨j,rfl,b5,y⟩:=hrel;by_cases hlt:j<m
    ·have bf:(j:Int)<m:=J
     have R:j<p.fs.length:=by have:=ch.out;omega
     obtain⟨bS,c',aB,aC⟩:=y.out.rf;injection aB with a5 bx bz;rcases aC with aC|⟨o,d,b9,o9,hA2,hP9,hb9,pv,bv,hcl⟩
     ·rw[aC]at R;simp at R
     obtain⟨e0,cC,db,bw,bt⟩:=hcl j R;have bK:B=some ⟨b9,o9,none⟩:=a5.trans hA2;subst bK;clear hcl a5 hA2 bx bz o d hP9;have bY:=cM.out _ (ax R);have aY:=G (ka nk p.fs j R);have b7:=lz nk p.fs (j+1);have an:=G (show nk p.fs[j]=[102,117,110,99,32]++p.fs[j].nm++[40]++eY [44,32] p.fs[j].ps++[41,32]++gC 0 (cu p.fs[j].body 1)++[10]from rfl);generalize nk p.fs[j]=cD at*;generalize p.fs[j].nm=fn at*;generalize p.fs[j].ps=aF at*;generalize p.fs[j].body=aH at*;generalize pv j=cT at*;generalize bv j=dc at*
     have cQ:=G (show ∀(P:Nat->Prop) (a:World) (B:Option Addr) (ba bm b:Nat) (l:List UInt8),eq a P (.slice B ba bm) aH->(∀k,P k->k<b)->ew a b->Bu a b l->l.length+(gC 0 (cu aH 1)).length<=1000000000->
      Calls prog 121 #[.pointer (some ⟨b,0,none⟩),.slice B ba bm,.int i64 0] a (λe w'=>e=.returned (.tuple #[])/\Bu w' b (l++gC 0 (cu aH 1))/\FB b a w')from λP a B ba bm b l=>Ed bY P a B ba bm b 0 l)
     generalize da:(p.fs.take j).flatMap nk=cF at*;generalize ca:ce++cF=A at*;have b8:=congrArg List.length ca;generalize bi:(p.fs.take (j+1)).flatMap nk=cE at*;have aS:=congrArg List.length aY.out;simp only[H]at aS b8;obtain⟨bp,bl,rfl,_⟩:=id bw;obtain⟨bR,bL,rfl,_⟩:=bt.form;have bc:=y.out.bu.lt;have aE:=aa wr (.cells #[.string (Z fn),.slice bp aF.length bl,.slice bR aH.length bL] 81);have ad:=G (y.out.ex aE);have aM:=G (aq wr 81 #[.string (Z fn),.slice bp aF.length bl,.slice bR aH.length bL]);have cL:=G (bw.keep (.of_ext aE) (λ_ ar _=>ar));have cK:=G (bt.keep (.of_ext aE) (λ_ ar _=>ar));have aP:wr.heap.size≠b:=J
     have af:=congrArg List.length an.out;have bQ:=G (show ∀(k:Nat),k<ao->k<b from y.out.hP);generalize bJ:eY [44,32] aF=am at*;simp only[H,ag,ai]at af;have I:=G (show A.length+(5+fn.length+1+am.length+2+(gC 0 (cu aH 1)).length+1)<=1000000000 from by omega);obtain⟨c1,X⟩: ∃c,Hid ([102,117,110,99,32]++fn=c):=⟨_,G rfl⟩
     have ap:c1.length=5+fn.length:=by rw[<-X.out,H];(try rfl)
     have bV:(⟨#[102,117,110,99,32]⟩:ByteArray)++Z fn=Z c1:=by rw[<-X.out];exact eH _ _
     have bZ: ¬9223372036854775807<5+fn.length:=J
     have b4: ¬9223372036854775807<fn.length+5:=J
     have bW:((⟨#[102,117,110,99,32]⟩:ByteArray)).size=5:=rfl;have c3:(Z fn).size=fn.length:=aZ _;obtain⟨c2,aK⟩: ∃c,Hid (c1++[40]=c):=⟨_,G rfl⟩
     have a3:c2.length=c1.length+1:=by rw[<-aK.out,H];(try rfl)
     have co:Z c1++(⟨#[40]⟩:ByteArray)=Z c2:=by rw[<-aK.out];exact eH _ _
     have cx: ¬9223372036854775807<c1.length+1:=J
     have cz: ¬9223372036854775807<1+c1.length:=J
     have cZ:(Z c1).size=c1.length:=aZ _;have cr:((⟨#[40]⟩:ByteArray)).size=1:=rfl;obtain⟨z,aJ⟩: ∃c,Hid (c2++am=c):=⟨_,G rfl⟩
     have a2:z.length=c2.length+am.length:=by rw[<-aJ.out,H];(try rfl)
     have cn:Z c2++Z am=Z z:=by rw[<-aJ.out];exact eH _ _
     have cw: ¬9223372036854775807<c2.length+am.length:=J
     have cy: ¬9223372036854775807<am.length+c2.length:=J
     have cq:(Z c2).size=c2.length:=aZ _;have cY:(Z am).size=am.length:=aZ _;obtain⟨aI,bN⟩: ∃c,Hid (z++[41,32]=c):=⟨_,G rfl⟩
     have bU:aI.length=z.length+2:=by rw[<-bN.out,H];(try rfl)
     have cU:Z z++(⟨#[41,32]⟩:ByteArray)=Z aI:=by rw[<-bN.out];exact eH _ _
     have c5: ¬9223372036854775807<z.length+2:=J
     have c8: ¬9223372036854775807<2+z.length:=J
     have cW:(Z z).size=z.length:=aZ _;have cV:((⟨#[41,32]⟩:ByteArray)).size=2:=rfl;have aj:=G ap;clear ap;have aX:=G a3;clear a3;have aU:=G a2;clear a2;have bM:=G bU;clear bU;have ci:=G (λW (u:rA W (λk=>k<ao) (.slice bp aF.length bl) aF)=>zD bp aF.length bl aF (λk=>k<ao) W u (by have aw:=I.out;rw[bJ];omega));rw[bJ]at ci;clear af aS aE bw bt bJ b7 b8 bY;go_wp2_with fail;have bh:=aG ad.out.bu.lt;refine ju b 11 8 [(7,λx=>x=.string (Z am),λ_ _=>True),(10,λx=>x=.tuple #[.int i64 aI.length,.nilIface],λ_ bT=>Bu bT b (A++aI))] 10 mixed Qb bh ⟨λ_ _ _ _ _=>trivial,λ_ _ _ u cl=>u.ext cl,trivial⟩ ⟨.inr λ_ _ _ _ _=>trivial,.inl rfl,trivial⟩ ?_;repeat (refine sx ?_ (λck av=> ?_) ?_;rotate_left;(focus have al:=oD (av bh);have cB:=(al.keep _ _ _ aP Qd aM.out).cell;clear al av;go_simp<;>with_reducible rfl);simp only[bE,bD,bC,bB,bA])
     refine so (λbq av aQ K bI=> ?_) ?_
     ·have cA:=cL.out.keep ((oD (av bh)).keepP bQ.out) (λ_ ar _=>ar);clear aQ av;go_simp;refine(ci.out bq cA).mono ?_;rintro e cj ⟨rfl,bk⟩;exact bI _ _ bk rfl trivial
     rintro _ rfl;simp only[bE,bD,bC,bB,bA];repeat (refine sx ?_ (λck av=> ?_) ?_;rotate_left;(focus have al:=oD (av bh);have cB:=(al.keep _ _ _ aP Qd aM.out).cell;clear al av;go_simp<;>with_reducible rfl);simp only[bE,bD,bC,bB,bA])
     refine dL _ _ Qf rfl ⟨_,rfl⟩ rfl (λbq aR aQ K bI=> ?_) ?_
     ·have cP:=G (ad.out.ex aR.un);clear aQ aR;go_simp;refine(c_ b A aI bq cP.out.bu (by have aw:=aj.out;have aT:=aX.out;have bn:=aU.out;have a8:=bM.out;have cd:=I.out;omega)).mono ?_;rintro e cj ⟨rfl,o,d⟩;exact bI _ _ (λ_=>d) rfl o
     rintro _ rfl;simp only[bE,bD,bC,bB,bA];intro cS bb aQ;have ay:=G (ad.out.wr (aQ _ (.head _)) bb);have cG:=G (bb.keep _ _ _ aP Qd aM.out);have aA:=cG.out.cell;have cJ:=G (cK.out.keep (bb.keepP bQ.out) (λ_ ar _=>ar));clear bb aQ ad;simp only[ae,aV];go_wp2_with (first|(go_at_call 121;refine(cQ.out (λk=>k<ao) _ bR _ bL b (A++aI) cJ.out bQ.out ay.out.tab ay.out.bu (by have aw:=aj.out;have aT:=aX.out;have bn:=aU.out;have a8:=bM.out;have cd:=I.out;simp only[H];omega)).mono ?_;rintro e u4 ⟨rfl,o,d⟩;have aN:=G (ay.out.wr o d);clear o d ay aA)|(go_at_call 118;refine(c_ b (A++aI++gC 0 (cu aH 1)) [10] _ aN.out.bu (by have aw:=aj.out;have aT:=aX.out;have bn:=aU.out;have a8:=bM.out;have cd:=I.out;simp only[H,ag,ai];omega)).mono ?_;rintro e u5 ⟨rfl,o,d⟩;have a9:=G (aN.out.wr o d);clear o d aN));go_roundw
     case rel=>exact⟨j+1,by go_num,by omega,by have a6:=aY.out;have a7:=an.out;rw[bi,a6,a7,X.out,aK.out,aJ.out,bN.out,<-aL,ca];simpa[aL]using a9⟩
     case measure=>simp[intOf];omega
    ·have bf: ¬(j:Int)<m:=J
     have bg:j=m:=J
     have bo:=G (show p.fs.take j=p.fs from by rw[bg,ch.out,b6]);rw[bo.out,cf.out]at y;go_wp2_with (go_at_call 122;refine(BB b S _ y.out.bu J).mono ?_;rintro e u9 ⟨rfl,cc⟩;have cR:=G cc;clear cc);go_ret;exact⟨rfl,show Below a.heap.size a _ from Below.trans cO.out (Below.mono (Below.trans y.out.fb.below cR.out) (by have:=cH.out.1;omega))⟩
theorem wn (l:List UInt8) (d:l.length<=1073741824) (a:World):Calls prog 59 #[.string (Z l)] a λe w'=>e=.returned (.bool (!eD l))/\au a w':=by
 have o:=G (dR l d);generalize eD l=r at*;go_enter func59,ntmps59;go_wp2_with (go_at_call 57;refine(o.out _).mono ?_;rintro e u ⟨rfl,rfl⟩);go_ret;exact⟨rfl,aI _⟩
def uS (v:Vr):Bool:=eD v.nm&&decide (0<=v.sz)&&decide (v.sz<=2000)
def qJ (f:Fc):Bool:=eD f.nm&&decide (f.ps.length<=4)&&f.ps.all eD&&f.body.all (λs=>decide (s.dep<=20)&&s.ok)
def lJ (p:Pg):Bool:=p.vs.all uS&&p.fs.all qJ&&decide (p.vs.length<=20)&&decide (p.fs.length<=20)&&decide ((nj p).length<=4000)
theorem qI {f:Fc} (a:qJ f=true):pM f.body=true:=by
 unfold qJ at a;simp only[am,cg,decide_eq_true_eq]at a;rw[kY,cg];exact λs d=>(a.2 s d).2
def qa (i:Nat) (ts:List (List UInt8)):Nat:=(ts.map λt=>t.length+i).sum
theorem ir (i:Nat) (t:List UInt8) (a:List (List UInt8)):qa i (t::a)=t.length+i+qa i a:=by simp[qa]
theorem lV {i j:Nat} (d:i<=j): ∀a,qa i a<=qa j a
 | []=>ah _
 |t::a=>by have:=lV d a;rw[ir,ir];omega
theorem wG (i:Nat): ∀a:List (List UInt8),(a.headD []).length<=qa i a
 | []=>by simp[qa]
 |t::a=>by rw[ir];simp;omega
theorem x9 (i:Nat): ∀a:List (List UInt8),(a.headD []).length+(a.tail.headD []).length<=qa i a
 | []=>by simp[qa]
 | [t]=>by rw[ir];simp[qa]<;>omega
 |t::u::a=>by rw[ir,ir];simp;omega
theorem wR {k:Int} {op nm tx:List UInt8} {v:Int} {ps:List Int} {ss:List (List UInt8)} (d:k=1->v<=2147483647):
  (wS k op nm tx v ps ss).length<=10+op.length+nm.length+2*tx.length+qa 2 ss:=by
 have F:=wG 2 ss;have A:=x9 2 ss;have a:=sh [44,32] ss;have z:=wX tx;have y:=qf (decide (ps.headD 0<7)) (ss.headD []);have w:=qf (decide (ps.headD 0<mX op)) (ss.headD []);have u:=qf (decide (ps.tail.headD 0<=mX op)) (ss.tail.headD []);have h:k=1->(mf v.toNat).length<=10:=λo=>vH (d o);simp only[ag,ai]at a;change _<=qa 2 ss at a;unfold wS;split
 ·have:=h (by assumption);omega
 repeat' split
 all_goals (try simp only[H,ag,ai])
 all_goals omega
mutual
theorem uD: ∀x:Ex,x.ok=true->(de x).length+2<=12*x.wt
 | .mk k op nm tx v a,h=>by
  rw[Ex.ok,am]at h;have ha:=qx a h.2
  have o:=wR (k:=k) (op:=op) (nm:=nm) (tx:=tx) (v:=v) (ps:=a.map Ex.prec) (ss:=f7 a) (λe=>by
   subst e;have d:=h.1;rw[if_pos rfl]at d;simp only[am,decide_eq_true_eq]at d
   exact d.1.1.2)
  rw[de,Ex.wt];omega
theorem qx: ∀l:List Ex,r7 l=true->qa 2 (f7 l)<=12*dU l
 | [],_=>by simp[f7,qa]
 |x::r,h=>by
  rw[r7,am]at h;have:=uD x h.1;have:=qx r h.2;rw[f7,ir,dU];omega
end
theorem rn (i:Nat) (a:List (List UInt8)):(gC i a).length=3+i+qa (i+2) a:=by
 have d: ∀a:List (List UInt8),(a.flatMap (λt=>lG (i+1)++t++[10])).length=qa (i+2) a:=by
  intro a
  induction a with
  |nil=>rfl
  |cons t r ih=>rw[bJ,H,ih,ir];simp[lG];omega
 unfold gC;rw[H,H,d];simp[lG];omega
theorem wQ {i:Nat} {k:Int} {nm:List UInt8} {es bs ls l0:List (List UInt8)} {pV:Bool} {E B L:Nat} (d:qa 0 es<=E) (h:qa (i+2) bs<=B)
  (a:qa (i+2) ls<=L) (A:qa 0 l0<=L):(l5 i k nm es bs ls l0 pV).length<=20+2*i+nm.length+E+B+L:=by
 have z:=wG 0 es;have y:=x9 0 es;have w:=wG 0 l0;have u:=rn i bs;have o:=rn i ls;unfold l5;repeat' split
 all_goals simp only[H,ag,ai,AU,IV,Hi,qs,AT,p']
 all_goals omega
theorem FE (i:Nat) (a:List (List UInt8)):qa 0 a<=qa i a:=lV (aD _) a
mutual
theorem zb: ∀(x:St) (i:Nat),x.ok=true->i+x.dep<=21->(eQ x i).length+i+2<=150*x.wt
 | .mk k nm e b l,i,h,hd=>by
  rw[St.ok]at h;simp only[am]at h;rw[St.dep]at hd;have G:=qx e h.1.2;have d:=kz b (i+1);have a:=kz l (i+1);have o:=kz l i;have F:=d h.2.1 J;have A:=a h.2.2 J;have R:=o h.2.2 J;have z:=lV (show i+2<=i+1+2 by omega) (cu b (i+1));have y:=lV (show i+2<=i+1+2 by omega) (cu l (i+1));have w:=FE 2 (f7 e);have u:=FE (i+2) (cu l i);have:=wQ (i:=i) (k:=k) (nm:=nm) (es:=f7 e) (bs:=cu b (i+1)) (ls:=cu l (i+1)) (l0:=cu l i) (pV:=py l) (E:=12*dU e) (B:=150*eX b) (L:=150*eX l)
   J J J J
  rw[eQ,St.wt];omega
theorem kz: ∀(l:List St) (i:Nat),pM l=true->i+iF l<=21->qa (i+2) (cu l i)<=150*eX l
 | [],i,_,_=>by simp[cu,qa]
 |x::r,i,h,hd=>by
  rw[pM,am]at h;rw[iF]at hd;have:=zb x i h.1 J;have:=kz r i h.2 J;rw[cu,ir,eX];omega
end
theorem lW {a:Type} (f g:a->Nat): ∀(l:List a),(∀x,x∈l->f x<=g x)->(l.map f).sum<=(l.map g).sum
 | [],_=>ah _
 |x::r,h=>by
  have:=lW f g r (λd o=>h d (i_ _ o));have:=h x (g_ ..);simp only[bL,dF];omega
theorem jA {a:Type} (c:Nat): ∀(l:List a),(l.map λ_=>c).sum=c*l.length
 | []=>rfl
 |x::r=>by rw[bL,dF,jA c r,ag,Nat.mul_succ];omega
theorem qQ {l:List UInt8} (a:eD l=true):l.length<=14:=by
 unfold eD at a;simp only[am,decide_eq_true_eq]at a;exact a.1.1.2
theorem Bd {v:Vr} (a:uS v=true):(nh v).length<=40:=by
 unfold uS at a;simp only[am,decide_eq_true_eq]at a;have:=qQ a.1.1;have:=vH (v:=v.sz) J;unfold nh;split<;>simp only[H,ag,ai,AU]<;>omega
theorem Ej {f:Fc} (a:qJ f=true):iF f.body<=20:=by
 unfold qJ at a;simp only[am,cg,decide_eq_true_eq]at a;have d:=a.2;clear a;generalize f.body=l at*
 induction l with
 |nil=>exact aD _
 |cons x r ih=>
  have:=ih λs h=>d s (i_ _ h);have:=(d x (g_ ..)).1;rw[iF];omega
theorem Bf {f:Fc} (a:qJ f=true):(nk f).length<=100+150*eX f.body:=by
 have y:=kz f.body 1 (qI a) (by have:=Ej a;omega);have u:=rn 0 (cu f.body 1);have w:=sh [44,32] f.ps;have o:=lV (show 0+2<=1+2 by omega) (cu f.body 1);unfold qJ at a;simp only[am,cg,decide_eq_true_eq]at a;have z:=qQ a.1.1.1;have h:=lW (λs:List UInt8=>s.length+[44,32].length) (λ_=>16) f.ps (λs d=>by have:=qQ (a.1.2 s d);simp;omega);rw[jA]at h;unfold nk;simp only[H,ag,ai,AV];omega
theorem Be {p:Pg} (d:p.vs.all uS=true) (h:p.fs.all qJ=true) (u:p.vs.length<=20) (o:p.fs.length<=20):(nj p).length<=2800+150*(p.fs.map λf=>eX f.body).sum:=by
 have y:(p.vs.flatMap nh).length<=40*p.vs.length:=by
  rw[jr];have:=lW (λv=>(nh v).length) (λ_=>40) p.vs (λv a=>Bd (List.all_eq_true.1 d v a));rwa [jA]at this
 have w:(p.fs.flatMap nk).length<=100*p.fs.length+150*(p.fs.map λf=>eX f.body).sum:=by
  rw[jr];have:=lW (λf=>(nk f).length) (λf=>100+150*eX f.body) p.fs (λf a=>Bf (List.all_eq_true.1 h f a));have e: ∀l:List Fc,(l.map λf=>100+150*eX f.body).sum=100*l.length+150*(l.map λf=>eX f.body).sum:=by
   intro l
   induction l with
   |nil=>rfl
   |cons f r ih=>simp only[bL,dF,ag,ih];omega
  rwa [e]at this
 unfold nj;rw[H];omega
def dW:List cB->Nat
 | []=>0
 |t::r=>2+t.t.length+dW r
theorem gE {l:List cB} (a:(cX l).k≠0):dW l=2+(cX l).t.length+dW l.tail:=by
 cases l with
 |nil=>exact absurd rfl a
 |cons t r=>rfl
theorem xw {s:List UInt8} {l:List cB} (a:dJ s l=true):(cX l).k≠0:=by
 intro e;simp[dJ,e]at a
theorem fC {s:List UInt8} {l r:List cB} {a:Unit} (h:cJ s l=.ok (a,r)):dW r+2<=dW l:=by
 obtain⟨d,rfl,_⟩:=eP h;have:=gE (xw d);omega
theorem ox {l r:List cB} {nm:List UInt8} (d:jP l=.ok (nm,r)):nm.length+2+dW r=dW l:=by
 obtain⟨a,rfl,rfl,_⟩:=l7 d;have:=gE (l:=l) (by rw[a];decide);omega
theorem jd {s:List UInt8} {l:List cB} (a:dJ s l=true):dW l.tail+2<=dW l:=by
 have:=gE (xw a);omega
theorem Cm: ∀(f:Nat),
  (∀n l x r,cF f n l=.ok (x,r)->x.wt+1+dW r<=dW l)/\(∀n A l x r,js f n A l=.ok (x,r)->x.wt+dW r<=A.wt+dW l)/\
  (∀l x r,dw f l=.ok (x,r)->x.wt+1+dW r<=dW l)/\(∀nm l x r,cZ f nm l=.ok (x,r)->x.wt+dW r<=1+nm.length+dW l)/\
  (∀l x r,gH f l=.ok (x,r)->dU x+dW r<=dW l)/\(∀F l x r,iz f F l=.ok (x,r)->dU x+dW r<=dU F+dW l)
 |0=>by
  refine⟨?_,?_,?_,?_,?_,?_⟩;all_goals (intros;rename_i a;simp[cF,js,dw,cZ,gH,iz]at a)
 |f+1=>by
  obtain⟨z,V,R,I,H,X⟩:=Cm f;refine⟨?_,?_,?_,?_,?_,?_⟩
  ·intro n l x r a;rw[cF]at a;obtain⟨u,q,o,h⟩:=aS a;have:=R _ _ _ o;have:=V _ _ _ _ _ h;omega
  ·intro n A l x r a;rw[js]at a;split at a
   ·rename_i d;obtain⟨u,q,o,h⟩:=aS a;have:=z _ _ _ _ o;have:=V _ _ _ _ _ h;have:=gE (l:=l) (by rw[d.1];decide);simp only[Ex.wt,dU,ai]at*;omega
   ·obtain⟨rfl,rfl⟩:=bP a;exact ah _
  ·intro l x r a;rw[dw]at a;split at a
   ·rename_i d;have:=gE (l:=l) (by rw[d];decide);obtain⟨rfl,rfl⟩:=bP a;simp only[Ex.wt,dU,ai];omega
   ·split at a
    ·rename_i d;have:=gE (l:=l) (by rw[d];decide);obtain⟨rfl,rfl⟩:=bP a;simp only[Ex.wt,dU,ai];omega
    ·split at a
     ·rename_i d;have:=gE (l:=l) (by rw[d];decide);have:=I _ _ _ _ a;omega
     ·split at a
      ·rename_i d;obtain⟨u,q,o,h⟩:=aS a;have:=R _ _ _ o;obtain⟨rfl,rfl⟩:=bP h;have ad:(cX l).k≠0:=by
        rw[du]at d;rcases d with d|d<;>exact xw d
       have:=gE ad;simp only[Ex.wt,dU,ai]at*;omega
      ·obtain⟨u,q,o,h⟩:=aS a;obtain⟨aa,G,y,w⟩:=aS h;obtain⟨aj,ag,af,ae⟩:=aS w;have:=fC o;have:=z _ _ _ _ y;have:=fC af;obtain⟨rfl,rfl⟩:=bP ae;omega
  ·intro nm l x r a;rw[cZ]at a;split at a
   ·rename_i d;obtain⟨u,q,o,h⟩:=aS a;obtain⟨aa,G,y,w⟩:=aS h;have:=jd d;have:=z _ _ _ _ o;have:=fC y;obtain⟨rfl,rfl⟩:=bP w;simp only[Ex.wt,dU,ai];omega
   ·split at a
    ·rename_i d;obtain⟨u,q,o,h⟩:=aS a;have:=jd d;have:=H _ _ _ o;obtain⟨rfl,rfl⟩:=bP h;simp only[Ex.wt,ai];omega
    ·obtain⟨rfl,rfl⟩:=bP a;simp only[Ex.wt,dU,ai];omega
  ·intro l x r a;rw[gH]at a;split at a
   ·rename_i d;have:=jd d;obtain⟨rfl,rfl⟩:=bP a;simp only[dU];omega
   ·have:=X _ _ _ _ a;simp only[dU]at this;omega
  ·intro F l x r a;rw[iz]at a;obtain⟨u,q,o,h⟩:=aS a;have:=z _ _ _ _ o;split at h
   ·rename_i d;have:=jd d;obtain⟨rfl,rfl⟩:=bP h;rw[sK];simp only[dU];omega
   ·obtain⟨aa,G,y,w⟩:=aS h;have:=fC y;have:=X _ _ _ _ w;rw[sK]at this;simp only[dU]at this;omega
theorem A_: ∀(f:Nat),
  (∀l x r,ej f l=.ok (x,r)->eX x+dW r<=dW l)/\(∀aj l x r,fD f aj l=.ok (x,r)->eX x+dW r<=eX aj+dW l)/\
  (∀l x r,qg f l=.ok (x,r)->x.wt+dW r<=dW l)/\(∀l x r,ei f l=.ok (x,r)->x.wt+dW r<=dW l)
 |0=>by
  refine⟨?_,?_,?_,?_⟩;all_goals (intros;rename_i a;simp[ej,fD,qg,ei]at a)
 |f+1=>by
  obtain⟨I,am,al,au⟩:=A_ f;obtain⟨F,_,_,av,_,_⟩:=Cm f;refine⟨?_,?_,?_,?_⟩
  ·intro l x r a;rw[ej]at a;obtain⟨V,q,w,u⟩:=aS a;have:=fC w;have:=am _ _ _ _ u;simp only[eX]at this;omega
  ·intro aj l x r a;rw[fD]at a;split at a
   ·rename_i h;have:=jd h;obtain⟨rfl,rfl⟩:=bP a;omega
   ·obtain⟨V,q,w,u⟩:=aS a;have:=au _ _ _ w;have:=am _ _ _ _ u;rw[xU]at this;simp only[eX]at this;omega
  ·intro l x r a;rw[qg]at a;obtain⟨V,q,w,u⟩:=aS a;obtain⟨az,A,d,o⟩:=aS u;have:=F _ _ _ _ w;have:=I _ _ _ d;split at o
   ·rename_i h;have:=jd h;split at o
    ·rename_i H;have:=jd H;obtain⟨ay,ar,z,y⟩:=aS o;have:=al _ _ _ z;obtain⟨rfl,rfl⟩:=bP y;simp only[St.wt,dU,eX,ai];omega
    ·obtain⟨ay,ar,z,y⟩:=aS o;have:=I _ _ _ z;obtain⟨rfl,rfl⟩:=bP y;simp only[St.wt,dU,ai];omega
   ·obtain⟨rfl,rfl⟩:=bP o;simp only[St.wt,dU,eX,ai];omega
  ·intro l x r a;rw[ei]at a;split at a
   ·rename_i h;have:=jd h;have:=al _ _ _ a;omega
   ·split at a
    ·rename_i h;have:=jd h;obtain⟨V,q,w,u⟩:=aS a;obtain⟨az,A,d,o⟩:=aS u;have:=F _ _ _ _ w;have:=I _ _ _ d;obtain⟨rfl,rfl⟩:=bP o;simp only[St.wt,dU,eX,ai];omega
    ·split at a
     ·rename_i h;have:=jd h;obtain⟨nm,q,w,u⟩:=aS a;obtain⟨ah,A,d,o⟩:=aS u;obtain⟨V,Z,z,y⟩:=aS o;have:=ox w;have:=fC z;have an:dU ah+dW A<=dW q:=by
       split at d
       ·rename_i H;have:=jd H;obtain⟨X,aa,R,G⟩:=aS d;have:=F _ _ _ _ R;obtain⟨rfl,rfl⟩:=bP G;simp only[dU];omega
       ·obtain⟨rfl,rfl⟩:=bP d;simp only[dU];omega
      obtain⟨rfl,rfl⟩:=bP y;simp only[St.wt,eX];omega
     ·split at a
      ·rename_i h;have:=jd h;obtain⟨ah,A,d,o⟩:=aS a;obtain⟨V,Z,z,y⟩:=aS o;have:=fC z;have an:dU ah+dW A<=dW l.tail:=by
        split at d
        ·obtain⟨rfl,rfl⟩:=bP d;simp only[dU];omega
        ·obtain⟨X,aa,R,G⟩:=aS d;have:=F _ _ _ _ R;obtain⟨rfl,rfl⟩:=bP G;simp only[dU];omega
       obtain⟨rfl,rfl⟩:=bP y;simp only[St.wt,eX,ai];omega
      ·obtain⟨nm,q,w,u⟩:=aS a;obtain⟨s,A,d,o⟩:=aS u;obtain⟨V,Z,z,y⟩:=aS o;have:=ox w;have:=fC z;have an:s.wt+dW A<=2+nm.length+dW q:=by
        split at d
        ·obtain⟨X,aa,R,G⟩:=aS d;have:=av _ _ _ _ R;obtain⟨rfl,rfl⟩:=bP G;simp only[St.wt,dU,eX,ai];omega
        ·split at d
         ·rename_i h;have:=jd h;obtain⟨X,aa,R,G⟩:=aS d;obtain⟨_,aq,ad,ag⟩:=aS G;obtain⟨_,aA,ax,aw⟩:=aS ag;obtain⟨ao,ap,af,ae⟩:=aS aw;have:=F _ _ _ _ R;have:=fC ad;have:=fC ax;have:=F _ _ _ _ af;obtain⟨rfl,rfl⟩:=bP ae;simp only[St.wt,dU,eX];omega
         ·obtain⟨_,aq,ad,ag⟩:=aS d;obtain⟨ao,ap,af,ae⟩:=aS ag;have:=fC ad;have:=F _ _ _ _ af;obtain⟨rfl,rfl⟩:=bP ae;simp only[St.wt,dU,eX];omega
       obtain⟨rfl,rfl⟩:=bP y;omega
def Fc.wt (f:Fc):Nat:=f.nm.length+(f.ps.map λs=>s.length+1).sum+eX f.body
def mC (p:Pg):Nat:=(p.vs.map λv=>v.nm.length+1).sum+(p.fs.map λf=>f.wt+1).sum
theorem Hs {l r:List cB} {v:Vr} (d:kF l=.ok (v,r)):v.nm.length+1+dW r<=dW l/\0<=v.sz/\v.sz<=2000:=by
 unfold kF at d;obtain⟨nm,q,V,R⟩:=aS d;obtain⟨sz,h,a,G⟩:=aS R;obtain⟨H,aa,F,A⟩:=aS G;have:=ox V;have:=fC F;have w:dW h<=dW q/\0<=sz/\sz<=2000:=by
  split at a
  ·rename_i u;have:=jd u;split at a
   ·rename_i o;have:=gE (l:=q.tail) (by rw[o];decide);split at a
    ·cases a
    ·rename_i I;obtain⟨_,X,z,y⟩:=aS a;have:=fC z;obtain⟨rfl,rfl⟩:=bP y;omega
   ·cases a
  ·obtain⟨rfl,rfl⟩:=bP a;exact⟨ah _,by decide,by decide⟩
 obtain⟨rfl,rfl⟩:=bP A;refine⟨?_,w.2⟩;change nm.length+1+_<=_;omega
theorem uZ: ∀(f:Nat) acc l x r,gh f acc l=.ok (x,r)->(x.map λs=>s.length+1).sum+dW r<=(acc.map λs:List UInt8=>s.length+1).sum+dW l
 |0,acc,l,x,r,h=>by cases h
 |f+1,acc,l,x,r,h=>by
  rw[gh]at h;obtain⟨A,q,w,a⟩:=aS h;have:=ox w;split at a
  ·rename_i d;have:=jd d;obtain⟨rfl,rfl⟩:=bP a;simp;omega
  ·obtain⟨z,y,u,o⟩:=aS a;have:=fC u;have:=uZ f _ _ _ _ o;simp at this;omega
theorem Ep {f:Nat} {l r:List cB} {x:List (List UInt8)} (a:gv f l=.ok (x,r)):(x.map λs=>s.length+1).sum+dW r<=dW l:=by
 unfold gv at a;split at a
 ·rename_i d;have:=jd d;obtain⟨rfl,rfl⟩:=bP a;simp;omega
 ·have:=uZ _ _ _ _ _ a;simpa using this
theorem GO {f:Nat} {l r:List cB} {x:Fc} (a:ly f l=.ok (x,r)):x.wt+1+dW r<=dW l:=by
 unfold ly at a;obtain⟨nm,q,A,z⟩:=aS a;obtain⟨_,R,y,w⟩:=aS z;obtain⟨ps,G,u,o⟩:=aS w;obtain⟨b,F,h,d⟩:=aS o;have:=ox A;have:=fC y;have:=Ep u;have:=(A_ f).1 _ _ _ h;obtain⟨rfl,rfl⟩:=bP d;change nm.length+(ps.map λs=>s.length+1).sum+eX b+1+_<=_;omega
theorem tn: ∀(f:Nat) (p:Pg) (l:List cB) (x:Pg) (r:List cB),d9 f p l=.ok (x,r)->mC x<=mC p+dW l/\((∀v,v∈p.vs->0<=v.sz/\v.sz<=2000)-> ∀v,v∈x.vs->0<=v.sz/\v.sz<=2000)
 |0,p,l,x,r,a=>by cases a
 |f+1,p,l,x,r,a=>by
  rw[d9]at a;split at a
  ·obtain⟨rfl,rfl⟩:=bP a;exact⟨by omega,λa=>a⟩
  ·split at a
   ·rename_i F;have:=jd F;obtain⟨v,q,w,u⟩:=aS a;have o:=Hs w;have h:=tn f _ _ _ _ u;refine⟨?_,λA=>h.2 λz d=> ?_⟩
    ·have:=h.1;simp only[mC,fV,List.sum_append,bL,dz,dF,List.sum_nil]at this⊢;omega
    ·rcases List.mem_append.1 d with d|d
     ·exact A z d
     ·rw[bR]at d;subst d;exact o.2
   ·obtain⟨_,q,w,u⟩:=aS a;obtain⟨c,G,o,h⟩:=aS u;have:=fC w;have:=GO o;have y:=tn f _ _ _ _ h;refine⟨?_,y.2⟩;have:=y.1;simp only[mC,fV,List.sum_append,bL,dz,dF,List.sum_nil]at this⊢;omega
theorem BJ (p:Pg):(p.fs.map λf=>eX f.body).sum<=mC p:=by
 have:=lW (λf:Fc=>eX f.body) (λf=>f.wt+1) p.fs (λf _=>by unfold Fc.wt;omega);unfold mC;omega
theorem tL {a:Type} (f:a->Nat): ∀(l:List a) (x:a),x∈l->f x<=(l.map f).sum
 |y::r,x,h=>by
  rw[bL,dF];rcases List.mem_cons.1 h with rfl|h
  ·omega
  ·have:=tL f r x h;omega
end
section
open Go.RowKit
structure VQ (px:Nat) (w0:World) (P:Nat->Prop) (vv fv:Value) (p:Pg) (W:World):Prop where
 box:aO W px 31 #[vv,fv]
 rv:nM W P vv p.vs
 rf:nP W P fv p.fs
 ext:au w0 W
theorem VQ.ex {u:Nat} {w0 W y:World} {P:Nat->Prop} {o w:Value} {p:Pg} (d:VQ u w0 P o w p W) (a:au W y):VQ u w0 P o w p y:=
 ⟨d.box.ext a,d.rv.keep (.of_ext a) (λ_ h _=>h),d.rf.keep (.of_ext a) (λ_ h _=>h),d.ext.trans a⟩
def tA (s:St):Bool:=decide (s.dep<=20)&&s.ok
theorem jo {a:Type} (f:a->Bool) (l:List a) (j:Nat) (h:j<l.length) (d:f l[j]=false):l.all f=false:=by
 cases hh:l.all f with
 |false=>rfl
 |true=>rw[cg]at hh;have:=hh _ (ax h);rw[d]at this;cases this
theorem jV {a:Type} (f:a->Bool) (l:List a) (j:Nat) (o:j<l.length) (h:(l.take j).all f=true) (d:f l[j]=true):(l.take (j+1)).all f=true:=by
 rw[aT o,jl,h];simp[d]
theorem yN (p:Pg) (bH: ∀v,v∈p.vs->v.nm.length<=1073741824) (P:Nat->Prop) (A:World) (ag B:Option Addr) (n c m aj:Nat) (bJ: ∀f,f∈p.fs->f.nm.length<=1073741824/\(∀o,o∈f.ps->o.length<=1073741824)/\ ∀s,s∈f.body->s.wt<=1073741824) (bI:p.vs.all uS=true->p.fs.all qJ=true->p.vs.length<=20->p.fs.length<=20->(nj p).length<=1000000000) (bi:nM A P (.slice ag n c) p.vs) (bj:nP A P (.slice B m aj) p.fs) (bK:ew A A.heap.size):
  Calls prog 28 #[.agg #[.slice ag n c,.slice B m aj]] A λe w'=>e=.returned (.bool (lJ p))/\au A w':=by
 have aM:n=p.vs.length/\n<=maxLen:=by
  obtain⟨bC,c',ai,u⟩:=bi;injection ai with _ aE _;refine⟨aE,?_⟩;rcases u with u|⟨H,af,_⟩
  ·rw[aE,u];exact aD _
  ·omega
 have aN:m=p.fs.length/\m<=maxLen:=by
  obtain⟨bC,c',ai,u⟩:=bj;injection ai with _ aE _;refine⟨aE,?_⟩;rcases u with u|⟨H,af,_⟩
  ·rw[aE,u];exact aD _
  ·omega
 obtain⟨aM,cj⟩:=aM;obtain⟨aN,ci⟩:=aN;unfold maxLen at cj ci;have a1:=G aM;have a2:=G aN;have cw:=G bH;have cB:=G bJ;have cy:=G bI;have bP:=G bK;generalize bL:lJ p=R;have aX:=G bL;have aQ:=aa A (.cells #[.slice ag n c,.slice B m aj] 31);have bA:=G (show VQ A.heap.size A P (.slice ag n c) (.slice B m aj) p (A.alloc (.cells #[.slice ag n c,.slice B m aj] 31))from⟨aq A _ _,bi.keep (.of_ext aQ) (λ_ d _=>d),bj.keep (.of_ext aQ) (λ_ d _=>d),aQ⟩);have aP:=bA.out.box.cell;clear aM aN bH bJ bI bL aQ bi bj bK;go_enter func28,ntmps28;go_wp2_with fail
 go_loopw [12] (λap wr=> ∃j:Nat,ap=.int i64 (j:Int)/\j<=n/\Hid ((p.vs.take j).all uS=true)/\Hid (VQ A.heap.size A P (.slice ag n c) (.slice B m aj) p wr)) (λap _=>n-(intOf ap).toNat)
 case atStart=>exact⟨0,rfl,aD _,G Qe,bA⟩
 case round=>
  clear bA aP;obtain⟨j,rfl,bf,aw,z⟩:=hrel;by_cases hlt:j<n
  ·have aO:(j:Int)<n:=J
   have X:j<p.vs.length:=by have:=a1.out;omega
   obtain⟨bC,c',ai,ar⟩:=z.out.rv;injection ai with aG be bg;rcases ar with ar|⟨H,af,b9,o9,hA2,hP9,hb9,hcl⟩
   ·rw[ar]at X;simp at X
   obtain⟨e0,cv⟩:=hcl j X;have bk:ag=some ⟨b9,o9,none⟩:=aG.trans hA2;subst bk;clear hcl aG hA2 be bg H af hP9;have cg:=cw.out _ (ax X);have aB:=G (λu:uS p.vs[j]=false=>show R=false by rw[<-aX.out,lJ,jo uS p.vs j X u];rfl);have bx:=G (λu:uS p.vs[j]=true=>jV uS p.vs j X aw.out u);have bY:=G (show uS p.vs[j]=(eD p.vs[j].nm&&decide (0<=p.vs[j].sz)&&decide (p.vs[j].sz<=2000))from rfl);generalize uS p.vs[j]=bE at*;generalize p.vs[j].nm=aJ at*;generalize p.vs[j].sz=ad at*;have al:=G (dR aJ cg);generalize eD aJ=aH at*;have an:=G (z.out.ex (aa wr (.cells #[.string (Z aJ),.int i64 ad] 76)));have aL:=(aq wr 76 #[.string (Z aJ),.int i64 ad]).cell;by_cases hok:aH=true/\0<=ad/\ad<=2000
   ·obtain⟨rfl,bG,bF⟩:=hok;have br:=G (bx.out (by rw[bY.out];simp[bG,bF]));have cM: ¬ad<0:=J
    have cL: ¬2000<ad:=J
    go_wp2_with (go_at_call 57;refine(al.out _).mono ?_;rintro e ao ⟨rfl,rfl⟩);go_roundw
    case rel=>exact⟨j+1,by go_num,by omega,br,an⟩
    case measure=>simp[intOf];omega
   ·have I:=G (aB.out (by
     rw[bY.out]
     cases aH with
     |false=>rfl
     |true=>
      by_cases h0:0<=ad
      ·have H: ¬ad<=2000:=λu=>hok ⟨rfl,h0,u⟩;simp[H]
      ·simp[h0]))
    have y:=G an.out.ext
    cases aH with
    |false=>
     clear hok;go_wp2_with (go_at_call 57;refine(al.out _).mono ?_;rintro e ao ⟨rfl,rfl⟩);go_ret;exact⟨by rw[I.out];rfl,y.out⟩
    |true=>
     by_cases bG:ad<0
     ·clear hok;go_wp2_with (go_at_call 57;refine(al.out _).mono ?_;rintro e ao ⟨rfl,rfl⟩);go_ret;exact⟨by rw[I.out];rfl,y.out⟩
     ·have bF:2000<ad:=by
       by_cases u:2000<ad
       ·exact u
       ·exact absurd ⟨rfl,by omega,by omega⟩ hok
      clear hok;go_wp2_with (go_at_call 57;refine(al.out _).mono ?_;rintro e ao ⟨rfl,rfl⟩);go_ret;exact⟨by rw[I.out];rfl,y.out⟩
  ·have aO: ¬(j:Int)<n:=J
   have aF:j=n:=J
   have bu:=G (show p.vs.all uS=true by have:=aw.out;rwa [aF,a1.out,b6]at this);have aP:=z.out.box.cell;go_wp2_with fail;clear hlt aO aF bf aw
   go_loopw [34] (λap wr=> ∃j:Nat,ap=.int i64 (j:Int)/\j<=m/\Hid ((p.fs.take j).all qJ=true)/\Hid (VQ A.heap.size A P (.slice ag n c) (.slice B m aj) p wr)) (λap _=>m-(intOf ap).toNat)
   case atStart=>exact⟨0,rfl,aD _,G Qe,z⟩
   case round=>
    clear z aP;obtain⟨j,rfl,bf,aw,z⟩:=hrel;by_cases hlt:j<m
    ·have aO:(j:Int)<m:=J
     have X:j<p.fs.length:=by have:=a2.out;omega
     obtain⟨bC,c',ai,ar⟩:=z.out.rf;injection ai with aG be bg;rcases ar with ar|⟨H,af,b9,o9,hA2,hP9,hb9,pv,bv,hcl⟩
     ·rw[ar]at X;simp at X
     obtain⟨e0,cv,cU,ba,a9⟩:=hcl j X;have bk:B=some ⟨b9,o9,none⟩:=aG.trans hA2;subst bk;clear hcl aG hA2 be bg H af hP9;obtain⟨cp,co,cn⟩:=cB.out _ (ax X);have aB:=G (λu:qJ p.fs[j]=false=>show R=false by rw[<-aX.out,lJ,jo qJ p.fs j X u];simp);have bx:=G (λu:qJ p.fs[j]=true=>jV qJ p.fs j X aw.out u);have aY:=G (show qJ p.fs[j]=(eD p.fs[j].nm&&decide (p.fs[j].ps.length<=4)&&p.fs[j].ps.all eD&&p.fs[j].body.all tA)from rfl);generalize qJ p.fs[j]=bE at*;generalize p.fs[j].nm=fn at*;generalize p.fs[j].ps=F at*;generalize p.fs[j].body=w at*;generalize pv j=cI at*;generalize bv j=cV at*;obtain⟨a6,aT,rfl,cs⟩:=id ba;obtain⟨bB,bn,rfl,bh⟩:=a9.form;have bh:w.length<=maxLen:=by
      rcases bh with u|⟨H,af,_⟩
      ·rw[u];exact aD _
      ·omega
     unfold maxLen at bh;have al:=G (dR fn cp);generalize eD fn=aH at*;have ae:=aa wr (.cells #[.string (Z fn),.slice a6 F.length aT,.slice bB w.length bn] 81);have an:=G (z.out.ex ae);have bq:=G (aq wr 81 #[.string (Z fn),.slice a6 F.length aT,.slice bB w.length bn]);have aL:=bq.out.cell;have bV:=G (ba.keep (.of_ext ae) (λ_ d _=>d));have bT:=G (a9.keep (.of_ext ae) (λ_ d _=>d));have b4:=G (fun(W:World) (u:rA W P (.slice a6 F.length aT) F) (bM:F.length<=1073741824)=>C4 (λo=> !eD o) F P W a6 F.length aT u bM (λo cf w' _=>wn o (co o cf) w'));clear ae ba a9 cs
     cases aH with
     |false=>
      have I:=G (aB.out (by rw[aY.out];simp));have y:=G an.out.ext;go_wp2_with (go_at_call 57;refine(al.out _).mono ?_;rintro e ao ⟨rfl,rfl⟩);go_ret;exact⟨by rw[I.out];rfl,y.out⟩
     |true=>
      by_cases bM:4<F.length
      ·have I:=G (aB.out (by rw[aY.out];simp[show ¬F.length<=4 from by omega]));have y:=G an.out.ext;have ct:(4:Int)<F.length:=J
       go_wp2_with (go_at_call 57;refine(al.out _).mono ?_;rintro e ao ⟨rfl,rfl⟩);go_ret;exact⟨by rw[I.out];rfl,y.out⟩
      ·have ct: ¬(4:Int)<F.length:=J
       have ay:=G (b4.out _ bV.out J);have ca:=G (show F.any (λo=> !eD o)= !F.all eD from by rw[List.not_all_eq_any_not]);rw[ca.out]at ay;clear ca b4
       cases hal:F.all eD with
       |false=>
        rw[hal]at ay;have I:=G (aB.out (by rw[aY.out,hal];simp));clear hal;go_wp2_with (first|(go_at_call 57;refine(al.out _).mono ?_;rintro e ao ⟨rfl,rfl⟩)|(go_at_call 58;refine ay.out.mono ?_;rintro e cd ⟨rfl,a⟩;have y:=G (an.out.ex a).ext;clear a));go_ret;exact⟨by rw[I.out];rfl,y.out⟩
       |true=>
        rw[hal]at ay;have bQ:=G (show bE=w.all tA from by rw[aY.out,hal];simp[show F.length<=4 from by omega]);clear hal;go_wp2_with (first|(go_at_call 57;refine(al.out _).mono ?_;rintro e ao ⟨rfl,rfl⟩)|(go_at_call 58;refine ay.out.mono ?_;rintro e cd ⟨rfl,a⟩;have b5:=G (an.out.ex a);have bN:=G (bq.out.ext a);clear aL;have aL:=bN.out.cell;have bS:=G (bT.out.keep (.of_ext a) (λ_ d _=>d));clear a an));clear aL
        go_loopw [56] (λa7 wr=> ∃k:Nat,a7=.int i64 (k:Int)/\k<=w.length/\Hid ((w.take k).all tA=true)/\Hid (VQ A.heap.size A P (.slice ag n c) (.slice (some ⟨b9,o9,none⟩) m aj) p wr)/\Hid (eq wr P (.slice bB w.length bn) w)) (λa7 _=>w.length-(intOf a7).toNat)
        case atStart=>exact⟨0,rfl,aD _,G Qe,b5,bS⟩
        case round=>
         clear b5 bS bN bq bT bV ay z;obtain⟨k,rfl,cO,b8,bZ,bU⟩:=hrel;by_cases hkl:k<w.length
         ·have cm:(k:Int)<w.length:=J
          obtain⟨bs,cK,cT,cS,cR,rfl,cP,cQ,cH,cG,cF,cE,cD,bc,bd,bb⟩:=bU.out.at_ k hkl;have a8:=cn _ (ax hkl);have b7:=G (λu:tA w[k]=false=>aB.out (by rw[bQ.out,jo tA w k hkl u]));have cA:=G (λu:tA w[k]=true=>jV tA w k hkl b8.out u);have bw:=G (show tA w[k]=(decide (w[k].dep<=20)&&w[k].ok)from rfl);generalize tA w[k]=cJ at*;generalize w[k]=o at*;obtain⟨a3,aR,rfl,_⟩:=bc.form;obtain⟨a5,aU,rfl,_⟩:=bd.form;obtain⟨a4,aS,rfl,_⟩:=bb.form;have ae:=aa wr (.cells #[.int i64 o.k,.string (Z o.nm),.slice a3 o.ex.length aR,.slice a5 o.body.length aU,.slice a4 o.els.length aS] 147);have az:=G (bZ.out.ex ae);have bX:=G (bU.out.keep (.of_ext ae) (λ_ d _=>d) (Q:=P));have bp:=G (aq wr 147 #[.int i64 o.k,.string (Z o.nm),.slice a3 o.ex.length aR,.slice a5 o.body.length aU,.slice a4 o.els.length aS]);have aK:=bp.out.cell;have V:=G (aC (bc.keep (.of_ext ae) (λ_ d _=>d) (Q:=P)) (aC (bd.keep (.of_ext ae) (λ_ d _=>d) (Q:=P)) (bb.keep (.of_ext ae) (λ_ d _=>d) (Q:=P))));have bz:=G (λW H af bl=>uI o.wt o (ah _) a8 P W a3 a5 a4 o.ex.length aR o.body.length aU o.els.length aS H af bl);have bO:=G (λW H af bl=>qt o.wt o (ah _) a8 P W a3 a5 a4 o.ex.length aR o.body.length aU o.els.length aS H af bl);clear bc bd bb ae a8;generalize o.dep=bm at*;generalize o.ok=ce at*;by_cases hd:bm<=20
          ·have cr: ¬(20:Int)<bm:=J
           cases ce with
           |true=>
            have cx:=G (cA.out (by rw[bw.out];simp[hd]));go_wp2_with (first|(go_at_call 60;refine(bz.out _ V.out.1 V.out.2.1 V.out.2.2).mono ?_;rintro e bD ⟨rfl,a⟩;have aI:=G (az.out.ex a);have bW:=G (bX.out.keep (.of_ext a) (λ_ d _=>d) (Q:=P));have bo:=G (bp.out.ext a);clear aK;have aK:=bo.out.cell;have av:=G (aC (V.out.1.keep (.of_ext a) (λ_ d _=>d) (Q:=P)) (aC (V.out.2.1.keep (.of_ext a) (λ_ d _=>d) (Q:=P)) (V.out.2.2.keep (.of_ext a) (λ_ d _=>d) (Q:=P))));clear a az)|(go_at_call 61;refine(bO.out _ av.out.1 av.out.2.1 av.out.2.2).mono ?_;rintro e cc ⟨rfl,a⟩;have cC:=G (aI.out.ex a);have cz:=G (bW.out.keep (.of_ext a) (λ_ d _=>d) (Q:=P));clear a aI));go_roundw
            case rel=>exact⟨k+1,by go_num,by omega,cx,cC,cz⟩
            case measure=>simp[intOf];omega
           |false=>
            have I:=G (b7.out (by rw[bw.out];simp));go_wp2_with (first|(go_at_call 60;refine(bz.out _ V.out.1 V.out.2.1 V.out.2.2).mono ?_;rintro e bD ⟨rfl,a⟩;have aI:=G (az.out.ex a);have bW:=G (bX.out.keep (.of_ext a) (λ_ d _=>d) (Q:=P));have bo:=G (bp.out.ext a);clear aK;have aK:=bo.out.cell;have av:=G (aC (V.out.1.keep (.of_ext a) (λ_ d _=>d) (Q:=P)) (aC (V.out.2.1.keep (.of_ext a) (λ_ d _=>d) (Q:=P)) (V.out.2.2.keep (.of_ext a) (λ_ d _=>d) (Q:=P))));clear a az)|(go_at_call 61;refine(bO.out _ av.out.1 av.out.2.1 av.out.2.2).mono ?_;rintro e cc ⟨rfl,a⟩;have y:=G (aI.out.ex a).ext;clear a aI));go_ret;exact⟨by rw[I.out];rfl,y.out⟩
          ·have cr:(20:Int)<bm:=J
           have I:=G (b7.out (by rw[bw.out];simp[hd]));go_wp2_with (go_at_call 60;refine(bz.out _ V.out.1 V.out.2.1 V.out.2.2).mono ?_;rintro e bD ⟨rfl,a⟩;have y:=G (az.out.ex a).ext;clear a az);go_ret;exact⟨by rw[I.out];rfl,y.out⟩
         ·have cm: ¬(k:Int)<w.length:=J
          have cl:k=w.length:=J
          have br:=G (bx.out (by have:=b8.out;rw[cl,b6]at this;rw[bQ.out];exact this));go_wp2_with fail;go_roundw
          case rel=>exact⟨j+1,by go_num,by omega,br,bZ⟩
          case measure=>simp[intOf];omega
    ·have aO: ¬(j:Int)<m:=J
     have aF:j=m:=J
     have bt:=G (show p.fs.all qJ=true by have:=aw.out;rwa [aF,a2.out,b6]at this);have aV:=G (show R=(decide (n<=20)&&decide (m<=20)&&decide ((nj p).length<=4000)) by rw[<-aX.out,lJ,bu.out,bt.out,<-a1.out,<-a2.out];simp);have aP:=z.out.box.cell;clear bf aF aw aX;by_cases h20:n<=20
     ·have cu:(n:Int)<=20:=J
      by_cases hm20:m<=20
      ·have ck:(m:Int)<=20:=J
       have bR:=G (wO p (λf cq=>qI (List.all_eq_true.1 bt.out f cq)) (λv ai=>by have:=List.all_eq_true.1 bu.out v ai;unfold uS at this;simp only[am,decide_eq_true_eq]at this;omega) P _ ag B n c m aj z.out.rv z.out.rf ⟨(bP.out.fb (aW z.out.ext (ah _))).1,aA bP.out.2 z.out.ext.size⟩ (cy.out bu.out bt.out (by have:=a1.out;omega) (by have:=a2.out;omega)));generalize nj p=S at*;have cN:(Z S).size=S.length:=aZ S;by_cases hs:S.length<=4000
       ·have ch:(S.length:Int)<=4000:=J
        go_wp2_with (go_at_call 62;refine bR.out.mono ?_;rintro e cb ⟨rfl,a⟩;have y:=G (z.out.ex a).ext;clear a);go_ret;exact⟨by rw[aV.out];simp[h20,hm20,hs,dX],y.out⟩
       ·have ch: ¬(S.length:Int)<=4000:=J
        go_wp2_with (go_at_call 62;refine bR.out.mono ?_;rintro e cb ⟨rfl,a⟩;have y:=G (z.out.ex a).ext;clear a);go_ret;exact⟨by rw[aV.out];simp[h20,hm20,hs,dX];(try omega),y.out⟩
      ·have ck: ¬(m:Int)<=20:=J
       have y:=G z.out.ext;go_wp2_with fail;go_ret;exact⟨by rw[aV.out];simp[h20,hm20,dX],y.out⟩
     ·have cu: ¬(n:Int)<=20:=J
      have y:=G z.out.ext;go_wp2_with fail;go_ret;exact⟨by rw[aV.out];simp[h20,dX],y.out⟩
theorem sd: ∀(f:Nat) (m:List UInt8) (t:List UInt8) (n:Nat),p5 f m=some (t,n)->t.length+1<=n
 |0,m,t,n,h=>by cases h
 |f+1,[],t,n,h=>by cases h
 |f+1,c::r,t,n,h=>by
  simp only[p5]at h;split at h
  ·cases h;simp
  ·split at h
   ·cases h
   ·obtain⟨⟨a,d⟩,u,o⟩:=Option.map_eq_some_iff.1 h
    cases o;have:=sd f _ a d u;show(_::a).length+1<=(cY (c::r)).2+d;rw[ag];omega
theorem yX {c:UInt8} {r:List UInt8} {k:Int} {t:List UInt8} {v:Int} {n:Nat} (a:lT (c::r)=.ok ((k,t,v),n)):t.length<=n:=by
 simp only[lT]at a;split at a
 ·unfold lu at a;split at a
  ·cases a;rw[bG];omega
  ·split at a
   ·cases a
   ·cases a;rw[bG];omega
 ·split at a
  ·unfold jO at a;split at a
   ·cases a
   ·split at a
    ·cases a
    ·cases a;simp
  ·split at a
   ·unfold kg at a;split at a
    ·cases a
    ·cases a;simp
   ·split at a
    ·unfold ky at a;split at a
     ·cases a
     ·rename_i h o d;split at a
      ·cases a
      ·cases a;have:=sd _ _ _ _ d;omega
    ·unfold j_ at a;split at a
     ·cases a;rw[bG];omega
     ·split at a
      ·cases a;rw[bG];omega
      ·cases a
theorem x8: ∀(f:Nat) (m:List UInt8) (d:Nat) (a:List cB),jb f m d=.ok a->dW a<=3*m.length
 |0,m,d,a,h=>by cases h;simp[dW]
 |f+1,m,d,a,h=>by
  simp only[jb]at h;split at h
  ·cases h;simp[dW]
  ·rename_i c r A;split at h
   ·cases h
   ·rename_i k t v n o;have y:=qp o;have F:=yX o;split at h
    ·cases h
    ·rename_i u w
     cases h;have:=x8 f _ _ u w;have z:(c::r).length<=m.length:=by rw[<-A,bK];omega
     rw[bK]at this;simp only[dW,ag]at this z y⊢;omega
theorem mV: ∀(f:Nat) (m:List UInt8) (d:Nat) (a:List cB),jb f m d=.ok a->a.length<=m.length
 |0,m,d,a,h=>by cases h;simp
 |f+1,m,d,a,h=>by
  simp only[jb]at h;split at h
  ·cases h;simp
  ·rename_i c r A;split at h
   ·cases h
   ·rename_i k t v n w;have y:=qp w;split at h
    ·cases h
    ·rename_i o u
     cases h;have:=mV f _ _ o u;have z:(c::r).length<=m.length:=by rw[<-A,bK];omega
     rw[bK]at this;simp only[ag]at this z y⊢;omega
theorem x7 (l:List UInt8):(ja l).1.length<=4000/\dW (ja l).1<=12000:=by
 unfold ja;split
 ·simp[dW]
 ·split
  ·rename_i h _ a d;have:=mV _ _ _ _ d;have:=x8 _ _ _ _ d;show a.length<=4000/\dW a<=12000;omega
  ·simp[dW]
def ow:Pg:=⟨[],[]⟩
def xe (n:Nat) (ts:List cB):Pg×Int×Int:=match d9 (4*ts.length+8) ow ts with
 | .ok (p,_)=>if lJ p then(p,0,0)else(ow,0,6)
 | .error (q,e)=>(ow,IE n q,e)
def dB (s:List UInt8):Pg×Int×Int:=if(ja s).2.2=0 then xe s.length (ja s).1 else(ow,(ja s).2.1,(ja s).2.2)
theorem BR {p:Pg} (u:mC p<=6000000) (a:p.vs.all uS=true) (d:p.fs.all qJ=true) (o:p.vs.length<=20) (h:p.fs.length<=20):(nj p).length<=1000000000:=by
 have:=Be a d o h;have:=BJ p;omega
theorem FJ {p:Pg} {v:Vr} (a:v∈p.vs):v.nm.length<=mC p:=by
 have:=tL (λv:Vr=>v.nm.length+1) p.vs v a;unfold mC;omega
theorem uQ {p:Pg} {f:Fc} (a:f∈p.fs):f.wt<=mC p:=by
 have:=tL (λf:Fc=>f.wt+1) p.fs f a;unfold mC;omega
theorem BI {f:Fc}:f.nm.length<=f.wt:=by unfold Fc.wt;omega
theorem FK {f:Fc} {a:List UInt8} (d:a∈f.ps):a.length<=f.wt:=by
 have:=tL (λs:List UInt8=>s.length+1) f.ps a d;unfold Fc.wt;omega
theorem If {f:Fc} {s:St} (a:s∈f.body):s.wt<=f.wt:=by
 have:=cM a;unfold Fc.wt;omega
theorem xY (p:Pg) (w:mC p<=6000000) (P:Nat->Prop) (a:World) (o B:Option Addr) (n c m h:Nat) (A:nM a P (.slice o n c) p.vs) (G:nP a P (.slice B m h) p.fs) (F:ew a a.heap.size):
  Calls prog 28 #[.agg #[.slice o n c,.slice B m h]] a λe w'=>e=.returned (.bool (lJ p))/\au a w':=
 yN p (λv y=>by have:=FJ y;omega) P a o B n c m h
  (λf d=>⟨by have:=uQ d;have:=BI (f:=f);omega,λI u=>by have:=uQ d;have:=FK u;omega,λs z=>by have:=uQ d;have:=If z;omega⟩)
  (λaa X V R=>BR w aa X V R) A G F
theorem Gy {n:Nat} {a:List cB} (o:dW a<=12000):mC (xe n a).1<=12000:=by
 unfold xe;split
 ·rename_i p r d;have:=(tn _ _ _ _ _ d).1;split
  ·show mC p<=_;have h:mC ow=0:=rfl;omega
  ·exact aD _
 ·exact aD _
theorem Gz (s:List UInt8):mC (dB s).1<=12000:=by
 unfold dB;split
 ·exact Gy (x7 s).2
 ·exact aD _
end
section
def IL (v:Int):Prop:= -2147483648<=v/\v<2147483648
instance (v:Int):Decidable (IL v):=inferInstanceAs (Decidable (_/\ _))
theorem xW (v:Int):IL (wm v):=by unfold wm IL;simp[IntKind.wrap,IntKind.signed,IntKind.bits];omega
def oe (x:Ex):Pg:=⟨[],[⟨dH,[],[.mk 6 [] [x] [] []]⟩]⟩
theorem D7 {x:Ex} (d:x.ok=true) (z:x.dep<=19) (y:x.wt<=200):lJ (oe x)=true:=by
 have a:pM [.mk 6 [] [x] [] []]=true:=by simp[pM,St.ok,r7,d]
 have o:qJ ⟨dH,[],[.mk 6 [] [x] [] []]⟩=true:=by
  have w:eD dH=true:=Qd
  have u:(St.mk 6 [] [x] [] []).dep<=20:=by simp[St.dep,ie,iF];omega
  unfold qJ;rw[w];simp only[pM,gQ]at a;simp[u,a]
 have h:(nj (oe x)).length<=4000:=by
  have:=uD x d;have e:nj (oe x)=[102,117,110,99,32,109,97,105,110,40,41,32,123,10,9,114,101,116,117,114,110,32]++(de x++[59,10,125,10]):=by
   simp[nj,oe,nk,cu,eQ,l5,f7,gC,lG,eY,dH,AV,p']
  rw[e];simp only[H,ag,ai];omega
 unfold lJ;rw[show(oe x).vs.all uS=true from rfl,show(oe x).fs.all qJ=true from by simp[oe,o],decide_eq_true h];rfl
theorem D8 {x:Ex} (w: ∀g lo,g.arr=(λ_=>none)->qj g lo x=.ok ()) (y:ek x<=7):lB (oe x)=.ok ():=by
 have u:sT (oe x)=.ok (tE.addF ⟨dH,[],[.mk 6 [] [x] [] []]⟩):=by
  have a:tE.known gK dH=false:=Qd
  simp only[sT,oe,oW,nf,fA,a];simp[CR.then,Gl.addF]
 have a:ks (tE.addF ⟨dH,[],[.mk 6 [] [x] [] []]⟩) (oe x).fs=.ok ():=by
  have o: ∀g lo,g.arr=(λ_=>none)->gV g lo [.mk 6 [] [x] [] []]=.ok lo:=λg lo d=>by
   rw[gV,vO,if_neg Qd,if_neg Qd,if_neg Qd,p8,w g lo d];rfl
  show ks _ [⟨dH,[],[.mk 6 [] [x] [] []]⟩]=_;rw[ks];show CR.then (gV _ gK [.mk 6 [] [x] [] []]) _=_;rw[o _ _ rfl];rfl
 have h:gk (oe x).fs=.ok ():=by
  show gk [⟨dH,[],[.mk 6 [] [x] [] []]⟩]=_;rw[gk,if_neg (by simp[cK,mO,nO,IY];omega)];rfl
 unfold lB;rw[u,fA,a,fA,h]
end
section
open Go.RowKit
theorem au.drewN {d a:World} (h:au d a) (n:Nat):au d (a.drewN n):=h.trans ⟨rfl,rfl,rfl,ah _,λ_ _=>rfl⟩
def G':Array Value:=(sD.flatMap λx=>[.string (Z x.1),.int i64 x.2.1,.string (Z x.2.2)]).toArray
def Ah (i:Nat):List UInt8×Int×List UInt8:=sD.getD i ([],0,[])
def BT (w:World):Prop:= ∃t fr,w.heap[1]? =some (.cells G' t fr)
theorem BT.ext {d w':World} (a:BT d) (h:au d w'):BT w':=let⟨t,fr,a⟩:=a;⟨t,fr,(h.obj (Array.getElem?_eq_some_iff.1 a).1).trans a⟩
theorem BT.load {a:World} (d:BT a):(loadVar 295 ⟨1,0,none⟩).run prog a=.ok (.agg G') a:=
 let⟨t,fr,d⟩:=d;run_loadVar_row a _ t _ G' fr _ d underlying295 rfl Qb
theorem Dq: ∀(i:Nat) (hi:i<19) (a:World),(Instr.index 295 (.agg G') (.int i64 (i:Int))).run prog a=.ok (.agg #[.string (Z (Ah i).1),.int i64 (Ah i).2.1,.string (Z (Ah i).2.2)]) a
 |0,_,a=>by kernel_rfl
 |1,_,a=>by kernel_rfl
 |2,_,a=>by kernel_rfl
 |3,_,a=>by kernel_rfl
 |4,_,a=>by kernel_rfl
 |5,_,a=>by kernel_rfl
 |6,_,a=>by kernel_rfl
 |7,_,a=>by kernel_rfl
 |8,_,a=>by kernel_rfl
 |9,_,a=>by kernel_rfl
 |10,_,a=>by kernel_rfl
 |11,_,a=>by kernel_rfl
 |12,_,a=>by kernel_rfl
 |13,_,a=>by kernel_rfl
 |14,_,a=>by kernel_rfl
 |15,_,a=>by kernel_rfl
 |16,_,a=>by kernel_rfl
 |17,_,a=>by kernel_rfl
 |18,_,a=>by kernel_rfl
 |n+19,h,_=>absurd h J
theorem ci {P:Program} {a:World} {ops:Array Oper} {rest:List Oper} {d:Oper} {h:Act} {Q:Exit->Act->World->Prop} (y:d.guard=none) (ty:TypeId) (x:Operand) (u:d.op=.load ty x) (g:Nat) (o:h.eval x=.pointer (some ⟨g,0,none⟩))
  (v:Value) (w:(loadVar ty ⟨g,0,none⟩).run P a=.ok v a) (A:wpList P ops Q rest (h.put d.dst v) a):wpList P ops Q (d::rest) h a:=by
 refine wpList_plain y λF z=> ?_;unfold Oper.wp;simp[execOp,u,Instr.loadAt,Instr.sureAddr,o,w,Result.andThen];exact z _ _ A
theorem Af (s:List UInt8):fX s=((sD.drop 0).find? (λx=>x.1==s)).map (·.2):=rfl
theorem Fk {s:List UInt8} {i:Nat} (hi:i<19):((sD.drop i).find? (λx=>x.1==s)).map (·.2)=if(Ah i).1==s then some (Ah i).2 else((sD.drop (i+1)).find? (λx=>x.1==s)).map (·.2):=by
 have a:i<sD.length:=hi;have e:sD[i]=Ah i:=by unfold Ah;rw[bN,aH a];rfl
 rw[ap a,jk,e]
 cases (Ah i).1==s<;>rfl
def G7:Bi->Ending
 |some (c,a)=> .returned (.tuple #[.int i64 c,.string (Z a),.bool true])
 |none=> .returned (.tuple #[.int i64 0,.string (Z []),.bool false])
theorem mL (s:List UInt8) (a:World) (A:BT a):Calls prog 175 #[.string (Z s)] a λe w'=>e=G7 (fX s)/\au a w':=by
 have u:=A.load;have ad:=G (Af s);have H:=G (aI a);clear A;generalize z:G'=C at u;have ae:=G z;clear z;go_enter func175,ntmps175;go_wp2_with (refine ci rfl 295 (.global 1) rfl _ rfl _ u ?_);clear u
 go_loopw [8] (λo wr=> ∃(j:Nat),o=.int i64 (j:Int)/\j<=19/\Hid (fX s=((sD.drop j).find? (λx=>x.1==s)).map (·.2))/\Hid (au a wr)) (λo _=>19-(intOf o).toNat)
 case atStart=>exact⟨0,rfl,by omega,ad,H⟩
 case round=>
  obtain⟨j,rfl,af,y,R⟩:=hrel;by_cases hlt:j<19
  ·have aa:(j:Int)<19:=J
   have I:=Dq j hlt wr;rw[ae.out]at I;have V:=G (Fk (s:=s) hlt);generalize Ah j=X at*;obtain⟨nm,c,w⟩:=X;have F:=G (R.out.alloc' (.cells #[.string (Z nm),.int i64 c,.string (Z w)] 294))
   cases hs:(nm==s)with
   |true=>
    have d:=G (show fX s=some (c,w) by rw[y.out,V.out,hs];rfl);go_wp2_with (go_quiet (fail));exact bodyPost_ret (v:=.tuple #[.int i64 c,.string (Z w),.bool true]) (by simp[results,results175,go_sem]) rfl ⟨by rw[d.out];rfl,F.out.drewN _⟩
   |false=>
    have d:=G (show fX s=((sD.drop (j+1)).find? (λx=>x.1==s)).map (·.2) by rw[y.out,V.out,hs];rfl);go_wp2_with fail;go_roundw
    case rel=>exact⟨j+1,by go_num,by omega,d,F⟩
    case measure=>simp[intOf];omega
  ·have aa: ¬(j:Int)<19:=J
   obtain rfl:j=19:=J
   have d:=G (show fX s=none from y.out);go_wp2_with fail;exact bodyPost_ret (v:=.tuple #[.int i64 0,.string (Z []),.bool false]) (by simp[results,results175,go_sem,Z]) rfl ⟨by rw[d.out];rfl,R.out⟩
end
end Go.Proofs.YtoedmpgicdekmaaGreatDoor
