/- Parts of the proof. -/
import Derived.Test.YtoedmpgicdekmaaGreatDoorCl13
import Derived.Test.YtoedmpgicdekmaaGreatDoorCl14
set_option maxRecDepth 100000
set_option maxHeartbeats 8000000
set_option linter.all false
namespace Go.Proofs.YtoedmpgicdekmaaGreatDoor
open Value renaming int->Zr,slice->Zs,string->Zt,agg->Zu,bool->Zv,pointer->Zw,tuple->Zx
open Go.Proofs.Tryz
section
open Go.RowKit
theorem tW (i:Nat) (d:i<=1000000000) (a:World):Calls prog 173 #[Zt ⟨#[9]⟩,Zr .i64 (i:Int)] a λe w'=>e= .returned (Zt (ak (lb i)))/\au a w':=by
 refine(Tryz.strings_Repeat ⟨#[9]⟩ i a Qa (by show 1*i<=_;omega)).mono ?_;rintro e w' ⟨rfl,d⟩;refine⟨?_,d⟩;have:=Lib.repeatL_replicate 9 1 i;rw[lr]at this;rw[show((⟨#[9]⟩:ByteArray).data.toList)=List.replicate 1 9 from rfl,this];rfl
structure PB (b:Nat) (w0:World) (P:Nat->Prop) (v:Value) (xs:List St) (l:Zy) (W:World):Prop where
 bu:Bu W b l
 rd:ed W P v xs
 fb:FB b w0 W
 tab:ea W b
 hP: ∀k,P k->k<b
section
variable {b:Nat} {w0 W W':World} {P:Nat->Prop} {v:Value} {xs:List St} {l l':Zy}
theorem PB.wr (a:PB b w0 P v xs l W) (o:Bu W' b l') (d:FB b W W'):PB b w0 P v xs l' W':=⟨o,a.rd.keep (d.keepP a.hP) (λ_ h _=>h),a.fb.trans d,a.tab.fb d,a.hP⟩
theorem PB.ex (a:PB b w0 P v xs l W) (d:au W W'):PB b w0 P v xs l W':=a.wr (a.bu.ext d) (aV d (aH a.bu.lt))
end
theorem JF (nm:Zy) (I:List St) (w:Ex) (aB:pu w) (av:mr I) (P:Nat->Prop) (a:World) (aA B C:Option Addr) (n c z H an X b i:Nat) (l:Zy) (ad:dL a P (Zs aA n c) [w]) (ay:ed a P (Zs B z H) I) (ao:ed a P (Zs C an X) []) (o: ∀k,P k->k<b) (aw:ea a b) (M:Bu a b l) (S:Zy) (ax:eH (.mk 4 nm [w] I []) i=S) (aN:l.length+S.length<=1000000000):
  Calls prog 217 #[Zw (some ⟨b,0,none⟩),Zu #[Zr .i64 4,Zt (ak nm),Zs aA n c,Zs B z H,Zs C an X],Zr .i64 (i:Int)] a λe w'=>e= .returned (Zx #[])/\Bu w' b (l++S)/\FB b a w':=by
 have az:=G (show[105,102,32]++c_ w++[32]++f_ i (ch I (i+1))++[]=S from by rw[<-ax];simp[eH,lH,ch,fM,oM,G5,pX]);have aM:3+(c_ w).length+1+(f_ i (ch I (i+1))).length+0=S.length:=by rw[<-az.o];simp only[ac,ag,ai]
 clear ax;have ar:=ao.len;simp only[ag,ai]at ar;obtain rfl:an=0:=ar;have au:=ad.len;simp only[ag,ai]at au;obtain rfl:n=1:=au;obtain⟨b0,u,a0,aD,A,F,am,al,aj,ah,af,ae,ab⟩:=ad.at_ 0 Qe;simp only[aF,aP,aY,bm,cP]at am al aj ah af ae ab;obtain⟨aK,aE,rfl,_⟩:=ab.form;obtain⟨J,aJ⟩:=Zf (aC am (aC al (aC aj (aC ah (aC af ae))))) ab;clear am al aj ah af ae ab;subst aD;have d:=G (show PS b a.heap.size a P #[Zr .i64 4,Zt (ak nm),Zs (some ⟨b0,u,none⟩) 1 c,Zs B z H,Zs C 0 X] (Zs (some ⟨b0,u,none⟩) 1 c) (Zs B z H) (Zs C 0 X) (.mk 4 nm [w] I []) l _ from⟨aq a 147 #[Zr .i64 4,Zt (ak nm),Zs (some ⟨b0,u,none⟩) 1 c,Zs B z H,Zs C 0 X],M.ext (aa a _),ad.keep (.of_ext (aa a _)) (λ_ y _=>y),ay.keep (.of_ext (aa a _)) (λ_ y _=>y),ao.keep (.of_ext (aa a _)) (λ_ y _=>y),aV (aa a _) (aH M.lt),aw.fb (aV (aa a _) (aH M.lt)),bU M.lt,by decide,o⟩);have Z:=d.o.box.cell;clear M ad aw ay ao;unfold mr at av;go_enter func217,ntmps217;obtain⟨e0,aT,aS,aR,aQ,aO⟩:=Zp ((d.o.fb.keepP o).cell (u) F A|>.trans J.o.1) ((d.o.fb.keepP o).cell (u+1) F A|>.trans J.o.2.1) ((d.o.fb.keepP o).cell (u+2) F A|>.trans J.o.2.2.1) ((d.o.fb.keepP o).cell (u+3) F A|>.trans J.o.2.2.2.1) ((d.o.fb.keepP o).cell (u+4) F A|>.trans J.o.2.2.2.2.1) ((d.o.fb.keepP o).cell (u+5) F A|>.trans J.o.2.2.2.2.2);go_wp2_with (first|(go_at_call 216;refine(fl w aB [105,102,32] [32] P _ aK _ aE b l (aJ.o.keep (d.o.fb.keepP o) (λ_ y _=>y)) o d.o.tab d.o.bu (by(try have aI:=Hzc1.o);(try have aG:=Hzc2.o);simp only[ac,ag,ai];omega)).mono ?_;rintro e u1 ⟨rfl,V,R⟩;have K:=G (d.o.wr V R);clear V R d;clear Z;have Z:=K.o.box.cell)|(go_at_call 121;refine(av P _ B z H b i (l++([105,102,32]++c_ w++[32])) K.o.rb o K.o.tab K.o.bu (by(try have aI:=Hzc1.o);(try have aG:=Hzc2.o);simp only[ac,ag,ai];omega)).mono ?_;rintro e u2 ⟨rfl,V,R⟩;have ap:=G (K.o.wr V R);clear V R K;clear Z;have Z:=ap.o.box.cell));first|go_end0|((try simp only[Exit.inBlock,Exit.then]);refine bodyPost_ret (results_none rfl _ _ _) rfl ?_)
 exact⟨rfl,by rw[<-az.o];have:=ap.o.bu;simpa[aL]using this,ap.o.fb⟩
theorem JE (nm:Zy) (R:List St) (H:Ex) (a7:pu H) (aS:mr R) (s:St) (aR:s.k=4) (aJ:wY s) (P:Nat->Prop) (d:World) (a6 B C:Option Addr) (n c V ad aI aj b i:Nat) (l:Zy) (ar:dL d P (Zs a6 n c) [H]) (aW:ed d P (Zs B V ad) R) (ap:ed d P (Zs C aI aj) [s]) (a: ∀k,P k->k<b) (aT:ea d b) (ah:Bu d b l) (S:Zy) (aU:eH (.mk 4 nm [H] R [s]) i=S) (bn:l.length+S.length<=1000000000):
  Calls prog 217 #[Zw (some ⟨b,0,none⟩),Zu #[Zr .i64 4,Zt (ak nm),Zs a6 n c,Zs B V ad,Zs C aI aj],Zr .i64 (i:Int)] d λe w'=>e= .returned (Zx #[])/\Bu w' b (l++S)/\FB b d w':=by
 have a4:=G (show[105,102,32]++c_ H++[32]++f_ i (ch R (i+1))++([32,101,108,115,101,32]++eH s i)=S from by rw[<-aU];simp[eH,lH,ch,fM,oM,G5,pX,aR]);have bl:3+(c_ H).length+1+(f_ i (ch R (i+1))).length+(6+(eH s i).length)=S.length:=by rw[<-a4.o];simp only[ac,ag,ai]
 clear aU;have aO:=ap.len;simp only[ag,ai]at aO;obtain rfl:aI=1:=aO;obtain⟨bs,o,bk,bj,sz,a8,I,J,aG,aE,aD,aB,aA,am,an,al⟩:=ap.at_ 0 Qe;simp only[aF,aY,bm]at aG aE aD aB aA am an al;obtain⟨bf,bc,rfl,_⟩:=am.form;obtain⟨bh,bd,rfl,_⟩:=an.form;obtain⟨bg,bb,rfl,_⟩:=al.form;subst a8;obtain⟨F,aN⟩:=Zf (aC aG (aC aE (aC aD (aC aB aA)))) (aC am (aC an al));clear aG aE aD aB aA am an al;have aQ:=ar.len;simp only[ag,ai]at aQ;obtain rfl:n=1:=aQ;obtain⟨b0,K,a0,a9,Z,ab,az,ay,ax,aw,av,au,ao⟩:=ar.at_ 0 Qe;simp only[aF,aP,aY,bm,cP]at az ay ax aw av au ao;obtain⟨bi,ba,rfl,_⟩:=ao.form;obtain⟨ae,be⟩:=Zf (aC az (aC ay (aC ax (aC aw (aC av au))))) ao;clear az ay ax aw av au ao;subst a9;have y:=G (show PS b d.heap.size d P #[Zr .i64 4,Zt (ak nm),Zs (some ⟨b0,K,none⟩) 1 c,Zs B V ad,Zs (some ⟨bs,o,none⟩) 1 aj] (Zs (some ⟨b0,K,none⟩) 1 c) (Zs B V ad) (Zs (some ⟨bs,o,none⟩) 1 aj) (.mk 4 nm [H] R [s]) l _ from⟨aq d 147 #[Zr .i64 4,Zt (ak nm),Zs (some ⟨b0,K,none⟩) 1 c,Zs B V ad,Zs (some ⟨bs,o,none⟩) 1 aj],ah.ext (aa d _),ar.keep (.of_ext (aa d _)) (λ_ u _=>u),aW.keep (.of_ext (aa d _)) (λ_ u _=>u),ap.keep (.of_ext (aa d _)) (λ_ u _=>u),aV (aa d _) (aH ah.lt),aT.fb (aV (aa d _) (aH ah.lt)),bU ah.lt,by decide,a⟩);have X:=y.o.box.cell;clear ah ar aT aW ap;unfold mr at aS;unfold wY at aJ;rw[aR]at F aJ;go_enter func217,ntmps217;obtain⟨e0,bt,br,bq,bp,bo⟩:=Zp ((y.o.fb.keepP a).cell (K) ab Z|>.trans ae.o.1) ((y.o.fb.keepP a).cell (K+1) ab Z|>.trans ae.o.2.1) ((y.o.fb.keepP a).cell (K+2) ab Z|>.trans ae.o.2.2.1) ((y.o.fb.keepP a).cell (K+3) ab Z|>.trans ae.o.2.2.2.1) ((y.o.fb.keepP a).cell (K+4) ab Z|>.trans ae.o.2.2.2.2.1) ((y.o.fb.keepP a).cell (K+5) ab Z|>.trans ae.o.2.2.2.2.2);go_wp2_with (first|(go_at_call 216;refine(fl H a7 [105,102,32] [32] P _ bi _ ba b l (be.o.keep (y.o.fb.keepP a) (λ_ u _=>u)) a y.o.tab y.o.bu (by(try have aM:=Hzc1.o);(try have aK:=Hzc2.o);simp only[ac,ag,ai];omega)).mono ?_;rintro e u1 ⟨rfl,A,z⟩;have af:=G (y.o.wr A z);clear A z y;clear X;have X:=af.o.box.cell)|(go_at_call 121;refine(aS P _ B V ad b i (l++([105,102,32]++c_ H++[32])) af.o.rb a af.o.tab af.o.bu (by(try have aM:=Hzc1.o);(try have aK:=Hzc2.o);simp only[ac,ag,ai];omega)).mono ?_;rintro e u2 ⟨rfl,A,z⟩;have M:=G (af.o.wr A z);clear A z af;clear X;obtain⟨X,a3,a2,a1,aZ,aX⟩:=Zp M.o.box.cell ((M.o.fb.keepP a).cell (o) J I|>.trans F.o.1) ((M.o.fb.keepP a).cell (o+1) J I|>.trans F.o.2.1) ((M.o.fb.keepP a).cell (o+2) J I|>.trans F.o.2.2.1) ((M.o.fb.keepP a).cell (o+3) J I|>.trans F.o.2.2.2.1) ((M.o.fb.keepP a).cell (o+4) J I|>.trans F.o.2.2.2.2))|(go_at_call 118;refine(cY b ((l++([105,102,32]++c_ H++[32]))++f_ i (ch R (i+1))) [32,101,108,115,101,32] _ M.o.bu (by(try have aM:=Hzc1.o);(try have aK:=Hzc2.o);(try simp only[ac,ag,ai]);omega)).mono ?_;rintro e u3 ⟨rfl,A,z⟩;have w:=G (M.o.wr A z);clear A z M;clear X;have X:=w.o.box.cell;clear a3 a2 a1 aZ aX;obtain⟨a3,a2,a1,aZ,aX⟩:=Zo ((w.o.fb.keepP a).cell (o) J I|>.trans F.o.1) ((w.o.fb.keepP a).cell (o+1) J I|>.trans F.o.2.1) ((w.o.fb.keepP a).cell (o+2) J I|>.trans F.o.2.2.1) ((w.o.fb.keepP a).cell (o+3) J I|>.trans F.o.2.2.2.1) ((w.o.fb.keepP a).cell (o+4) J I|>.trans F.o.2.2.2.2))|(go_at_call 217;refine(aJ P _ bf bh bg _ bc _ bd _ bb b i (((l++([105,102,32]++c_ H++[32]))++f_ i (ch R (i+1)))++[32,101,108,115,101,32]) (aN.o.1.keep (w.o.fb.keepP a) (λ_ u _=>u)) (aN.o.2.1.keep (w.o.fb.keepP a) (λ_ u _=>u)) (aN.o.2.2.keep (w.o.fb.keepP a) (λ_ u _=>u)) a w.o.tab w.o.bu (by(try have aM:=Hzc1.o);(try have aK:=Hzc2.o);(try simp only[ac,ag,ai]);omega)).mono ?_;rintro e u4 ⟨rfl,A,z⟩;have a5:=G (w.o.wr A z);clear A z w));first|go_end0|((try simp only[Exit.inBlock,Exit.then]);refine bodyPost_ret (results_none rfl _ _ _) rfl ?_)
 exact⟨rfl,by rw[<-a4.o];have:=a5.o.bu;simpa[aL]using this,a5.o.fb⟩
theorem JD (nm:Zy) (H:List St) (y:Ex) (a1:pu y) (aR:mr H) (s:St) (aO:s.k≠4) (aQ:mr [s]) (P:Nat->Prop) (a:World) (aZ B C:Option Addr) (n c K Z aI X b i:Nat) (l:Zy) (ar:dL a P (Zs aZ n c) [y]) (aU:ed a P (Zs B K Z) H) (ap:ed a P (Zs C aI X) [s]) (d: ∀k,P k->k<b) (aS:ea a b) (ah:Bu a b l) (S:Zy) (aT:eH (.mk 4 nm [y] H [s]) i=S) (bb:l.length+S.length<=1000000000):
  Calls prog 217 #[Zw (some ⟨b,0,none⟩),Zu #[Zr .i64 4,Zt (ak nm),Zs aZ n c,Zs B K Z,Zs C aI X],Zr .i64 (i:Int)] a λe w'=>e= .returned (Zx #[])/\Bu w' b (l++S)/\FB b a w':=by
 have aW:=G (show[105,102,32]++c_ y++[32]++f_ i (ch H (i+1))++([32,101,108,115,101,32]++f_ i (ch [s] (i+1)))=S from by rw[<-aT];simp[eH,lH,ch,fM,oM,G5,pX,aO]);have ba:3+(c_ y).length+1+(f_ i (ch H (i+1))).length+(6+(f_ i (ch [s] (i+1))).length)=S.length:=by rw[<-aW.o];simp only[ac,ag,ai]
 clear aT;have aM:=ap.len;simp only[ag,ai]at aM;obtain rfl:aI=1:=aM;obtain⟨bs,z,a8,a7,sz,a2,ae,af,aG,aE,aD,aB,aA,am,an,al⟩:=ap.at_ 0 Qe;simp only[aF,aY,bm]at aG aE aD aB aA am an al;obtain⟨br,bo,rfl,_⟩:=am.form;obtain⟨bv,bp,rfl,_⟩:=an.form;obtain⟨bt,bn,rfl,_⟩:=al.form;subst a2;obtain⟨aj,bq⟩:=Zf (aC aG (aC aE (aC aD (aC aB aA)))) (aC am (aC an al));clear aG aE aD aB aA am an al;have aN:=ar.len;simp only[ag,ai]at aN;obtain rfl:n=1:=aN;obtain⟨b0,A,a0,a3,R,V,az,ay,ax,aw,av,au,ao⟩:=ar.at_ 0 Qe;simp only[aF,aP,aY,bm,cP]at az ay ax aw av au ao;obtain⟨a6,a4,rfl,_⟩:=ao.form;obtain⟨ab,a5⟩:=Zf (aC az (aC ay (aC ax (aC aw (aC av au))))) ao;clear az ay ax aw av au ao;subst a3;have o:=G (show PS b a.heap.size a P #[Zr .i64 4,Zt (ak nm),Zs (some ⟨b0,A,none⟩) 1 c,Zs B K Z,Zs (some ⟨bs,z,none⟩) 1 X] (Zs (some ⟨b0,A,none⟩) 1 c) (Zs B K Z) (Zs (some ⟨bs,z,none⟩) 1 X) (.mk 4 nm [y] H [s]) l _ from⟨aq a 147 #[Zr .i64 4,Zt (ak nm),Zs (some ⟨b0,A,none⟩) 1 c,Zs B K Z,Zs (some ⟨bs,z,none⟩) 1 X],ah.ext (aa a _),ar.keep (.of_ext (aa a _)) (λ_ I _=>I),aU.keep (.of_ext (aa a _)) (λ_ I _=>I),ap.keep (.of_ext (aa a _)) (λ_ I _=>I),aV (aa a _) (aH ah.lt),aS.fb (aV (aa a _) (aH ah.lt)),bU ah.lt,by decide,d⟩);have M:=o.o.box.cell;clear ah ar aS aU ap;unfold mr at aR;unfold mr at aQ;have a9:(s.k==4)=false:=by rw[Qn];exact aO
 go_enter func217,ntmps217;obtain⟨e0,bl,bk,bj,bi,bh⟩:=Zp ((o.o.fb.keepP d).cell (A) V R|>.trans ab.o.1) ((o.o.fb.keepP d).cell (A+1) V R|>.trans ab.o.2.1) ((o.o.fb.keepP d).cell (A+2) V R|>.trans ab.o.2.2.1) ((o.o.fb.keepP d).cell (A+3) V R|>.trans ab.o.2.2.2.1) ((o.o.fb.keepP d).cell (A+4) V R|>.trans ab.o.2.2.2.2.1) ((o.o.fb.keepP d).cell (A+5) V R|>.trans ab.o.2.2.2.2.2);go_wp2_with (first|(go_at_call 216;refine(fl y a1 [105,102,32] [32] P _ a6 _ a4 b l (a5.o.keep (o.o.fb.keepP d) (λ_ I _=>I)) d o.o.tab o.o.bu (by(try have aK:=Hzc1.o);(try have aJ:=Hzc2.o);simp only[ac,ag,ai];omega)).mono ?_;rintro e u1 ⟨rfl,w,u⟩;have ad:=G (o.o.wr w u);clear w u o;clear M;have M:=ad.o.box.cell)|(go_at_call 121;refine(aR P _ B K Z b i (l++([105,102,32]++c_ y++[32])) ad.o.rb d ad.o.tab ad.o.bu (by(try have aK:=Hzc1.o);(try have aJ:=Hzc2.o);simp only[ac,ag,ai];omega)).mono ?_;rintro e u2 ⟨rfl,w,u⟩;have F:=G (ad.o.wr w u);clear w u ad;clear M;obtain⟨M,bg,bf,be,bd,bc⟩:=Zp F.o.box.cell ((F.o.fb.keepP d).cell (z) af ae|>.trans aj.o.1) ((F.o.fb.keepP d).cell (z+1) af ae|>.trans aj.o.2.1) ((F.o.fb.keepP d).cell (z+2) af ae|>.trans aj.o.2.2.1) ((F.o.fb.keepP d).cell (z+3) af ae|>.trans aj.o.2.2.2.1) ((F.o.fb.keepP d).cell (z+4) af ae|>.trans aj.o.2.2.2.2))|(go_at_call 118;refine(cY b ((l++([105,102,32]++c_ y++[32]))++f_ i (ch H (i+1))) [32,101,108,115,101,32] _ F.o.bu (by(try have aK:=Hzc1.o);(try have aJ:=Hzc2.o);(try simp only[ac,ag,ai]);omega)).mono ?_;rintro e u3 ⟨rfl,w,u⟩;have J:=G (F.o.wr w u);clear w u F;clear M;have M:=J.o.box.cell)|(go_at_call 121;guard_hyp J;refine(aQ P _ (some ⟨bs,z,none⟩) 1 X b i (((l++([105,102,32]++c_ y++[32]))++f_ i (ch H (i+1)))++[32,101,108,115,101,32]) J.o.rl d J.o.tab J.o.bu (by(try have aK:=Hzc1.o);(try have aJ:=Hzc2.o);(try simp only[ac,ag,ai]);omega)).mono ?_;rintro e u4 ⟨rfl,w,u⟩;have aX:=G (J.o.wr w u);clear w u J));first|go_end0|((try simp only[Exit.inBlock,Exit.then]);refine bodyPost_ret (results_none rfl _ _ _) rfl ?_)
 exact⟨rfl,by rw[<-aW.o];have:=aX.o.bu;simpa[aL]using this,aX.o.fb⟩
theorem JC (nm:Zy) (F:List St) (y:Ex) (aM:pu y) (aB:mr F) (J I:St) (r:List St) (aA:mr (J::I::r)) (P:Nat->Prop) (a:World) (aK B C:Option Addr) (n c K Z A X b i:Nat) (l:Zy) (aj:dL a P (Zs aK n c) [y]) (aG:ed a P (Zs B K Z) F) (av:ed a P (Zs C A X) (J::I::r)) (o: ∀k,P k->k<b) (aD:ea a b) (af:Bu a b l) (S:Zy) (aE:eH (.mk 4 nm [y] F (J::I::r)) i=S) (aX:l.length+S.length<=1000000000):
  Calls prog 217 #[Zw (some ⟨b,0,none⟩),Zu #[Zr .i64 4,Zt (ak nm),Zs aK n c,Zs B K Z,Zs C A X],Zr .i64 (i:Int)] a λe w'=>e= .returned (Zx #[])/\Bu w' b (l++S)/\FB b a w':=by
 have aI:=G (show[105,102,32]++c_ y++[32]++f_ i (ch F (i+1))++([32,101,108,115,101,32]++f_ i (ch (J::I::r) (i+1)))=S from by rw[<-aE];simp[eH,lH,ch,fM,oM,G5,pX]);have aW:3+(c_ y).length+1+(f_ i (ch F (i+1))).length+(6+(f_ i (ch (J::I::r) (i+1))).length)=S.length:=by rw[<-aI.o];simp only[ac,ag,ai]
 clear aE;have ay:=av.len;simp only[ag,ai]at ay;have aU:((A:Int)==1)=false:=by rw[Qn];omega
 have aT:0<A:=Qa
 have aS:(0:Int)<A:=Qa
 clear ay;have az:=aj.len;simp only[ag,ai]at az;obtain rfl:n=1:=az;obtain⟨b0,z,a0,aN,R,V,au,ar,ap,ao,an,am,ah⟩:=aj.at_ 0 Qe;simp only[aF,aP,aY,bm,cP]at au ar ap ao an am ah;obtain⟨aR,aO,rfl,_⟩:=ah.form;obtain⟨ab,aQ⟩:=Zf (aC au (aC ar (aC ap (aC ao (aC an am))))) ah;clear au ar ap ao an am ah;subst aN;have d:=G (show PS b a.heap.size a P #[Zr .i64 4,Zt (ak nm),Zs (some ⟨b0,z,none⟩) 1 c,Zs B K Z,Zs C A X] (Zs (some ⟨b0,z,none⟩) 1 c) (Zs B K Z) (Zs C A X) (.mk 4 nm [y] F (J::I::r)) l _ from⟨aq a 147 #[Zr .i64 4,Zt (ak nm),Zs (some ⟨b0,z,none⟩) 1 c,Zs B K Z,Zs C A X],af.ext (aa a _),aj.keep (.of_ext (aa a _)) (λ_ H _=>H),aG.keep (.of_ext (aa a _)) (λ_ H _=>H),av.keep (.of_ext (aa a _)) (λ_ H _=>H),aV (aa a _) (aH af.lt),aD.fb (aV (aa a _) (aH af.lt)),bU af.lt,by decide,o⟩);have M:=d.o.box.cell;clear af aj aD aG av;unfold mr at aB;unfold mr at aA;go_enter func217,ntmps217;obtain⟨e0,a4,a3,a2,a1,aZ⟩:=Zp ((d.o.fb.keepP o).cell (z) V R|>.trans ab.o.1) ((d.o.fb.keepP o).cell (z+1) V R|>.trans ab.o.2.1) ((d.o.fb.keepP o).cell (z+2) V R|>.trans ab.o.2.2.1) ((d.o.fb.keepP o).cell (z+3) V R|>.trans ab.o.2.2.2.1) ((d.o.fb.keepP o).cell (z+4) V R|>.trans ab.o.2.2.2.2.1) ((d.o.fb.keepP o).cell (z+5) V R|>.trans ab.o.2.2.2.2.2);go_wp2_with (first|(go_at_call 216;refine(fl y aM [105,102,32] [32] P _ aR _ aO b l (aQ.o.keep (d.o.fb.keepP o) (λ_ H _=>H)) o d.o.tab d.o.bu (by(try have ax:=Hzc1.o);(try have aw:=Hzc2.o);simp only[ac,ag,ai];omega)).mono ?_;rintro e u1 ⟨rfl,w,u⟩;have ae:=G (d.o.wr w u);clear w u d;clear M;have M:=ae.o.box.cell)|(go_at_call 121;refine(aB P _ B K Z b i (l++([105,102,32]++c_ y++[32])) ae.o.rb o ae.o.tab ae.o.bu (by(try have ax:=Hzc1.o);(try have aw:=Hzc2.o);simp only[ac,ag,ai];omega)).mono ?_;rintro e u2 ⟨rfl,w,u⟩;have al:=G (ae.o.wr w u);clear w u ae;clear M;have M:=al.o.box.cell)|(go_at_call 118;refine(cY b ((l++([105,102,32]++c_ y++[32]))++f_ i (ch F (i+1))) [32,101,108,115,101,32] _ al.o.bu (by(try have ax:=Hzc1.o);(try have aw:=Hzc2.o);(try simp only[ac,ag,ai]);omega)).mono ?_;rintro e u3 ⟨rfl,w,u⟩;have ad:=G (al.o.wr w u);clear w u al;clear M;have M:=ad.o.box.cell)|(go_at_call 121;refine(aA P _ C A X b i (((l++([105,102,32]++c_ y++[32]))++f_ i (ch F (i+1)))++[32,101,108,115,101,32]) ad.o.rl o ad.o.tab ad.o.bu (by(try have ax:=Hzc1.o);(try have aw:=Hzc2.o);(try simp only[ac,ag,ai]);omega)).mono ?_;rintro e u4 ⟨rfl,w,u⟩;have aJ:=G (ad.o.wr w u);clear w u ad));first|go_end0|((try simp only[Exit.inBlock,Exit.then]);refine bodyPost_ret (results_none rfl _ _ _) rfl ?_)
 exact⟨rfl,by rw[<-aI.o];have:=aJ.o.bu;simpa[aL]using this,aJ.o.fb⟩
theorem tp (xs:List St) (aV: ∀u,u∈xs->Ha u):mr xs:=by
 intro P F B y a4 b i l aj R aZ a3 bN;have ax:=aj.len;have bh:y<=maxLen:=by
  obtain⟨A',c',_,h|⟨o,a,_⟩⟩:=aj.form
  ·rw[ax,h];exact aD _
  ·omega
 unfold maxLen at bh;have bt:=G aV;generalize a1:f_ i (ch xs (i+1))=S at*;have az:[123,10]++(ch xs (i+1)).flatMap (λt=>lb (i+1)++t++[10])++(lb i++[125])=S:=a1;clear a1;generalize a2:(λt:Zy=>lb (i+1)++t++[10])=w at*;obtain⟨bD,bB⟩:=Zf (show ∀t,w t=lb (i+1)++t++[10]from λt=>by rw[<-a2]) az;have av:(lb i).length=i:=by simp[lb]
 have aW:(lb (i+1)).length=i+1:=by simp[lb]
 have bM:2+((ch xs (i+1)).flatMap w).length+(i+1)=S.length:=by rw[<-az];simp only[ac,ag,ai,av]
 have bG:IntKind.i64.wrap ((i:Int)+1)=((i+1:Nat):Int):=Qc
 obtain⟨ba,a6,ao⟩:=Zg ax av aW;clear az a2 aV ax av aW;obtain⟨aP,bz,bv⟩:=Zg (show PB b F P (Zs B y a4) xs l F from⟨a3,aj,FB.refl _ _,aZ,R⟩) (λF=>tW i Qa F) (λF=>tW (i+1) Qa F);clear a3 aj aZ;go_enter func121,ntmps121;go_wp2_with (go_at_call 118;refine(cY b l [123,10] _ aP.o.bu (by(try have am:=Z.o);(try have al:=Hzc2.o);(try simp only[ac,ag,ai]);omega)).mono ?_;rintro e u1 ⟨rfl,o,a⟩;have ab:=G (aP.o.wr o a);clear o a aP)
 go_loopw [14] (λau wr=> ∃j:Nat,au=Zr .i64 (j:Int)/\j<=y/\Hid (PB b F P (Zs B y a4) xs (l++[123,10]++((ch xs (i+1)).take j).flatMap w) wr)) (λau _=>y-(intOf au).toNat)
 case atStart=>exact⟨0,rfl,aD _,by simpa using ab⟩
 case round=>
  clear ab;obtain⟨j,rfl,bQ,M⟩:=hrel;by_cases hlt:j<y
  ·have bi:(j:Int)<y:=Qa
   have aY:j<xs.length:=by have:=ba.o;omega
   have bf:(ch xs (i+1)).length=xs.length:=by rw[l5];simp
   have aX:(ch xs (i+1))[j]' Qa=eH xs[j] (i+1):=by simp[l5]
   have a8:=G (show((ch xs (i+1)).take (j+1)).flatMap w=((ch xs (i+1)).take j).flatMap w++(lb (i+1)++eH xs[j] (i+1)++[10])from by rw[aT Qa,ff,aX,<-bD.o];simp);have bS:(((ch xs (i+1)).take (j+1)).flatMap w).length<=((ch xs (i+1)).flatMap w).length:=by
    conv=>rhs;rw[<-db (j+1) (ch xs (i+1)),ff,ac]
    omega
   obtain⟨b5,bF,bW,bV,bU,rfl,bR,bT,e0,b4,bZ,bY,bX,af,ah,ad⟩:=M.o.rd.at_ j aY;have a5:=G (bt.o _ (ay aY));generalize xs[j]=u at*;unfold Ha at a5;obtain⟨aQ,aF,rfl,_⟩:=af.form;obtain⟨aS,aH,rfl,_⟩:=ah.form;obtain⟨aR,aG,rfl,_⟩:=ad.form;obtain⟨bC,bH,V⟩:=Zm (G (aC af (aC ah ad))) M.o.bu.lt (aa wr (.cells #[Zr .i64 u.k,Zt (ak u.nm),Zs aQ u.ex.length aF,Zs aS u.body.length aH,Zs aR u.els.length aG] 147));obtain⟨ab,bq⟩:=Zf (M.o.ex V) (aq wr 147 #[Zr .i64 u.k,Zt (ak u.nm),Zs aQ u.ex.length aF,Zs aS u.body.length aH,Zs aR u.els.length aG]);have bg:wr.heap.size≠b:=Qa
   have aK:=G (aC (af.keep (.of_ext V) (λ_ d _=>d)) (aC (ah.keep (.of_ext V) (λ_ d _=>d)) (ad.keep (.of_ext V) (λ_ d _=>d))));generalize ((ch xs (i+1)).take j).flatMap w=X at*;generalize bl:((ch xs (i+1)).take (j+1)).flatMap w=b6 at*;have bk:=congrArg List.length a8;simp only[ac,ag,ai,ao.o]at bk;generalize lb (i+1)=an at*;clear af ah ad bf aX bC V;go_wp2_with fail;refine aB 6 3 [(5,λx=>x=Zt (ak an),λ_ _=>True)] mixed Qb ⟨λ_ _ _ _ _=>trivial,trivial⟩ ?_;repeat (refine Zb ?_;simp only[Za])
   refine so (λap I H bm aA=> ?_) ?_
   ·clear H I;go_simp;refine(bv.o ap).mono ?_;rintro e bc ⟨rfl,aE⟩;exact aA _ _ aE rfl trivial
   rintro _ rfl;simp only[Za];repeat (refine Zb ?_;simp only[Za])
   intro bb z H;clear H;simp only[ae,aw];obtain⟨K,bp,aM⟩:=Zg (ab.o.ex z.un) (bq.o.ext z.un) (aC (aK.o.1.keep (.of_ext z.un) (λ_ d _=>d)) (aC (aK.o.2.1.keep (.of_ext z.un) (λ_ d _=>d)) (aK.o.2.2.keep (.of_ext z.un) (λ_ d _=>d))));clear z ab;go_wp2_with (first|(go_at_call 118;refine(cY b (l++[123,10]++X) an _ K.o.bu (by have aI:=ao.o;(try have am:=Z.o);(try have al:=Hzc2.o);(try simp only[ac,ag,ai]);omega)).mono ?_;rintro e u3 ⟨rfl,o,a⟩;obtain⟨J,bn⟩:=Zf (K.o.wr o a) (a.keep _ _ _ bg Qd bp);have bd:=bn.o.cell;have aN:=G (aC (aM.o.1.keep (a.keepP R) (λ_ d _=>d)) (aC (aM.o.2.1.keep (a.keepP R) (λ_ d _=>d)) (aM.o.2.2.keep (a.keepP R) (λ_ d _=>d))));clear o a K)|(go_at_call 174;refine(a5.o P _ aQ aS aR _ aF _ aH _ aG b (i+1) (l++[123,10]++X++an) aN.o.1 aN.o.2.1 aN.o.2.2 R J.o.tab J.o.bu (by have aI:=ao.o;(try have am:=Z.o);(try have al:=Hzc2.o);(try simp only[ac,ag,ai]);omega)).mono ?_;rintro e u4 ⟨rfl,o,a⟩;have aO:=G (J.o.wr o a);clear o a J bd)|(go_at_call 118;refine(cY b (l++[123,10]++X++an++eH u (i+1)) [10] _ aO.o.bu (by have aI:=ao.o;(try have am:=Z.o);(try have al:=Hzc2.o);(try simp only[ac,ag,ai]);omega)).mono ?_;rintro e u5 ⟨rfl,o,a⟩;have bE:=G (aO.o.wr o a);clear o a aO));go_roundw
   case rel=>exact⟨j+1,by go_num,by omega,by have:=a8.o;rw[bl,this];simpa[aL]using bE⟩
   case measure=>simp[intOf];omega
  ·have bi: ¬(j:Int)<y:=Qa
   have bj:j=y:=Qa
   have a9:=G (show(ch xs (i+1)).take j=ch xs (i+1)from by rw[bj,ba.o,bO (by rw[l5];simp)]);rw[a9.o]at M;generalize (ch xs (i+1)).flatMap w=X at*;clear a9;generalize lb i=A at*;have be:=a6.o;obtain⟨c1,aJ⟩: ∃c,Hid (A++[125]=c):=⟨_,G rfl⟩
   have aU:c1.length=A.length+1:=by rw[<-aJ.o,ac];rfl
   have bI:ak A++(⟨#[125]⟩:ByteArray)=ak c1:=by rw[<-aJ.o];exact eq _ _
   have bL: ¬9223372036854775807<A.length+1:=Qa
   have bP: ¬9223372036854775807<1+A.length:=Qa
   have bK:(ak A).size=A.length:=a7 _;have bJ:((⟨#[125]⟩:ByteArray)).size=1:=rfl;have Z:=G aU;clear aU;clear be;go_wp2_with fail;refine aB 6 3 [(4,λx=>x=Zt (ak A),λ_ _=>True)] mixed Qb ⟨λ_ _ _ _ _=>trivial,trivial⟩ ?_;repeat (refine Zb ?_;simp only[Za])
   refine so (λap I H bm aA=> ?_) ?_
   ·clear H I;go_simp;refine(bz.o ap).mono ?_;rintro e bc ⟨rfl,aE⟩;exact aA _ _ aE rfl trivial
   rintro _ rfl;simp only[Za];repeat (refine Zb ?_;simp only[Za])
   intro bb z H;clear H;simp only[ae,aw];have K:=G (M.o.ex z.un);clear z M;go_wp2_with (go_at_call 118;refine(cY b (l++[123,10]++X) c1 _ K.o.bu (by have aI:=a6.o;(try have am:=Z.o);(try have al:=Hzc2.o);(try simp only[ac,ag,ai]);omega)).mono ?_;rintro e u3 ⟨rfl,o,a⟩;have J:=G (K.o.wr o a);clear o a K)
   go_end0
   exact⟨rfl,by rw[<-bB.o];have:=J.o.bu;rw[<-aJ.o]at this;simpa[aL]using this,J.o.fb⟩
theorem sF: ∀(m:Nat) (x:St),x.wt<=m->x.ok=true->Ha x/\(x.k=4->wY x)
 |0,x,hm,_=>absurd hm (by have:=x.wt_eq;omega)
 |m+1, .mk k nm es bd el,hm,h=>by
  have ai:=(St.mk k nm es bd el).wt_eq;simp only[St.nm,St.ex,St.body,St.els]at ai;rw[St.ok,an,an,an]at h;obtain⟨⟨d,ag⟩,af,ae⟩:=h;rw[sN]at ag;rw[kH]at af ae;have z: ∀a,a∈es->pu a:=λa H=>Dm (List.all_eq_true.1 ag a H);have ah: ∀a,a∈bd->Ha a:=λa H=>(sF m a (by have:=cI H;omega) (List.all_eq_true.1 af a H)).1;have aa: ∀a,a∈el->Ha a/\(a.k=4->wY a):=λa H=>sF m a (by have:=cI H;omega) (List.all_eq_true.1 ae a H);have ac:=tp bd ah;have ab:=tp el (λa H=>(aa a H).1);have ad:k=4->wY (.mk k nm es bd el):=by
   rintro rfl;rw[if_neg Qd,if_neg Qd,if_neg Qd,if_pos rfl]at d;simp only[an,beq_iff_eq]at d;obtain⟨a,rfl⟩:=List.length_eq_one_iff.1 d.2;have H:=z a Qe;intro P A X B C n c G V F R b i l w J y K I M o
   match el,y,aa,ab,o with
   | [],y,aa,ab,o=>exact JF nm bd a H ac P A X B C n c G V F R b i l w J y K I M _ rfl o
   | [s],y,aa,ab,o=>
    by_cases hs:s.k=4
    ·exact JE nm bd a H ac s hs ((aa s Qe).2 hs) P A X B C n c G V F R b i l w J y K I M _ rfl o
    ·exact JD nm bd a H ac s hs ab P A X B C n c G V F R b i l w J y K I M _ rfl o
   |s1::s2::r,y,aa,ab,o=>exact JC nm bd a H ac s1 s2 r ab P A X B C n c G V F R b i l w J y K I M _ rfl o
  refine⟨?_,ad⟩;intro P A X B C n c G V F R b i l w J y K I M o;simp only[St.k,St.nm,St.ex,St.body,St.els]at*;by_cases k1:k=1
  ·subst k1;rw[if_pos rfl]at d;simp only[an,decide_eq_true_eq]at d
   match es,z,d,w,o with
   | [],z,d,w,o=>exact Hk nm bd el P A X B C n c G V F R b i l w J y K I M _ rfl o
   | [a],z,d,w,o=>exact Hj nm bd el a (z a Qe) P A X B C n c G V F R b i l w J y K I M _ rfl o
   |a::Z::r,z,d,w,o=>exact absurd d.1.1.2 Qe
  rw[if_neg k1]at d;by_cases k2:k=2
  ·subst k2;rw[if_pos rfl]at d;simp only[an,beq_iff_eq]at d;obtain⟨a,rfl⟩:=List.length_eq_one_iff.1 d.1.1.2;exact I5 nm bd el a (z a Qe) P A X B C n c G V F R b i l w J y K I M _ rfl o
  rw[if_neg k2]at d;by_cases k3:k=3
  ·subst k3;rw[if_pos rfl]at d;simp only[an,beq_iff_eq]at d;obtain⟨a,Z,rfl⟩: ∃a Z,es=[a,Z]:=by
    match es,d with
    | [],d=>simp at d
    | [a],d=>simp at d
    | [a,Z],d=>exact⟨a,Z,rfl⟩
    |a::Z::u::r,d=>simp at d
   exact I4 nm bd el a Z (z a Qe) (z Z Qe) P A X B C n c G V F R b i l w J y K I M _ rfl o
  rw[if_neg k3]at d;by_cases k4:k=4
  ·subst k4;exact I3 nm bd el es (ad rfl) P A X B C n c G V F R b i l w J y K I M _ rfl o
  rw[if_neg k4]at d;by_cases k5:k=5
  ·subst k5;rw[if_pos rfl]at d;simp only[an,beq_iff_eq]at d;obtain⟨a,rfl⟩:=List.length_eq_one_iff.1 d.1.2;exact I2 nm bd el a (z a Qe) ac P A X B C n c G V F R b i l w J y K I M _ rfl o
  rw[if_neg k5]at d;by_cases k6:k=6
  ·subst k6;rw[if_pos rfl]at d;simp only[an,decide_eq_true_eq]at d
   match es,z,d,w,o with
   | [],z,d,w,o=>exact Hi nm bd el P A X B C n c G V F R b i l w J y K I M _ rfl o
   | [a],z,d,w,o=>exact Hh nm bd el a (z a Qe) P A X B C n c G V F R b i l w J y K I M _ rfl o
   |a::Z::r,z,d,w,o=>exact absurd d.1.1.2 Qe
  rw[if_neg k6]at d;by_cases k7:k=7
  ·subst k7;rw[if_pos rfl]at d;simp only[an,beq_iff_eq]at d;obtain⟨a,rfl⟩:=List.length_eq_one_iff.1 d.1.1.1.2;exact I1 nm bd el a (z a Qe) P A X B C n c G V F R b i l w J y K I M _ rfl o
  ·rw[if_neg k7]at d
   cases d
theorem Dn {x:St} (a:x.ok=true):Ha x:=(sF _ x (ah _) a).1
theorem Do {xs:List St} (a:rD xs=true):mr xs:=tp xs λd h=>Dn (by rw[kH]at a;exact List.all_eq_true.1 a d h)
theorem oB (a:Zy) (l:List Zy):Lib.join l a=eN a l:=by
 cases l with
 |nil=>rfl
 |cons x r=>rw[Lib.join_cons];simp[Lib.joinTail,eN,List.flatMap_def]
theorem yP (h:Option Addr) (n c:Nat) (a:List Zy) (P:Nat->Prop) (d:World) (z:qR d P (Zs h n c) a) (M:(eN [44,32] a).length<=1000000000):
  Calls prog 120 #[Zs h n c,Zt ⟨#[44,32]⟩] d λe w'=>e= .returned (Zt (ak (eN [44,32] a)))/\au d w':=by
 obtain⟨R,c',A,J⟩:=z;injection A with I F H;subst I F H;rcases J with rfl|⟨h1,h2,b,o,rfl,hP,hb,hcell⟩
 ·refine(Tryz.strings_Join_none h c ⟨#[44,32]⟩ d).mono ?_;rintro e w' ⟨rfl,rfl⟩;exact⟨rfl,aG _⟩
 ·have w:(a.map ak).map (·.data.toList)=a:=by
   rw[List.map_map];have:((λx:ByteArray=>x.data.toList) ∘ ak)=id:=funext λl=>jq l;rw[this,List.map_id]
  unfold maxLen at h2
  have:=Tryz.strings_Join b o c (a.map ak) ⟨#[44,32]⟩ d (λj x u=>by
    rw[dw]at u;obtain⟨K,y,rfl⟩:=Option.map_eq_some_iff.1 u;obtain⟨G,rfl⟩:=List.getElem?_eq_some_iff.1 y;exact hcell j G) hb (by
    rw[iR]
    cases a with
    |nil=>simp
    |cons x r=>
     have:=Lib.join_length x r [44,32];rw[oB]at this;simp only[ag,ai]at this⊢
     omega) (by simp;exact h1) (by rw[w,show((⟨#[44,32]⟩:ByteArray).data.toList)=[44,32]from rfl,oB];omega)
  rw[w,iR,show((⟨#[44,32]⟩:ByteArray).data.toList)=[44,32]from rfl,oB]at this;exact this
structure PQ (b px:Nat) (w0:World) (P:Nat->Prop) (vv fv:Value) (p:Pg) (l:Zy) (W:World):Prop where
 box:aM W px 31 #[vv,fv]
 bu:Bu W b l
 rv:pt W P vv p.vs
 rf:pE W P fv p.fs
 fb:FB b w0 W
 tab:ea W b
 ne:px≠b
 tt:31≠5
 hP: ∀k,P k->k<b
section
variable {b px:Nat} {w0 W W':World} {P:Nat->Prop} {vv fv:Value} {p:Pg} {l l':Zy}
theorem PQ.wr (a:PQ b px w0 P vv fv p l W) (o:Bu W' b l') (d:FB b W W'):PQ b px w0 P vv fv p l' W':=
 ⟨d.keep _ _ _ a.ne a.tt a.box,o,a.rv.keep (d.keepP a.hP) (λ_ h _=>h),a.rf.keep (d.keepP a.hP) (λ_ h _=>h),a.fb.trans d,a.tab.fb d,a.ne,a.tt,a.hP⟩
theorem PQ.ex (a:PQ b px w0 P vv fv p l W) (d:au W W'):PQ b px w0 P vv fv p l W':=a.wr (a.bu.ext d) (aV d (aH a.bu.lt))
end
theorem kW {a:Type} (d:a->Zy) (l:List a) (j:Nat):((l.take j).flatMap d).length<=(l.flatMap d).length:=by
 conv=>rhs;rw[<-db j l,ff,ac]
 omega
theorem jQ {d:Type} (a:d->Zy) (l:List d) (j:Nat) (h:j<l.length):(l.take (j+1)).flatMap a=(l.take j).flatMap a++a l[j]:=by
 rw[aT h,ff];simp
theorem vV (p:Pg) (bQ: ∀f,f∈p.fs->rD f.body=true) (a4: ∀v,v∈p.vs->v.sz<=9223372036854775807) (P:Nat->Prop) (a:World) (F B:Option Addr) (n c m I:Nat) (bt:pt a P (Zs F n c) p.vs) (X:pE a P (Zs B m I) p.fs) (aJ:ea a a.heap.size) (c0:(lF p).length<=1000000000):
  Calls prog 62 #[Zu #[Zs F n c,Zs B m I]] a λe w'=>e= .returned (Zt (ak (lF p)))/\au a w':=by
 have a5:n=p.vs.length/\n<=maxLen:=by
  obtain⟨bL,c',ap,u⟩:=bt;injection ap with _ aT _;refine⟨aT,?_⟩;rcases u with u|⟨o,d,_⟩
  ·rw[aT,u];exact aD _
  ·omega
 have a6:m=p.fs.length/\m<=maxLen:=by
  obtain⟨bL,c',ap,u⟩:=X;injection ap with _ aT _;refine⟨aT,?_⟩;rcases u with u|⟨o,d,_⟩
  ·rw[aT,u];exact aD _
  ·omega
 obtain⟨a5,co⟩:=a5;obtain⟨a6,cn⟩:=a6;unfold maxLen at co cn;obtain⟨b8,ca,cC,cG,b7⟩:=Zi a5 a6 a4 bQ (show p.vs.flatMap mI++p.fs.flatMap mJ=lF p from rfl);have cZ:(p.vs.flatMap mI).length+(p.fs.flatMap mJ).length=(lF p).length:=by rw[<-b7.o,ac]
 generalize lF p=S at*;have bZ:=aa a (.cells #[Zs F n c,Zs B m I] 31);have bc:=bZ.trans (aa (a.alloc (.cells #[Zs F n c,Zs B m I] 31)) (.cells #[Zw none,Zs none 0 0] 217));have cj:(a.alloc (.cells #[Zs F n c,Zs B m I] 31)).heap.size=a.heap.size+1:=Array.size_push _;have bz:dE P a ((a.alloc (.cells #[Zs F n c,Zs B m I] 31)).alloc (.cells #[Zw none,Zs none 0 0] 217)):= .of_ext bc;obtain⟨w0,bk⟩: ∃W,W=((a.alloc (.cells #[Zs F n c,Zs B m I] 31)).alloc (.cells #[Zw none,Zs none 0 0] 217)):=⟨_,rfl⟩
 have cI:=G (show au a w0 from bk▸bc)
 have bI:=G (show PQ (a.heap.size+1) a.heap.size w0 (λk=>k<a.heap.size) (Zs F n c) (Zs B m I) p [] ((a.alloc (.cells #[Zs F n c,Zs B m I] 31)).alloc (.cells #[Zw none,Zs none 0 0] 217))from
  ⟨(aq a _ _).ext (aa _ _),cj▸Bu.new _,bt.keep bz (λ_ _ u=>u),X.keep bz (λ_ _ u=>u),bk▸FB.refl _ _,⟨((aJ.fb (aV bc (ah _)))).1,Nat.lt_succ_of_lt aJ.2⟩,ge (dR _),by decide,λk u=>Nat.lt_succ_of_lt u⟩)
 clear bt X aJ bZ bc bz a5 a6 a4 bQ bk;generalize af:a.heap.size+1=b at*;have cB:=G (show a.heap.size<=b/\True from⟨by omega,trivial⟩);generalize cW:a.heap.size=px at*;have bq:=bI.o.box.cell;go_enter func62,ntmps62;go_wp2_with fail
 go_loopw [11] (λan wr=> ∃j:Nat,an=Zr .i64 (j:Int)/\j<=n/\Hid (PQ b px w0 (λk=>k<px) (Zs F n c) (Zs B m I) p ((p.vs.take j).flatMap mI) wr)) (λan _=>n-(intOf an).toNat)
 case atStart=>exact⟨0,rfl,aD _,bI⟩
 case round=>
  clear bI bq;obtain⟨j,rfl,bU,y⟩:=hrel;by_cases hlt:j<n
  ·have a8:(j:Int)<n:=Qa
   have H:j<p.vs.length:=by have:=b8.o;omega
   obtain⟨bL,c',ap,ar⟩:=y.o.rv;injection ap with aW bn bp;rcases ar with ar|⟨o,d,b9,o9,hA2,hP9,hb9,hcl⟩
   ·rw[ar]at H;simp at H
   obtain⟨e0,cv⟩:=hcl j H;have bD:F=some ⟨b9,o9,none⟩:=aW.trans hA2;subst bD;clear hcl aW hA2 bn bp o d hP9;obtain⟨cf,aP,bV,ab⟩:=Zn (cC.o _ (ay H)) (G (jQ mI p.vs j H)) (kW mI p.vs (j+1)) (G (show mI p.vs[j]=[118,97,114,32]++p.vs[j].nm++(if 0<p.vs[j].sz then[91]++lR p.vs[j].sz.toNat++[93]else[])++[59,10]from rfl));generalize mI p.vs[j]=cw at*;generalize p.vs[j].nm=w at*;generalize p.vs[j].sz=aQ at*;generalize (p.vs.take j).flatMap mI=A at*;generalize bb:(p.vs.take (j+1)).flatMap mI=cy at*;have aK:=congrArg List.length aP;simp only[ac]at aK;have a4:=y.o.bu.lt;have av:=aa wr (.cells #[Zt (ak w),Zr .i64 aQ] 76);obtain⟨M,aC⟩:=Zf (y.o.ex av) (aq wr 76 #[Zt (ak w),Zr .i64 aQ]);have ao:=aC.o.cell;have aG:wr.heap.size≠b:=Qa
   clear av;by_cases hz:0<aQ
   ·have R:=congrArg List.length ab;rw[if_pos hz]at ab R;have cH:=G (λa u=>uB aQ Qa cf a b u);generalize lR aQ.toNat=D at*;simp only[ac,ag,ai]at R;have K:=G (show A.length+(4+w.length+(1+D.length+1)+2)<=1000000000 from by omega);obtain⟨c1,J⟩: ∃c,Hid ([118,97,114,32]++w=c):=⟨_,G rfl⟩
    have ad:c1.length=4+w.length:=by rw[<-J.o,ac];(try rfl)
    have bO:(⟨#[118,97,114,32]⟩:ByteArray)++ak w=ak c1:=by rw[<-J.o];exact eq _ _
    have bS: ¬9223372036854775807<4+w.length:=Qa
    have bT: ¬9223372036854775807<w.length+4:=Qa
    have bP:((⟨#[118,97,114,32]⟩:ByteArray)).size=4:=rfl;have cm:(ak w).size=w.length:=a7 _;obtain⟨c2,aB⟩: ∃c,Hid ([91]++D=c):=⟨_,G rfl⟩
    have aS:c2.length=1+D.length:=by rw[<-aB.o,ac];(try rfl)
    have ci:(⟨#[91]⟩:ByteArray)++ak D=ak c2:=by rw[<-aB.o];exact eq _ _
    have cq: ¬9223372036854775807<1+D.length:=Qa
    have cs: ¬9223372036854775807<D.length+1:=Qa
    have cl:((⟨#[91]⟩:ByteArray)).size=1:=rfl;have cU:(ak D).size=D.length:=a7 _;obtain⟨z,aA⟩: ∃c,Hid (c2++[93]=c):=⟨_,G rfl⟩
    have aR:z.length=c2.length+1:=by rw[<-aA.o,ac];(try rfl)
    have cg:ak c2++(⟨#[93]⟩:ByteArray)=ak z:=by rw[<-aA.o];exact eq _ _
    have cp: ¬9223372036854775807<c2.length+1:=Qa
    have cr: ¬9223372036854775807<1+c2.length:=Qa
    have ck:(ak c2).size=c2.length:=a7 _;have cR:((⟨#[93]⟩:ByteArray)).size=1:=rfl;have V:=G ad;clear ad;have aO:=G aS;clear aS;have aN:=G aR;clear aR;clear R aK;go_wp2_with (first|(go_at_call 118;refine(cY b A c1 _ M.o.bu (by have al:=V.o;have aM:=K.o;omega)).mono ?_;rintro e u2 ⟨rfl,o,d⟩;obtain⟨aF,bH⟩:=Zf (M.o.wr o d) (d.keep _ _ _ aG Qd aC);clear ao;have ao:=bH.o.cell;clear o d M)|(go_at_call 119;refine(cH.o _ aF.o.tab).mono ?_;rintro e u3 ⟨rfl,bd⟩;have am:=G (aF.o.ex bd);clear bd ao aF)|(go_at_call 118;refine(cY b (A++c1) z _ am.o.bu (by obtain⟨al,aM,bg,aZ⟩:=Zn V.o aO.o aN.o K.o;simp only[ac];omega)).mono ?_;rintro e u4 ⟨rfl,o,d⟩;have aE:=G (am.o.wr o d);clear o d am)|(go_at_call 118;refine(cY b (A++c1++z) [59,10] _ aE.o.bu (by obtain⟨al,aM,bg,aZ⟩:=Zn V.o aO.o aN.o K.o;simp only[ac,ag,ai];omega)).mono ?_;rintro e u5 ⟨rfl,o,d⟩;have a1:=G (aE.o.wr o d);clear o d aE));go_roundw
    case rel=>exact⟨j+1,by go_num,by omega,by have aX:=aP.o;have aY:=ab.o;rw[bb,aX,aY,J.o,aB.o,aA.o];simpa[aL]using a1⟩
    case measure=>simp[intOf];omega
   ·have R:=congrArg List.length ab;rw[if_neg hz]at ab R;simp only[ac,ag,ai]at R;have K:=G (show A.length+(4+w.length+2)<=1000000000 from by omega);obtain⟨c1,J⟩: ∃c,Hid ([118,97,114,32]++w=c):=⟨_,G rfl⟩
    have ad:c1.length=4+w.length:=by rw[<-J.o,ac];(try rfl)
    have bO:(⟨#[118,97,114,32]⟩:ByteArray)++ak w=ak c1:=by rw[<-J.o];exact eq _ _
    have bS: ¬9223372036854775807<4+w.length:=Qa
    have bT: ¬9223372036854775807<w.length+4:=Qa
    have bP:((⟨#[118,97,114,32]⟩:ByteArray)).size=4:=rfl;have cm:(ak w).size=w.length:=a7 _;have V:=G ad;clear ad;clear R aK;go_wp2_with (first|(go_at_call 118;refine(cY b A c1 _ M.o.bu (by have al:=V.o;have aM:=K.o;omega)).mono ?_;rintro e u2 ⟨rfl,o,d⟩;obtain⟨aF,bH⟩:=Zf (M.o.wr o d) (d.keep _ _ _ aG Qd aC);clear ao;have ao:=bH.o.cell;clear o d M)|(go_at_call 118;refine(cY b (A++c1) [59,10] _ aF.o.bu (by have al:=V.o;have aZ:=K.o;simp only[ac,ag,ai];omega)).mono ?_;rintro e u5 ⟨rfl,o,d⟩;have a1:=G (aF.o.wr o d);clear o d aF));go_roundw
    case rel=>exact⟨j+1,by go_num,by omega,by have aX:=aP.o;have aY:=ab.o;rw[bb,aX,aY,J.o];simpa[aL]using a1⟩
    case measure=>simp[intOf];omega
  ·have a8: ¬(j:Int)<n:=Qa
   have a9:j=n:=Qa
   have bh:=G (show p.vs.take j=p.vs from by rw[a9,b8.o,bY]);rw[bh.o]at y;clear bh;have bq:=y.o.box.cell;go_wp2_with fail;clear hlt a8 a9 bU;generalize c4:p.vs.flatMap mI=b6 at*
   go_loopw [36] (λan wr=> ∃j:Nat,an=Zr .i64 (j:Int)/\j<=m/\Hid (PQ b px w0 (λk=>k<px) (Zs F n c) (Zs B m I) p (b6++(p.fs.take j).flatMap mJ) wr)) (λan _=>m-(intOf an).toNat)
   case atStart=>exact⟨0,rfl,aD _,by simpa using y⟩
   case round=>
    clear y bq;rename_i bM;obtain⟨j,rfl,bU,y⟩:=hrel;by_cases hlt:j<m
    ·have a8:(j:Int)<m:=Qa
     have H:j<p.fs.length:=by have:=ca.o;omega
     obtain⟨bL,c',ap,ar⟩:=y.o.rf;injection ap with aW bn bp;rcases ar with ar|⟨o,d,b9,o9,hA2,hP9,hb9,pv,bv,hcl⟩
     ·rw[ar]at H;simp at H
     obtain⟨e0,cv,c6,bm,bl⟩:=hcl j H;have bD:B=some ⟨b9,o9,none⟩:=aW.trans hA2;subst bD;clear hcl aW hA2 bn bp o d hP9;obtain⟨bR,aP,bV,ab⟩:=Zn (cG.o _ (ay H)) (G (jQ mJ p.fs j H)) (kW mJ p.fs (j+1)) (G (show mJ p.fs[j]=[102,117,110,99,32]++p.fs[j].nm++[40]++eN [44,32] p.fs[j].ps++[41,32]++f_ 0 (ch p.fs[j].body 1)++[10]from rfl));generalize mJ p.fs[j]=cw at*;generalize p.fs[j].nm=fn at*;generalize p.fs[j].ps=aw at*;generalize p.fs[j].body=ax at*;generalize pv j=cN at*;generalize bv j=c7 at*
     have cK:=G (show ∀(P:Nat->Prop) (a:World) (B:Option Addr) (a2 bf b:Nat) (l:Zy),ed a P (Zs B a2 bf) ax->(∀k,P k->k<b)->ea a b->Bu a b l->l.length+(f_ 0 (ch ax 1)).length<=1000000000->
      Calls prog 121 #[Zw (some ⟨b,0,none⟩),Zs B a2 bf,Zr .i64 0] a (λe w'=>e= .returned (Zx #[])/\Bu w' b (l++f_ 0 (ch ax 1))/\FB b a w')from λP a B a2 bf b l=>Do bR P a B a2 bf b 0 l)
     generalize c5:(p.fs.take j).flatMap mJ=cz at*;generalize bX:b6++cz=A at*;have bW:=congrArg List.length bX;generalize bb:(p.fs.take (j+1)).flatMap mJ=cy at*;have aK:=congrArg List.length aP;simp only[ac]at aK bW;obtain⟨bi,be,rfl,_⟩:=id bm;obtain⟨bK,bE,rfl,_⟩:=bl.form;have a4:=y.o.bu.lt;have av:=aa wr (.cells #[Zt (ak fn),Zs bi aw.length be,Zs bK ax.length bE] 81);obtain⟨M,aC,cF,cE⟩:=Zh (y.o.ex av) (aq wr 81 #[Zt (ak fn),Zs bi aw.length be,Zs bK ax.length bE]) (bm.keep (.of_ext av) (λ_ af _=>af)) (bl.keep (.of_ext av) (λ_ af _=>af));have aG:wr.heap.size≠b:=Qa
     have R:=congrArg List.length ab;have bJ:=G (show ∀(k:Nat),k<px->k<b from y.o.hP);generalize bC:eN [44,32] aw=Z at*;simp only[ac,ag,ai]at R;have K:=G (show A.length+(5+fn.length+1+Z.length+2+(f_ 0 (ch ax 1)).length+1)<=1000000000 from by omega);obtain⟨c1,J⟩: ∃c,Hid ([102,117,110,99,32]++fn=c):=⟨_,G rfl⟩
     have ad:c1.length=5+fn.length:=by rw[<-J.o,ac];(try rfl)
     have bO:(⟨#[102,117,110,99,32]⟩:ByteArray)++ak fn=ak c1:=by rw[<-J.o];exact eq _ _
     have bS: ¬9223372036854775807<5+fn.length:=Qa
     have bT: ¬9223372036854775807<fn.length+5:=Qa
     have bP:((⟨#[102,117,110,99,32]⟩:ByteArray)).size=5:=rfl;have cV:(ak fn).size=fn.length:=a7 _;obtain⟨c2,aB⟩: ∃c,Hid (c1++[40]=c):=⟨_,G rfl⟩
     have aS:c2.length=c1.length+1:=by rw[<-aB.o,ac];(try rfl)
     have ci:ak c1++(⟨#[40]⟩:ByteArray)=ak c2:=by rw[<-aB.o];exact eq _ _
     have cq: ¬9223372036854775807<c1.length+1:=Qa
     have cs: ¬9223372036854775807<1+c1.length:=Qa
     have cT:(ak c1).size=c1.length:=a7 _;have cl:((⟨#[40]⟩:ByteArray)).size=1:=rfl;obtain⟨z,aA⟩: ∃c,Hid (c2++Z=c):=⟨_,G rfl⟩
     have aR:z.length=c2.length+Z.length:=by rw[<-aA.o,ac];(try rfl)
     have cg:ak c2++ak Z=ak z:=by rw[<-aA.o];exact eq _ _
     have cp: ¬9223372036854775807<c2.length+Z.length:=Qa
     have cr: ¬9223372036854775807<Z.length+c2.length:=Qa
     have ck:(ak c2).size=c2.length:=a7 _;have cS:(ak Z).size=Z.length:=a7 _;obtain⟨az,bG⟩: ∃c,Hid (z++[41,32]=c):=⟨_,G rfl⟩
     have bN:az.length=z.length+2:=by rw[<-bG.o,ac];(try rfl)
     have cO:ak z++(⟨#[41,32]⟩:ByteArray)=ak az:=by rw[<-bG.o];exact eq _ _
     have cX: ¬9223372036854775807<z.length+2:=Qa
     have c3: ¬9223372036854775807<2+z.length:=Qa
     have cQ:(ak z).size=z.length:=a7 _;have cP:((⟨#[41,32]⟩:ByteArray)).size=2:=rfl;have V:=G ad;clear ad;have aO:=G aS;clear aS;have aN:=G aR;clear aR;have bF:=G bN;clear bN;have cb:=G (λW (u:qR W (λk=>k<px) (Zs bi aw.length be) aw)=>yP bi aw.length be aw (λk=>k<px) W u (by have al:=K.o;rw[bC];omega));rw[bC]at cb;clear R aK av bm bl bC bV bW bR;go_wp2_with fail;have ba:=aH M.o.bu.lt;refine ja b 11 8 [(7,λx=>x=Zt (ak Z),λ_ _=>True),(10,λx=>x=Zx #[Zr .i64 az.length, .nilIface],λ_ bM=>Bu bM b (A++az))] 10 mixed Qb ba ⟨λ_ _ _ _ _=>trivial,λ_ _ _ u ce=>u.ext ce,trivial⟩ ⟨.inr λ_ _ _ _ _=>trivial, .inl rfl,trivial⟩ ?_;repeat (refine sx ?_ (λcd aj=> ?_) ?_;rotate_left;(focus have X:=nH (aj ba);have cu:=(X.keep _ _ _ aG Qd aC).cell;clear X aj;go_simp<;>with_reducible rfl);simp only[Za])
     refine so (λbj aj aI cx bB=> ?_) ?_
     ·have ct:=cF.o.keep ((nH (aj ba)).keepP bJ.o) (λ_ af _=>af);clear aI aj;go_simp;refine(cb.o bj ct).mono ?_;rintro e cc ⟨rfl,bd⟩;exact bB _ _ bd rfl trivial
     rintro _ rfl;simp only[Za];repeat (refine sx ?_ (λcd aj=> ?_) ?_;rotate_left;(focus have X:=nH (aj ba);have cu:=(X.keep _ _ _ aG Qd aC).cell;clear X aj;go_simp<;>with_reducible rfl);simp only[Za])
     refine dD _ _ Qf rfl ⟨_,rfl⟩ rfl (λbj aJ aI cx bB=> ?_) ?_
     ·have cJ:=G (M.o.ex aJ.un);clear aI aJ;go_simp;refine(cY b A az bj cJ.o.bu (by obtain⟨al,aM,bg,aZ,b5⟩:=Zo V.o aO.o aN.o bF.o K.o;omega)).mono ?_;rintro e cc ⟨rfl,o,d⟩;exact bB _ _ (λ_=>d) rfl o
     rintro _ rfl;simp only[Za];intro cM a3 aI;obtain⟨am,cA⟩:=Zf (M.o.wr (aI _ (.head _)) a3) (a3.keep _ _ _ aG Qd aC);have ao:=cA.o.cell;have cD:=G (cE.o.keep (a3.keepP bJ) (λ_ af _=>af));clear a3 aI M;simp only[ae,aU];go_wp2_with (first|(go_at_call 121;refine(cK.o (λk=>k<px) _ bK _ bE b (A++az) cD bJ am.o.tab am.o.bu (by obtain⟨al,aM,bg,aZ,b5⟩:=Zo V.o aO.o aN.o bF.o K.o;simp only[ac];omega)).mono ?_;rintro e u4 ⟨rfl,o,d⟩;have aE:=G (am.o.wr o d);clear o d am ao)|(go_at_call 118;refine(cY b (A++az++f_ 0 (ch ax 1)) [10] _ aE.o.bu (by obtain⟨al,aM,bg,aZ,b5⟩:=Zo V.o aO.o aN.o bF.o K.o;simp only[ac,ag,ai];omega)).mono ?_;rintro e u5 ⟨rfl,o,d⟩;have a1:=G (aE.o.wr o d);clear o d aE));go_roundw
     case rel=>exact⟨j+1,by go_num,by omega,by have aX:=aP.o;have aY:=ab.o;rw[bb,aX,aY,J.o,aB.o,aA.o,bG.o,<-aL,bX];simpa[aL]using a1⟩
     case measure=>simp[intOf];omega
    ·have a8: ¬(j:Int)<m:=Qa
     have a9:j=m:=Qa
     have bh:=G (show p.fs.take j=p.fs from by rw[a9,ca.o,bY]);rw[bh.o,b7.o]at y;go_wp2_with (go_at_call 122;refine(AJ b S _ y.o.bu Qa).mono ?_;rintro e u9 ⟨rfl,b4⟩;have cL:=G b4;clear b4);go_ret;exact⟨rfl,show Below a.heap.size a _ from Below.trans cI (Below.mono (Below.trans y.o.fb.below cL) (by have:=cB.o.1;omega))⟩
theorem vF (l:Zy) (d:l.length<=1073741824) (a:World):Calls prog 59 #[Zt (ak l)] a λe w'=>e= .returned (Zv (!eB l))/\au a w':=by
 have o:=G (dJ l d);generalize eB l=r at*;go_enter func59,ntmps59;go_wp2_with (go_at_call 57;refine(o.o _).mono ?_;rintro e u ⟨rfl,rfl⟩);go_ret;exact⟨rfl,aG _⟩
def vA (v:Vr):Bool:=eB v.nm&&decide (0<=v.sz)&&decide (v.sz<=2000)
def rg (f:Fc):Bool:=eB f.nm&&decide (f.ps.length<=4)&&f.ps.all eB&&f.body.all (λs=>decide (s.dep<=20)&&s.ok)
def li (p:Pg):Bool:=p.vs.all vA&&p.fs.all rg&&decide (p.vs.length<=20)&&decide (p.fs.length<=20)&&decide ((lF p).length<=4000)
theorem um {f:Fc} (a:rg f=true):rD f.body=true:=by
 unfold rg at a;simp only[an,cC,decide_eq_true_eq]at a;rw[kH,cC];exact λs d=>(a.2 s d).2
def pI (i:Nat) (ts:List Zy):Nat:=(ts.map λt=>t.length+i).sum
theorem g_ (i:Nat) (t:Zy) (a:List Zy):pI i (t::a)=t.length+i+pI i a:=by simp[pI]
theorem lB {i j:Nat} (d:i<=j): ∀a,pI i a<=pI j a
 | []=>ah _
 |t::a=>by have:=lB d a;rw[g_,g_];omega
theorem vP (i:Nat): ∀a:List Zy,(a.headD []).length<=pI i a
 | []=>by simp[pI]
 |t::a=>by rw[g_];simp;omega
theorem xm (i:Nat): ∀a:List Zy,(a.headD []).length+(a.tail.headD []).length<=pI i a
 | []=>by simp[pI]
 | [t]=>by rw[g_];simp[pI]<;>omega
 |t::u::a=>by rw[g_,g_];simp;omega
theorem vY {k:Int} {op nm tx:Zy} {v:Int} {ps:List Int} {ss:List Zy} (d:k=1->v<=2147483647):
  (vZ k op nm tx v ps ss).length<=10+op.length+nm.length+2*tx.length+pI 2 ss:=by
 obtain⟨F,A,a,z,y,w,u⟩:=Zq (vP 2 ss) (xm 2 ss) (rK [44,32] ss) (wa tx) (pM (decide (ps.headD 0<7)) (ss.headD [])) (pM (decide (ps.headD 0<my op)) (ss.headD [])) (pM (decide (ps.tail.headD 0<=my op)) (ss.tail.headD []));have h:k=1->(lR v.toNat).length<=10:=λo=>uO (d o);simp only[ag,ai]at a;change _<=pI 2 ss at a;unfold vZ;split
 ·have:=h (by assumption);omega
 repeat' split
 all_goals (try simp only[ac,ag,ai])
 all_goals omega
mutual
theorem t7: ∀x:Ex,x.ok=true->(c_ x).length+2<=12*x.wt
 | .mk k op nm tx v a,h=>by
  rw[Ex.ok,an]at h;have ha:=p7 a h.2
  have o:=vY (k:=k) (op:=op) (nm:=nm) (tx:=tx) (v:=v) (ps:=a.map Ex.prec) (ss:=fM a) (λe=>by
   subst e;have d:=h.1;rw[if_pos rfl]at d;simp only[an,decide_eq_true_eq]at d
   exact d.1.1.2)
  rw[c_,Ex.wt];omega
theorem p7: ∀l:List Ex,zD l=true->pI 2 (fM l)<=12*gD l
 | [],_=>by simp[fM,pI]
 |x::r,h=>by
  rw[zD,an]at h;have:=t7 x h.1;have:=p7 r h.2;rw[fM,g_,gD];omega
end
theorem qG (i:Nat) (a:List Zy):(f_ i a).length=3+i+pI (i+2) a:=by
 have d: ∀a:List Zy,(a.flatMap (λt=>lb (i+1)++t++[10])).length=pI (i+2) a:=by
  intro a
  induction a with
  |nil=>rfl
  |cons t r ih=>rw[bG,ac,ih,g_];simp[lb];omega
 unfold f_;rw[ac,ac,d];simp[lb];omega
theorem vX {i:Nat} {k:Int} {nm:Zy} {es bs ls l0:List Zy} {po:Bool} {E B L:Nat} (d:pI 0 es<=E) (h:pI (i+2) bs<=B)
  (a:pI (i+2) ls<=L) (A:pI 0 l0<=L):(lH i k nm es bs ls l0 po).length<=20+2*i+nm.length+E+B+L:=by
 obtain⟨z,y,w,u,o⟩:=Zo (vP 0 es) (xm 0 es) (vP 0 l0) (qG i bs) (qG i ls);unfold lH;repeat' split
 all_goals simp only[ac,ag,ai,Ae,II,G5,pX,Ad,pH]
 all_goals omega
theorem E7 (i:Nat) (a:List Zy):pI 0 a<=pI i a:=lB (aD _) a
mutual
theorem ym: ∀(x:St) (i:Nat),x.ok=true->i+x.dep<=21->(eH x i).length+i+2<=150*x.wt
 | .mk k nm e b l,i,h,hd=>by
  rw[St.ok]at h;simp only[an]at h;rw[St.dep]at hd;obtain⟨G,d,a,o⟩:=Zn (p7 e h.1.2) (j9 b (i+1)) (j9 l (i+1)) (j9 l i);obtain⟨F,A,H,z,y,w,u⟩:=Zq (d h.2.1 Qa) (a h.2.2 Qa) (o h.2.2 Qa) (lB (show i+2<=i+1+2 by omega) (ch b (i+1))) (lB (show i+2<=i+1+2 by omega) (ch l (i+1))) (E7 2 (fM e)) (E7 (i+2) (ch l i));have:=vX (i:=i) (k:=k) (nm:=nm) (es:=fM e) (bs:=ch b (i+1)) (ls:=ch l (i+1)) (l0:=ch l i) (po:=oM l) (E:=12*gD e) (B:=150*gd b) (L:=150*gd l)
   Qa Qa Qa Qa
  rw[eH,St.wt];omega
theorem j9: ∀(l:List St) (i:Nat),rD l=true->i+ig l<=21->pI (i+2) (ch l i)<=150*gd l
 | [],i,_,_=>by simp[ch,pI]
 |x::r,i,h,hd=>by
  rw[rD,an]at h;rw[ig]at hd;have:=ym x i h.1 Qa;have:=j9 r i h.2 Qa;rw[ch,g_,gd];omega
end
theorem lC {a:Type} (f g:a->Nat): ∀(l:List a),(∀x,x∈l->f x<=g x)->(l.map f).sum<=(l.map g).sum
 | [],_=>ah _
 |x::r,h=>by
  have:=lC f g r (λd o=>h d (iD _ o));have:=h x (gH ..);simp only[b7,fJ];omega
theorem jj {a:Type} (c:Nat): ∀(l:List a),(l.map λ_=>c).sum=c*l.length
 | []=>rfl
 |x::r=>by rw[b7,fJ,jj c r,ag,Nat.mul_succ];omega
theorem qp {l:Zy} (a:eB l=true):l.length<=14:=by
 unfold eB at a;simp only[an,decide_eq_true_eq]at a;exact a.1.1.2
theorem An {v:Vr} (a:vA v=true):(mI v).length<=40:=by
 unfold vA at a;simp only[an,decide_eq_true_eq]at a;have:=qp a.1.1;have:=uO (v:=v.sz) Qa;unfold mI;split<;>simp only[ac,ag,ai,Ae]<;>omega
theorem Dv {f:Fc} (a:rg f=true):ig f.body<=20:=by
 unfold rg at a;simp only[an,cC,decide_eq_true_eq]at a;have d:=a.2;clear a;generalize f.body=l at*
 induction l with
 |nil=>exact aD _
 |cons x r ih=>
  have:=ih λs h=>d s (iD _ h);have:=(d x (gH ..)).1;rw[ig];omega
theorem Aq {f:Fc} (a:rg f=true):(mJ f).length<=100+150*gd f.body:=by
 obtain⟨y,u,w,o⟩:=Zn (j9 f.body 1 (um a) (by have:=Dv a;omega)) (qG 0 (ch f.body 1)) (rK [44,32] f.ps) (lB (show 0+2<=1+2 by omega) (ch f.body 1));unfold rg at a;simp only[an,cC,decide_eq_true_eq]at a;have z:=qp a.1.1.1;have h:=lC (λs:Zy=>s.length+[44,32].length) (λ_=>16) f.ps (λs d=>by have:=qp (a.1.2 s d);simp;omega);rw[jj]at h;unfold mJ;simp only[ac,ag,ai,Af];omega
theorem Ao {p:Pg} (d:p.vs.all vA=true) (h:p.fs.all rg=true) (u:p.vs.length<=20) (o:p.fs.length<=20):(lF p).length<=2800+150*(p.fs.map λf=>gd f.body).sum:=by
 have y:(p.vs.flatMap mI).length<=40*p.vs.length:=by
  rw[i6];have:=lC (λv=>(mI v).length) (λ_=>40) p.vs (λv a=>An (List.all_eq_true.1 d v a));rwa [jj]at this
 have w:(p.fs.flatMap mJ).length<=100*p.fs.length+150*(p.fs.map λf=>gd f.body).sum:=by
  rw[i6];have:=lC (λf=>(mJ f).length) (λf=>100+150*gd f.body) p.fs (λf a=>Aq (List.all_eq_true.1 h f a));have e: ∀l:List Fc,(l.map λf=>100+150*gd f.body).sum=100*l.length+150*(l.map λf=>gd f.body).sum:=by
   intro l
   induction l with
   |nil=>rfl
   |cons f r ih=>simp only[b7,fJ,ag,ih];omega
  rwa [e]at this
 unfold lF;rw[ac];omega
def dT:List co->Nat
 | []=>0
 |t::r=>2+t.t.length+dT r
theorem gg {l:List co} (a:(cV l).k≠0):dT l=2+(cV l).t.length+dT l.tail:=by
 cases l with
 |nil=>exact absurd rfl a
 |cons t r=>rfl
theorem wF {s:Zy} {l:List co} (a:dB s l=true):(cV l).k≠0:=by
 intro e;simp[dB,e]at a
theorem fg {s:Zy} {l r:List co} {a:Unit} (h:cF s l= .ok (a,r)):dT r+2<=dT l:=by
 obtain⟨d,rfl,_⟩:=eG h;have:=gg (wF d);omega
theorem nC {l r:List co} {nm:Zy} (d:jw l= .ok (nm,r)):nm.length+2+dT r=dT l:=by
 obtain⟨a,rfl,rfl,_⟩:=lJ d;have:=gg (l:=l) (by rw[a];decide);omega
theorem iJ {s:Zy} {l:List co} (a:dB s l=true):dT l.tail+2<=dT l:=by
 have:=gg (wF a);omega
theorem Bw: ∀(f:Nat),
  (∀n l x r,cv f n l= .ok (x,r)->x.wt+1+dT r<=dT l)/\(∀n A l x r,i7 f n A l= .ok (x,r)->x.wt+dT r<=A.wt+dT l)/\
  (∀l x r,dr f l= .ok (x,r)->x.wt+1+dT r<=dT l)/\(∀nm l x r,cX f nm l= .ok (x,r)->x.wt+dT r<=1+nm.length+dT l)/\
  (∀l x r,gq f l= .ok (x,r)->gD x+dT r<=dT l)/\(∀F l x r,ie f F l= .ok (x,r)->gD x+dT r<=gD F+dT l)
 |0=>by
  refine⟨?_,?_,?_,?_,?_,?_⟩;all_goals (intros;rename_i a;simp[cv,i7,dr,cX,gq,ie]at a)
 |f+1=>by
  obtain⟨z,I,H,M,R,J⟩:=Bw f;refine⟨?_,?_,?_,?_,?_,?_⟩
  ·intro n l x r a;rw[cv]at a;obtain⟨u,q,o,h⟩:=aS a;have:=H _ _ _ o;have:=I _ _ _ _ _ h;omega
  ·intro n A l x r a;rw[i7]at a;split at a
   ·rename_i d;obtain⟨u,q,o,h⟩:=aS a;have:=z _ _ _ _ o;have:=I _ _ _ _ _ h;have:=gg (l:=l) (by rw[d.1];decide);simp only[Ex.wt,gD,ai]at*;omega
   ·obtain⟨rfl,rfl⟩:=bN a;exact ah _
  ·intro l x r a;rw[dr]at a;split at a
   ·rename_i d;have:=gg (l:=l) (by rw[d];decide);obtain⟨rfl,rfl⟩:=bN a;simp only[Ex.wt,gD,ai];omega
   ·split at a
    ·rename_i d;have:=gg (l:=l) (by rw[d];decide);obtain⟨rfl,rfl⟩:=bN a;simp only[Ex.wt,gD,ai];omega
    ·split at a
     ·rename_i d;have:=gg (l:=l) (by rw[d];decide);have:=M _ _ _ _ a;omega
     ·split at a
      ·rename_i d;obtain⟨u,q,o,h⟩:=aS a;have:=H _ _ _ o;obtain⟨rfl,rfl⟩:=bN h;have V:(cV l).k≠0:=by
        rw[dn]at d;rcases d with d|d<;>exact wF d
       have:=gg V;simp only[Ex.wt,gD,ai]at*;omega
      ·obtain⟨u,q,o,h⟩:=aS a;obtain⟨K,G,y,w⟩:=aS h;obtain⟨ab,aa,Z,X⟩:=aS w;have:=fg o;have:=z _ _ _ _ y;have:=fg Z;obtain⟨rfl,rfl⟩:=bN X;omega
  ·intro nm l x r a;rw[cX]at a;split at a
   ·rename_i d;obtain⟨u,q,o,h⟩:=aS a;obtain⟨K,G,y,w⟩:=aS h;have:=iJ d;have:=z _ _ _ _ o;have:=fg y;obtain⟨rfl,rfl⟩:=bN w;simp only[Ex.wt,gD,ai];omega
   ·split at a
    ·rename_i d;obtain⟨u,q,o,h⟩:=aS a;have:=iJ d;have:=R _ _ _ o;obtain⟨rfl,rfl⟩:=bN h;simp only[Ex.wt,ai];omega
    ·obtain⟨rfl,rfl⟩:=bN a;simp only[Ex.wt,gD,ai];omega
  ·intro l x r a;rw[gq]at a;split at a
   ·rename_i d;have:=iJ d;obtain⟨rfl,rfl⟩:=bN a;simp only[gD];omega
   ·have:=J _ _ _ _ a;simp only[gD]at this;omega
  ·intro F l x r a;rw[ie]at a;obtain⟨u,q,o,h⟩:=aS a;have:=z _ _ _ _ o;split at h
   ·rename_i d;have:=iJ d;obtain⟨rfl,rfl⟩:=bN h;rw[r8];simp only[gD];omega
   ·obtain⟨K,G,y,w⟩:=aS h;have:=fg y;have:=J _ _ _ _ w;rw[r8]at this;simp only[gD]at this;omega
theorem Aj: ∀(f:Nat),
  (∀l x r,d9 f l= .ok (x,r)->gd x+dT r<=dT l)/\(∀ac l x r,fh f ac l= .ok (x,r)->gd x+dT r<=gd ac+dT l)/\
  (∀l x r,pN f l= .ok (x,r)->x.wt+dT r<=dT l)/\(∀l x r,d7 f l= .ok (x,r)->x.wt+dT r<=dT l)
 |0=>by
  refine⟨?_,?_,?_,?_⟩;all_goals (intros;rename_i a;simp[d9,fh,pN,d7]at a)
 |f+1=>by
  obtain⟨M,af,ae,am⟩:=Aj f;obtain⟨F,_,_,an,_,_⟩:=Bw f;refine⟨?_,?_,?_,?_⟩
  ·intro l x r a;rw[d9]at a;obtain⟨I,q,w,u⟩:=aS a;have:=fg w;have:=af _ _ _ _ u;simp only[gd]at this;omega
  ·intro ac l x r a;rw[fh]at a;split at a
   ·rename_i h;have:=iJ h;obtain⟨rfl,rfl⟩:=bN a;omega
   ·obtain⟨I,q,w,u⟩:=aS a;have:=am _ _ _ w;have:=af _ _ _ _ u;rw[xe]at this;simp only[gd]at this;omega
  ·intro l x r a;rw[pN]at a;obtain⟨I,q,w,u⟩:=aS a;obtain⟨ar,A,d,o⟩:=aS u;have:=F _ _ _ _ w;have:=M _ _ _ d;split at o
   ·rename_i h;have:=iJ h;split at o
    ·rename_i R;have:=iJ R;obtain⟨aq,al,z,y⟩:=aS o;have:=ae _ _ _ z;obtain⟨rfl,rfl⟩:=bN y;simp only[St.wt,gD,gd,ai];omega
    ·obtain⟨aq,al,z,y⟩:=aS o;have:=M _ _ _ z;obtain⟨rfl,rfl⟩:=bN y;simp only[St.wt,gD,ai];omega
   ·obtain⟨rfl,rfl⟩:=bN o;simp only[St.wt,gD,gd,ai];omega
  ·intro l x r a;rw[d7]at a;split at a
   ·rename_i h;have:=iJ h;have:=ae _ _ _ a;omega
   ·split at a
    ·rename_i h;have:=iJ h;obtain⟨I,q,w,u⟩:=aS a;obtain⟨ar,A,d,o⟩:=aS u;have:=F _ _ _ _ w;have:=M _ _ _ d;obtain⟨rfl,rfl⟩:=bN o;simp only[St.wt,gD,gd,ai];omega
    ·split at a
     ·rename_i h;have:=iJ h;obtain⟨nm,q,w,u⟩:=aS a;obtain⟨ab,A,d,o⟩:=aS u;obtain⟨I,ad,z,y⟩:=aS o;have:=nC w;have:=fg z;have ag:gD ab+dT A<=dT q:=by
       split at d
       ·rename_i R;have:=iJ R;obtain⟨J,K,H,G⟩:=aS d;have:=F _ _ _ _ H;obtain⟨rfl,rfl⟩:=bN G;simp only[gD];omega
       ·obtain⟨rfl,rfl⟩:=bN d;simp only[gD];omega
      obtain⟨rfl,rfl⟩:=bN y;simp only[St.wt,gd];omega
     ·split at a
      ·rename_i h;have:=iJ h;obtain⟨ab,A,d,o⟩:=aS a;obtain⟨I,ad,z,y⟩:=aS o;have:=fg z;have ag:gD ab+dT A<=dT l.tail:=by
        split at d
        ·obtain⟨rfl,rfl⟩:=bN d;simp only[gD];omega
        ·obtain⟨J,K,H,G⟩:=aS d;have:=F _ _ _ _ H;obtain⟨rfl,rfl⟩:=bN G;simp only[gD];omega
       obtain⟨rfl,rfl⟩:=bN y;simp only[St.wt,gd,ai];omega
      ·obtain⟨nm,q,w,u⟩:=aS a;obtain⟨s,A,d,o⟩:=aS u;obtain⟨I,ad,z,y⟩:=aS o;have:=nC w;have:=fg z;have ag:s.wt+dT A<=2+nm.length+dT q:=by
        split at d
        ·obtain⟨J,K,H,G⟩:=aS d;have:=an _ _ _ _ H;obtain⟨rfl,rfl⟩:=bN G;simp only[St.wt,gD,gd,ai];omega
        ·split at d
         ·rename_i h;have:=iJ h;obtain⟨J,K,H,G⟩:=aS d;obtain⟨_,ak,V,aa⟩:=aS G;obtain⟨_,au,ap,ao⟩:=aS aa;obtain⟨ah,aj,Z,X⟩:=aS ao;have:=F _ _ _ _ H;have:=fg V;have:=fg ap;have:=F _ _ _ _ Z;obtain⟨rfl,rfl⟩:=bN X;simp only[St.wt,gD,gd];omega
         ·obtain⟨_,ak,V,aa⟩:=aS d;obtain⟨ah,aj,Z,X⟩:=aS aa;have:=fg V;have:=F _ _ _ _ Z;obtain⟨rfl,rfl⟩:=bN X;simp only[St.wt,gD,gd];omega
       obtain⟨rfl,rfl⟩:=bN y;omega
def Fc.wt (f:Fc):Nat:=f.nm.length+(f.ps.map λs=>s.length+1).sum+gd f.body
def oq (p:Pg):Nat:=(p.vs.map λv=>v.nm.length+1).sum+(p.fs.map λf=>f.wt+1).sum
theorem Hf {l r:List co} {v:Vr} (d:kg l= .ok (v,r)):v.nm.length+1+dT r<=dT l/\0<=v.sz/\v.sz<=2000:=by
 unfold kg at d;obtain⟨nm,q,I,H⟩:=aS d;obtain⟨sz,h,a,G⟩:=aS H;obtain⟨R,K,F,A⟩:=aS G;have:=nC I;have:=fg F;have w:dT h<=dT q/\0<=sz/\sz<=2000:=by
  split at a
  ·rename_i u;have:=iJ u;split at a
   ·rename_i o;have:=gg (l:=q.tail) (by rw[o];decide);split at a
    ·cases a
    ·rename_i M;obtain⟨_,J,z,y⟩:=aS a;have:=fg z;obtain⟨rfl,rfl⟩:=bN y;omega
   ·cases a
  ·obtain⟨rfl,rfl⟩:=bN a;exact⟨ah _,by decide,by decide⟩
 obtain⟨rfl,rfl⟩:=bN A;refine⟨?_,w.2⟩;change nm.length+1+_<=_;omega
theorem uv: ∀(f:Nat) acc l x r,fT f acc l= .ok (x,r)->(x.map λs=>s.length+1).sum+dT r<=(acc.map λs:Zy=>s.length+1).sum+dT l
 |0,acc,l,x,r,h=>by cases h
 |f+1,acc,l,x,r,h=>by
  rw[fT]at h;obtain⟨A,q,w,a⟩:=aS h;have:=nC w;split at a
  ·rename_i d;have:=iJ d;obtain⟨rfl,rfl⟩:=bN a;simp;omega
  ·obtain⟨z,y,u,o⟩:=aS a;have:=fg u;have:=uv f _ _ _ _ o;simp at this;omega
theorem Dz {f:Nat} {l r:List co} {x:List Zy} (a:fY f l= .ok (x,r)):(x.map λs=>s.length+1).sum+dT r<=dT l:=by
 unfold fY at a;split at a
 ·rename_i d;have:=iJ d;obtain⟨rfl,rfl⟩:=bN a;simp;omega
 ·have:=uv _ _ _ _ _ a;simpa using this
theorem F7 {f:Nat} {l r:List co} {x:Fc} (a:kV f l= .ok (x,r)):x.wt+1+dT r<=dT l:=by
 unfold kV at a;obtain⟨nm,q,A,z⟩:=aS a;obtain⟨_,H,y,w⟩:=aS z;obtain⟨ps,G,u,o⟩:=aS w;obtain⟨b,F,h,d⟩:=aS o;have:=nC A;have:=fg y;have:=Dz u;have:=(Aj f).1 _ _ _ h;obtain⟨rfl,rfl⟩:=bN d;change nm.length+(ps.map λs=>s.length+1).sum+gd b+1+_<=_;omega
theorem wd: ∀(f:Nat) (p:Pg) (l:List co) (x:Pg) (r:List co),dN f p l= .ok (x,r)->oq x<=oq p+dT l/\((∀v,v∈p.vs->0<=v.sz/\v.sz<=2000)-> ∀v,v∈x.vs->0<=v.sz/\v.sz<=2000)
 |0,p,l,x,r,a=>by cases a
 |f+1,p,l,x,r,a=>by
  rw[dN]at a;split at a
  ·obtain⟨rfl,rfl⟩:=bN a;exact⟨by omega,λa=>a⟩
  ·split at a
   ·rename_i F;have:=iJ F;obtain⟨v,q,w,u⟩:=aS a;have o:=Hf w;have h:=wd f _ _ _ _ u;refine⟨?_,λA=>h.2 λz d=> ?_⟩
    ·have:=h.1;simp only[oq,fG,List.sum_append,b7,du,fJ,List.sum_nil]at this⊢;omega
    ·rcases List.mem_append.1 d with d|d
     ·exact A z d
     ·rw[cH]at d;subst d;exact o.2
   ·obtain⟨_,q,w,u⟩:=aS a;obtain⟨c,G,o,h⟩:=aS u;have:=fg w;have:=F7 o;have y:=wd f _ _ _ _ h;refine⟨?_,y.2⟩;have:=y.1;simp only[oq,fG,List.sum_append,b7,du,fJ,List.sum_nil]at this⊢;omega
theorem AQ (p:Pg):(p.fs.map λf=>gd f.body).sum<=oq p:=by
 have:=lC (λf:Fc=>gd f.body) (λf=>f.wt+1) p.fs (λf _=>by unfold Fc.wt;omega);unfold oq;omega
theorem sT {a:Type} (f:a->Nat): ∀(l:List a) (x:a),x∈l->f x<=(l.map f).sum
 |y::r,x,h=>by
  rw[b7,fJ];rcases List.mem_cons.1 h with rfl|h
  ·omega
  ·have:=sT f r x h;omega
end
section
open Go.RowKit
structure VQ (px:Nat) (w0:World) (P:Nat->Prop) (vv fv:Value) (p:Pg) (W:World):Prop where
 box:aM W px 31 #[vv,fv]
 rv:pt W P vv p.vs
 rf:pE W P fv p.fs
 ext:au w0 W
theorem VQ.ex {px:Nat} {w0 W W':World} {P:Nat->Prop} {vv fv:Value} {p:Pg} (d:VQ px w0 P vv fv p W) (a:au W W'):VQ px w0 P vv fv p W':=
 ⟨d.box.ext a,d.rv.keep (.of_ext a) (λ_ h _=>h),d.rf.keep (.of_ext a) (λ_ h _=>h),d.ext.trans a⟩
def sL (s:St):Bool:=decide (s.dep<=20)&&s.ok
theorem iY {a:Type} (f:a->Bool) (l:List a) (j:Nat) (h:j<l.length) (d:f l[j]=false):l.all f=false:=by
 cases hh:l.all f with
 |false=>rfl
 |true=>rw[cC]at hh;have:=hh _ (ay h);rw[d]at this;cases this
theorem jC {a:Type} (f:a->Bool) (l:List a) (j:Nat) (o:j<l.length) (h:(l.take j).all f=true) (d:f l[j]=true):(l.take (j+1)).all f=true:=by
 rw[aT o,iU,h];simp[d]
theorem x7 (p:Pg) (bB: ∀v,v∈p.vs->v.nm.length<=1073741824) (P:Nat->Prop) (A:World) (Z B:Option Addr) (n c m ac:Nat) (bD: ∀f,f∈p.fs->f.nm.length<=1073741824/\(∀o,o∈f.ps->o.length<=1073741824)/\ ∀s,s∈f.body->s.wt<=1073741824) (bC:p.vs.all vA=true->p.fs.all rg=true->p.vs.length<=20->p.fs.length<=20->(lF p).length<=1000000000) (bc:pt A P (Zs Z n c) p.vs) (bd:pE A P (Zs B m ac) p.fs) (bE:ea A A.heap.size):
  Calls prog 28 #[Zu #[Zs Z n c,Zs B m ac]] A λe w'=>e= .returned (Zv (li p))/\au A w':=by
 have aG:n=p.vs.length/\n<=maxLen:=by
  obtain⟨bu,c',ab,u⟩:=bc;injection ab with _ ar _;refine⟨ar,?_⟩;rcases u with u|⟨K,X,_⟩
  ·rw[ar,u];exact aD _
  ·omega
 have aH:m=p.fs.length/\m<=maxLen:=by
  obtain⟨bu,c',ab,u⟩:=bd;injection ab with _ ar _;refine⟨ar,?_⟩;rcases u with u|⟨K,X,_⟩
  ·rw[ar,u];exact aD _
  ·omega
 obtain⟨aG,cd⟩:=aG;obtain⟨aH,cc⟩:=aH;unfold maxLen at cd cc;obtain⟨aS,aT,cq,cv,cs,bJ⟩:=Zj aG aH bB bD bC bE;generalize bF:li p=R;have aQ:=G bF;have aK:=aa A (.cells #[Zs Z n c,Zs B m ac] 31);have br:=G (show VQ A.heap.size A P (Zs Z n c) (Zs B m ac) p (A.alloc (.cells #[Zs Z n c,Zs B m ac] 31))from⟨aq A _ _,bc.keep (.of_ext aK) (λ_ d _=>d),bd.keep (.of_ext aK) (λ_ d _=>d),aK⟩);have aJ:=br.o.box.cell;clear aG aH bB bD bC bF aK bc bd bE;go_enter func28,ntmps28;go_wp2_with fail
 go_loopw [12] (λag wr=> ∃j:Nat,ag=Zr .i64 (j:Int)/\j<=n/\Hid ((p.vs.take j).all vA=true)/\Hid (VQ A.heap.size A P (Zs Z n c) (Zs B m ac) p wr)) (λag _=>n-(intOf ag).toNat)
 case atStart=>exact⟨0,rfl,aD _,G Qe,br⟩
 case round=>
  clear br aJ;obtain⟨j,rfl,a9,al,z⟩:=hrel;by_cases hlt:j<n
  ·have aI:(j:Int)<n:=Qa
   have I:j<p.vs.length:=by have:=aS.o;omega
   obtain⟨bu,c',ab,ai⟩:=z.o.rv;injection ab with aw a8 ba;rcases ai with ai|⟨K,X,b9,o9,hA2,hP9,hb9,hcl⟩
   ·rw[ai]at I;simp at I
   obtain⟨e0,cp⟩:=hcl j I;have be:Z=some ⟨b9,o9,none⟩:=aw.trans hA2;subst be;clear hcl aw hA2 a8 ba K X hP9;obtain⟨ca,ap,bp,bS⟩:=Zn (cq.o _ (ay I)) (G (λu:vA p.vs[j]=false=>show R=false by rw[<-aQ.o,li,iY vA p.vs j I u];rfl)) (G (λu:vA p.vs[j]=true=>jC vA p.vs j I al u)) (G (show vA p.vs[j]=(eB p.vs[j].nm&&decide (0<=p.vs[j].sz)&&decide (p.vs[j].sz<=2000))from rfl));generalize vA p.vs[j]=bx at*;generalize p.vs[j].nm=aB at*;generalize p.vs[j].sz=M at*;have ad:=G (dJ aB ca);generalize eB aB=ax at*;have ae:=G (z.o.ex (aa wr (.cells #[Zt (ak aB),Zr .i64 M] 76)));have aF:=(aq wr 76 #[Zt (ak aB),Zr .i64 M]).cell;by_cases hok:ax=true/\0<=M/\M<=2000
   ·obtain⟨rfl,bA,bz⟩:=hok;have bl:=G (bp.o (by rw[bS.o];simp[bA,bz]));have cG: ¬M<0:=Qa
    have cF: ¬2000<M:=Qa
    go_wp2_with (go_at_call 57;refine(ad.o _).mono ?_;rintro e af ⟨rfl,rfl⟩);go_roundw
    case rel=>exact⟨j+1,by go_num,by omega,bl,ae⟩
    case measure=>simp[intOf];omega
   ·have J:=G (ap.o (by
     rw[bS.o]
     cases ax with
     |false=>rfl
     |true=>
      by_cases h0:0<=M
      ·have K: ¬M<=2000:=λu=>hok ⟨rfl,h0,u⟩;simp[K]
      ·simp[h0]))
    have y:=G ae.o.ext
    cases ax with
    |false=>
     clear hok;go_wp2_with (go_at_call 57;refine(ad.o _).mono ?_;rintro e af ⟨rfl,rfl⟩);go_ret;exact⟨by rw[J.o];rfl,y⟩
    |true=>
     by_cases bA:M<0
     ·clear hok;go_wp2_with (go_at_call 57;refine(ad.o _).mono ?_;rintro e af ⟨rfl,rfl⟩);go_ret;exact⟨by rw[J.o];rfl,y⟩
     ·have bz:2000<M:=by
       by_cases u:2000<M
       ·exact u
       ·exact absurd ⟨rfl,by omega,by omega⟩ hok
      clear hok;go_wp2_with (go_at_call 57;refine(ad.o _).mono ?_;rintro e af ⟨rfl,rfl⟩);go_ret;exact⟨by rw[J.o];rfl,y⟩
  ·have aI: ¬(j:Int)<n:=Qa
   have av:j=n:=Qa
   have bn:=G (show p.vs.all vA=true by have:=al.o;rwa [av,aS.o,bY]at this);have aJ:=z.o.box.cell;go_wp2_with fail;clear hlt aI av a9 al
   go_loopw [34] (λag wr=> ∃j:Nat,ag=Zr .i64 (j:Int)/\j<=m/\Hid ((p.fs.take j).all rg=true)/\Hid (VQ A.heap.size A P (Zs Z n c) (Zs B m ac) p wr)) (λag _=>m-(intOf ag).toNat)
   case atStart=>exact⟨0,rfl,aD _,G Qe,z⟩
   case round=>
    clear z aJ;obtain⟨j,rfl,a9,al,z⟩:=hrel;by_cases hlt:j<m
    ·have aI:(j:Int)<m:=Qa
     have I:j<p.fs.length:=by have:=aT.o;omega
     obtain⟨bu,c',ab,ai⟩:=z.o.rf;injection ab with aw a8 ba;rcases ai with ai|⟨K,X,b9,o9,hA2,hP9,hb9,pv,bv,hcl⟩
     ·rw[ai]at I;simp at I
     obtain⟨e0,cp,cO,a3,a2⟩:=hcl j I;have be:B=some ⟨b9,o9,none⟩:=aw.trans hA2;subst be;clear hcl aw hA2 a8 ba K X hP9;obtain⟨cj,ci,ch⟩:=cv.o _ (ay I);obtain⟨ap,bp,aR⟩:=Zg (λu:rg p.fs[j]=false=>show R=false by rw[<-aQ.o,li,iY rg p.fs j I u];simp) (λu:rg p.fs[j]=true=>jC rg p.fs j I al u) (show rg p.fs[j]=(eB p.fs[j].nm&&decide (p.fs[j].ps.length<=4)&&p.fs[j].ps.all eB&&p.fs[j].body.all sL)from rfl);generalize rg p.fs[j]=bx at*;generalize p.fs[j].nm=fn at*;generalize p.fs[j].ps=F at*;generalize p.fs[j].body=w at*;generalize pv j=cC at*;generalize bv j=cP at*;obtain⟨aY,aN,rfl,cm⟩:=id a3;obtain⟨bt,bh,rfl,bb⟩:=a2.form;have bb:w.length<=maxLen:=by
      rcases bb with u|⟨K,X,_⟩
      ·rw[u];exact aD _
      ·omega
     unfold maxLen at bb;have ad:=G (dJ fn cj);generalize eB fn=ax at*;have V:=aa wr (.cells #[Zt (ak fn),Zs aY F.length aN,Zs bt w.length bh] 81);obtain⟨ae,bk⟩:=Zf (z.o.ex V) (aq wr 81 #[Zt (ak fn),Zs aY F.length aN,Zs bt w.length bh]);obtain⟨aF,bP,bN,bU⟩:=Zn bk.o.cell (G (a3.keep (.of_ext V) (λ_ d _=>d))) (G (a2.keep (.of_ext V) (λ_ d _=>d))) (G (fun(W:World) (u:qR W P (Zs aY F.length aN) F) (bG:F.length<=1073741824)=>BV (λo=> !eB o) F P W aY F.length aN u bG (λo b8 w' _=>vF o (ci o b8) w')));clear V a3 a2 cm
     cases ax with
     |false=>
      obtain⟨J,y⟩:=Zf (ap.o (by rw[aR.o];simp)) ae.o.ext;go_wp2_with (go_at_call 57;refine(ad.o _).mono ?_;rintro e af ⟨rfl,rfl⟩);go_ret;exact⟨by rw[J.o];rfl,y⟩
     |true=>
      by_cases bG:4<F.length
      ·obtain⟨J,y⟩:=Zf (ap.o (by rw[aR.o];simp[show ¬F.length<=4 from by omega])) ae.o.ext;have cn:(4:Int)<F.length:=Qa
       go_wp2_with (go_at_call 57;refine(ad.o _).mono ?_;rintro e af ⟨rfl,rfl⟩);go_ret;exact⟨by rw[J.o];rfl,y⟩
      ·have cn: ¬(4:Int)<F.length:=Qa
       obtain⟨am,bZ⟩:=Zf (bU.o _ bP Qa) (show F.any (λo=> !eB o)= !F.all eB from by rw[List.not_all_eq_any_not]);rw[bZ.o]at am;clear bZ bU
       cases hal:F.all eB with
       |false=>
        rw[hal]at am;have J:=G (ap.o (by rw[aR.o,hal];simp));clear hal;go_wp2_with (first|(go_at_call 57;refine(ad.o _).mono ?_;rintro e af ⟨rfl,rfl⟩)|(go_at_call 58;refine am.o.mono ?_;rintro e b6 ⟨rfl,a⟩;have y:=G (ae.o.ex a).ext;clear a));go_ret;exact⟨by rw[J.o];rfl,y⟩
       |true=>
        rw[hal]at am;have bK:=G (show bx=w.all sL from by rw[aR.o,hal];simp[show F.length<=4 from by omega]);clear hal;go_wp2_with (first|(go_at_call 57;refine(ad.o _).mono ?_;rintro e af ⟨rfl,rfl⟩)|(go_at_call 58;refine am.o.mono ?_;rintro e b6 ⟨rfl,a⟩;obtain⟨bV,bH⟩:=Zf (ae.o.ex a) (bk.o.ext a);clear aF;have aF:=bH.o.cell;have bM:=G (bN.o.keep (.of_ext a) (λ_ d _=>d));clear a ae));clear aF
        go_loopw [56] (λaZ wr=> ∃k:Nat,aZ=Zr .i64 (k:Int)/\k<=w.length/\Hid ((w.take k).all sL=true)/\Hid (VQ A.heap.size A P (Zs Z n c) (Zs (some ⟨b9,o9,none⟩) m ac) p wr)/\Hid (ed wr P (Zs bt w.length bh) w)) (λaZ _=>w.length-(intOf aZ).toNat)
        case atStart=>exact⟨0,rfl,aD _,G Qe,bV,bM⟩
        case round=>
         clear bV bM bH bk bN bP am z;obtain⟨k,rfl,cI,bX,bT,bO⟩:=hrel;by_cases hkl:k<w.length
         ·have cg:(k:Int)<w.length:=Qa
          obtain⟨bs,cE,cN,cM,cL,rfl,cJ,cK,cB,cA,cz,cy,cx,a5,a6,a4⟩:=bO.o.at_ k hkl;obtain⟨a1,bW,cu,bo⟩:=Zn (ch _ (ay hkl)) (G (λu:sL w[k]=false=>ap.o (by rw[bK.o,iY sL w k hkl u]))) (G (λu:sL w[k]=true=>jC sL w k hkl bX u)) (G (show sL w[k]=(decide (w[k].dep<=20)&&w[k].ok)from rfl));generalize sL w[k]=cD at*;generalize w[k]=o at*;obtain⟨aU,aL,rfl,_⟩:=a5.form;obtain⟨aX,aO,rfl,_⟩:=a6.form;obtain⟨aW,aM,rfl,_⟩:=a4.form;have V:=aa wr (.cells #[Zr .i64 o.k,Zt (ak o.nm),Zs aU o.ex.length aL,Zs aX o.body.length aO,Zs aW o.els.length aM] 147);obtain⟨ao,bR,bj⟩:=Zg (bT.o.ex V) (bO.o.keep (.of_ext V) (λ_ d _=>d) (Q:=P)) (aq wr 147 #[Zr .i64 o.k,Zt (ak o.nm),Zs aU o.ex.length aL,Zs aX o.body.length aO,Zs aW o.els.length aM]);obtain⟨aE,H,bq,bI⟩:=Zn bj.o.cell (G (aC (a5.keep (.of_ext V) (λ_ d _=>d) (Q:=P)) (aC (a6.keep (.of_ext V) (λ_ d _=>d) (Q:=P)) (a4.keep (.of_ext V) (λ_ d _=>d) (Q:=P))))) (G (λW K X bf=>uc o.wt o (ah _) a1 P W aU aX aW o.ex.length aL o.body.length aO o.els.length aM K X bf)) (G (λW K X bf=>pY o.wt o (ah _) a1 P W aU aX aW o.ex.length aL o.body.length aO o.els.length aM K X bf));clear a5 a6 a4 V a1;generalize o.dep=bg at*;generalize o.ok=b7 at*;by_cases hd:bg<=20
          ·have cl: ¬(20:Int)<bg:=Qa
           cases b7 with
           |true=>
            have cr:=G (cu.o (by rw[bo.o];simp[hd]));go_wp2_with (first|(go_at_call 60;refine(bq.o _ H.o.1 H.o.2.1 H.o.2.2).mono ?_;rintro e bw ⟨rfl,a⟩;obtain⟨az,bQ,bi⟩:=Zg (ao.o.ex a) (bR.o.keep (.of_ext a) (λ_ d _=>d) (Q:=P)) (bj.o.ext a);clear aE;have aE:=bi.o.cell;have aj:=G (aC (H.o.1.keep (.of_ext a) (λ_ d _=>d) (Q:=P)) (aC (H.o.2.1.keep (.of_ext a) (λ_ d _=>d) (Q:=P)) (H.o.2.2.keep (.of_ext a) (λ_ d _=>d) (Q:=P))));clear a ao)|(go_at_call 61;refine(bI.o _ aj.o.1 aj.o.2.1 aj.o.2.2).mono ?_;rintro e b5 ⟨rfl,a⟩;obtain⟨cw,ct⟩:=Zf (az.o.ex a) (bQ.o.keep (.of_ext a) (λ_ d _=>d) (Q:=P));clear a az));go_roundw
            case rel=>exact⟨k+1,by go_num,by omega,cr,cw,ct⟩
            case measure=>simp[intOf];omega
           |false=>
            have J:=G (bW.o (by rw[bo.o];simp));go_wp2_with (first|(go_at_call 60;refine(bq.o _ H.o.1 H.o.2.1 H.o.2.2).mono ?_;rintro e bw ⟨rfl,a⟩;obtain⟨az,bQ,bi⟩:=Zg (ao.o.ex a) (bR.o.keep (.of_ext a) (λ_ d _=>d) (Q:=P)) (bj.o.ext a);clear aE;have aE:=bi.o.cell;have aj:=G (aC (H.o.1.keep (.of_ext a) (λ_ d _=>d) (Q:=P)) (aC (H.o.2.1.keep (.of_ext a) (λ_ d _=>d) (Q:=P)) (H.o.2.2.keep (.of_ext a) (λ_ d _=>d) (Q:=P))));clear a ao)|(go_at_call 61;refine(bI.o _ aj.o.1 aj.o.2.1 aj.o.2.2).mono ?_;rintro e b5 ⟨rfl,a⟩;have y:=G (az.o.ex a).ext;clear a az));go_ret;exact⟨by rw[J.o];rfl,y⟩
          ·have cl:(20:Int)<bg:=Qa
           have J:=G (bW.o (by rw[bo.o];simp[hd]));go_wp2_with (go_at_call 60;refine(bq.o _ H.o.1 H.o.2.1 H.o.2.2).mono ?_;rintro e bw ⟨rfl,a⟩;have y:=G (ao.o.ex a).ext;clear a ao);go_ret;exact⟨by rw[J.o];rfl,y⟩
         ·have cg: ¬(k:Int)<w.length:=Qa
          have cf:k=w.length:=Qa
          have bl:=G (bp.o (by have:=bX.o;rw[cf,bY]at this;rw[bK.o];exact this));go_wp2_with fail;go_roundw
          case rel=>exact⟨j+1,by go_num,by omega,bl,bT⟩
          case measure=>simp[intOf];omega
    ·have aI: ¬(j:Int)<m:=Qa
     have av:j=m:=Qa
     have bm:=G (show p.fs.all rg=true by have:=al.o;rwa [av,aT.o,bY]at this);have aP:=G (show R=(decide (n<=20)&&decide (m<=20)&&decide ((lF p).length<=4000)) by rw[<-aQ.o,li,bn.o,bm.o,<-aS.o,<-aT.o];simp);have aJ:=z.o.box.cell;clear a9 av al aQ;by_cases h20:n<=20
     ·have co:(n:Int)<=20:=Qa
      by_cases hm20:m<=20
      ·have ce:(m:Int)<=20:=Qa
       have bL:=G (vV p (λf ck=>um (List.all_eq_true.1 bm f ck)) (λv ab=>by have:=List.all_eq_true.1 bn v ab;unfold vA at this;simp only[an,decide_eq_true_eq]at this;omega) P _ Z B n c m ac z.o.rv z.o.rf ⟨(bJ.o.fb (aV z.o.ext (ah _))).1,aA bJ.o.2 z.o.ext.size⟩ (cs.o bn bm (by have:=aS.o;omega) (by have:=aT.o;omega)));generalize lF p=S at*;have cH:(ak S).size=S.length:=a7 S;by_cases hs:S.length<=4000
       ·have cb:(S.length:Int)<=4000:=Qa
        go_wp2_with (go_at_call 62;refine bL.o.mono ?_;rintro e b4 ⟨rfl,a⟩;have y:=G (z.o.ex a).ext;clear a);go_ret;exact⟨by rw[aP.o];simp[h20,hm20,hs,dP],y⟩
       ·have cb: ¬(S.length:Int)<=4000:=Qa
        go_wp2_with (go_at_call 62;refine bL.o.mono ?_;rintro e b4 ⟨rfl,a⟩;have y:=G (z.o.ex a).ext;clear a);go_ret;exact⟨by rw[aP.o];simp[h20,hm20,hs,dP];(try omega),y⟩
      ·have ce: ¬(m:Int)<=20:=Qa
       have y:=G z.o.ext;go_wp2_with fail;go_ret;exact⟨by rw[aP.o];simp[h20,hm20,dP],y⟩
     ·have co: ¬(n:Int)<=20:=Qa
      have y:=G z.o.ext;go_wp2_with fail;go_ret;exact⟨by rw[aP.o];simp[h20,dP],y⟩
theorem rH: ∀(f:Nat) (m:Zy) (t:Zy) (n:Nat),pD f m=some (t,n)->t.length+1<=n
 |0,m,t,n,h=>by cases h
 |f+1,[],t,n,h=>by cases h
 |f+1,c::r,t,n,h=>by
  simp only[pD]at h;split at h
  ·cases h;simp
  ·split at h
   ·cases h
   ·obtain⟨⟨a,d⟩,u,o⟩:=Option.map_eq_some_iff.1 h
    cases o;have:=rH f _ a d u;show(_::a).length+1<=(cW (c::r)).2+d;rw[ag];omega
theorem ye {c:UInt8} {r:Zy} {k:Int} {t:Zy} {v:Int} {n:Nat} (a:lz (c::r)= .ok ((k,t,v),n)):t.length<=n:=by
 simp only[lz]at a;split at a
 ·unfold kS at a;split at a
  ·cases a;rw[bC];omega
  ·split at a
   ·cases a
   ·cases a;rw[bC];omega
 ·split at a
  ·unfold jv at a;split at a
   ·cases a
   ·split at a
    ·cases a
    ·cases a;simp
  ·split at a
   ·unfold jT at a;split at a
    ·cases a
    ·cases a;simp
   ·split at a
    ·unfold j8 at a;split at a
     ·cases a
     ·rename_i h o d;split at a
      ·cases a
      ·cases a;have:=rH _ _ _ _ d;omega
    ·unfold jO at a;split at a
     ·cases a;rw[bC];omega
     ·split at a
      ·cases a;rw[bC];omega
      ·cases a
theorem xl: ∀(f:Nat) (m:Zy) (d:Nat) (a:List co),iG f m d= .ok a->dT a<=3*m.length
 |0,m,d,a,h=>by cases h;simp[dT]
 |f+1,m,d,a,h=>by
  simp only[iG]at h;split at h
  ·cases h;simp[dT]
  ·rename_i c r A;split at h
   ·cases h
   ·rename_i k t v n o;have y:=pU o;have F:=ye o;split at h
    ·cases h
    ·rename_i u w
     cases h;have:=xl f _ _ u w;have z:(c::r).length<=m.length:=by rw[<-A,bH];omega
     rw[bH]at this;simp only[dT,ag]at this z y⊢;omega
theorem mw: ∀(f:Nat) (m:Zy) (d:Nat) (a:List co),iG f m d= .ok a->a.length<=m.length
 |0,m,d,a,h=>by cases h;simp
 |f+1,m,d,a,h=>by
  simp only[iG]at h;split at h
  ·cases h;simp
  ·rename_i c r A;split at h
   ·cases h
   ·rename_i k t v n w;have y:=pU w;split at h
    ·cases h
    ·rename_i o u
     cases h;have:=mw f _ _ o u;have z:(c::r).length<=m.length:=by rw[<-A,bH];omega
     rw[bH]at this;simp only[ag]at this z y⊢;omega
theorem CZ (l:Zy):(gY l).1.length<=4000/\dT (gY l).1<=12000:=by
 unfold gY;split
 ·simp[dT]
 ·split
  ·rename_i h _ a d;have:=mw _ _ _ _ d;have:=xl _ _ _ _ d;show a.length<=4000/\dT a<=12000;omega
  ·simp[dT]
def mN:Pg:=⟨[],[]⟩
def wg (n:Nat) (ts:List co):Pg×Int×Int:=match dN (4*ts.length+8) mN ts with
 | .ok (p,_)=>if li p then(p,0,0)else(mN,0,6)
 | .error (q,e)=>(mN,Is n q,e)
def mL (s:Zy):Pg×Int×Int:=if(gY s).2.2=0 then wg s.length (gY s).1 else(mN,(gY s).2.1,(gY s).2.2)
theorem AZ {p:Pg} (u:oq p<=6000000) (a:p.vs.all vA=true) (d:p.fs.all rg=true) (o:p.vs.length<=20) (h:p.fs.length<=20):(lF p).length<=1000000000:=by
 have:=Ao a d o h;have:=AQ p;omega
theorem Fa {p:Pg} {v:Vr} (a:v∈p.vs):v.nm.length<=oq p:=by
 have:=sT (λv:Vr=>v.nm.length+1) p.vs v a;unfold oq;omega
theorem uk {p:Pg} {f:Fc} (a:f∈p.fs):f.wt<=oq p:=by
 have:=sT (λf:Fc=>f.wt+1) p.fs f a;unfold oq;omega
theorem AP {f:Fc}:f.nm.length<=f.wt:=by unfold Fc.wt;omega
theorem Fb {f:Fc} {a:Zy} (d:a∈f.ps):a.length<=f.wt:=by
 have:=sT (λs:Zy=>s.length+1) f.ps a d;unfold Fc.wt;omega
theorem Hw {f:Fc} {s:St} (a:s∈f.body):s.wt<=f.wt:=by
 have:=cI a;unfold Fc.wt;omega
theorem xi (p:Pg) (w:oq p<=6000000) (P:Nat->Prop) (a:World) (o B:Option Addr) (n c m h:Nat) (A:pt a P (Zs o n c) p.vs) (G:pE a P (Zs B m h) p.fs) (F:ea a a.heap.size):
  Calls prog 28 #[Zu #[Zs o n c,Zs B m h]] a λe w'=>e= .returned (Zv (li p))/\au a w':=
 x7 p (λv y=>by have:=Fa y;omega) P a o B n c m h
  (λf d=>⟨by have:=uk d;have:=AP (f:=f);omega,λM u=>by have:=uk d;have:=Fb u;omega,λs z=>by have:=uk d;have:=Hw z;omega⟩)
  (λK J I H=>AZ w K J I H) A G F
end
section
def Iy (v:Int):Prop:= -2147483648<=v/\v<2147483648
instance (v:Int):Decidable (Iy v):=inferInstanceAs (Decidable (_/\ _))
theorem xg (v:Int):Iy (vE v):=by unfold vE Iy;simp[IntKind.wrap,IntKind.signed,IntKind.bits];omega
def pC (x:Ex):Pg:=⟨[],[⟨dv,[],[.mk 6 [] [x] [] []]⟩]⟩
theorem Dh {x:Ex} (d:x.ok=true) (z:x.dep<=19) (y:x.wt<=200):li (pC x)=true:=by
 have a:rD [.mk 6 [] [x] [] []]=true:=by simp[rD,St.ok,zD,d]
 have o:rg ⟨dv,[],[.mk 6 [] [x] [] []]⟩=true:=by
  have w:eB dv=true:=Qd
  have u:(St.mk 6 [] [x] [] []).dep<=20:=by simp[St.dep,gN,ig];omega
  unfold rg;rw[w];simp only[rD,iv]at a;simp[u,a]
 have h:(lF (pC x)).length<=4000:=by
  have:=t7 x d;have e:lF (pC x)=[102,117,110,99,32,109,97,105,110,40,41,32,123,10,9,114,101,116,117,114,110,32]++(c_ x++[59,10,125,10]):=by
   simp[lF,pC,mJ,ch,eH,lH,fM,f_,lb,eN,dv,Af,pH]
  rw[e];simp only[ac,ag,ai];omega
 unfold li;rw[show(pC x).vs.all vA=true from rfl,show(pC x).fs.all rg=true from by simp[pC,o],decide_eq_true h];rfl
end
section
open Go.RowKit
theorem au.drewN {d a:World} (h:au d a) (n:Nat):au d (a.drewN n):=h.trans ⟨rfl,rfl,rfl,ah _,λ_ _=>rfl⟩
def GW:Array Value:=(tw.flatMap λx=>[Zt (ak x.1),Zr .i64 x.2.1,Zt (ak x.2.2)]).toArray
def zt (i:Nat):Zy×Int×Zy:=tw.getD i ([],0,[])
def BT (w:World):Prop:= ∃t fr,w.heap[1]? =some (.cells GW t fr)
theorem BT.ext {d w':World} (a:BT d) (h:au d w'):BT w':=let⟨t,fr,a⟩:=a;⟨t,fr,(h.obj (Array.getElem?_eq_some_iff.1 a).1).trans a⟩
theorem BT.load {a:World} (d:BT a):(loadVar 295 ⟨1,0,none⟩).run prog a= .ok (Zu GW) a:=
 let⟨t,fr,d⟩:=d;run_loadVar_row a _ t _ GW fr _ d underlying295 rfl Qb
theorem Cm: ∀(i:Nat) (d:i<19) (a:World),(Instr.index 295 (Zu GW) (Zr .i64 (i:Int))).run prog a= .ok (Zu #[Zt (ak (zt i).1),Zr .i64 (zt i).2.1,Zt (ak (zt i).2.2)]) a
 |0,_,a=>by kernel_rfl
 |1,_,a=>by kernel_rfl
 |2,_,a=>by kernel_rfl
 |3,_,a=>by kernel_rfl
 |4,_,a=>by kernel_rfl
 |5,_,a=>by kernel_rfl
 |6,_,a=>by kernel_rfl
 |7,_,a=>by kernel_rfl
 |8,_,a=>by kernel_rfl
 |9,_,a=>by kernel_rfl
 |10,_,a=>by kernel_rfl
 |11,_,a=>by kernel_rfl
 |12,_,a=>by kernel_rfl
 |13,_,a=>by kernel_rfl
 |14,_,a=>by kernel_rfl
 |15,_,a=>by kernel_rfl
 |16,_,a=>by kernel_rfl
 |17,_,a=>by kernel_rfl
 |18,_,a=>by kernel_rfl
 |n+19,h,_=>absurd h Qa
theorem ce {P:Program} {a:World} {ops:Array Oper} {rest:List Oper} {d:Oper} {h:Act} {Q:Exit->Act->World->Prop} (y:d.guard=none) (ty:TypeId) (x:Operand) (u:d.op= .load ty x) (g:Nat) (o:h.eval x=Zw (some ⟨g,0,none⟩))
  (v:Value) (w:(loadVar ty ⟨g,0,none⟩).run P a= .ok v a) (A:wpList P ops Q rest (h.put d.dst v) a):wpList P ops Q (d::rest) h a:=by
 refine wpList_plain y λF z=> ?_;unfold Oper.wp;simp[execOp,u,Instr.loadAt,Instr.sureAddr,o,w,Result.andThen];exact z _ _ A
theorem zp (s:Zy):gh s=((tw.drop 0).find? (λx=>x.1==s)).map (·.2):=rfl
theorem EO {s:Zy} {i:Nat} (d:i<19):((tw.drop i).find? (λx=>x.1==s)).map (·.2)=if(zt i).1==s then some (zt i).2 else((tw.drop (i+1)).find? (λx=>x.1==s)).map (·.2):=by
 have a:i<tw.length:=d;have e:tw[i]=zt i:=by unfold zt;rw[bP,aI a];rfl
 rw[ap a,iT,e]
 cases (zt i).1==s<;>rfl
def GS:Bi->Ending
 |some (c,a)=> .returned (Zx #[Zr .i64 c,Zt (ak a),Zv true])
 |none=> .returned (Zx #[Zr .i64 0,Zt (ak []),Zv false])
theorem mh (s:Zy) (a:World) (A:BT a):Calls prog 175 #[Zt (ak s)] a λe w'=>e=GS (gh s)/\au a w':=by
 obtain⟨u,V,R⟩:=Zm A.load (G (zp s)) (G (aG a));clear A;generalize z:GW=C at u;have X:=G z;clear z;go_enter func175,ntmps175;go_wp2_with (refine ce rfl 295 (.global 1) rfl _ rfl _ u ?_);clear u
 go_loopw [8] (λo wr=> ∃(j:Nat),o=Zr .i64 (j:Int)/\j<=19/\Hid (gh s=((tw.drop j).find? (λx=>x.1==s)).map (·.2))/\Hid (au a wr)) (λo _=>19-(intOf o).toNat)
 case atStart=>exact⟨0,rfl,by omega,V,R⟩
 case round=>
  obtain⟨j,rfl,Z,y,H⟩:=hrel;by_cases hlt:j<19
  ·have K:(j:Int)<19:=Qa
   have M:=Cm j hlt wr;rw[X.o]at M;have I:=G (EO (s:=s) hlt);generalize zt j=J at*;obtain⟨nm,c,w⟩:=J;have F:=G (H.o.alloc' (.cells #[Zt (ak nm),Zr .i64 c,Zt (ak w)] 294))
   cases hs:(nm==s)with
   |true=>
    have d:=G (show gh s=some (c,w) by rw[y.o,I.o,hs];rfl);go_wp2_with (go_quiet (fail));exact bodyPost_ret (v:=Zx #[Zr .i64 c,Zt (ak w),Zv true]) (by simp[results,results175,go_sem]) rfl ⟨by rw[d.o];rfl,F.o.drewN _⟩
   |false=>
    have d:=G (show gh s=((tw.drop (j+1)).find? (λx=>x.1==s)).map (·.2) by rw[y.o,I.o,hs];rfl);go_wp2_with fail;go_roundw
    case rel=>exact⟨j+1,by go_num,by omega,d,F⟩
    case measure=>simp[intOf];omega
  ·have K: ¬(j:Int)<19:=Qa
   obtain rfl:j=19:=Qa
   have d:=G (show gh s=none from y);go_wp2_with fail;exact bodyPost_ret (v:=Zx #[Zr .i64 0,Zt (ak []),Zv false]) (by simp[results,results175,go_sem,ak]) rfl ⟨by rw[d.o];rfl,H⟩
end
end Go.Proofs.YtoedmpgicdekmaaGreatDoor
