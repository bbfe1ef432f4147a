/- Parts of the proof. -/
import Derived.Test.YtoedmpgicdekmaaGreatDoorCl00
import Derived.Lib.EndianBits
import Derived.Test.YtoedmpgicdekmaaGreatDoorCl24
set_option maxRecDepth 100000
set_option maxHeartbeats 8000000
set_option linter.unusedVariables false
set_option linter.unusedSimpArgs false
set_option linter.unusedSectionVars false
namespace Go.Proofs.YtoedmpgicdekmaaGreatDoor
open Go.Proofs.Tryz
open Go.RowKit
def E' (n:Int):Int:=if n<32768 then n else n-65536
def s8 (n:Int):Int:=if n<128 then n else n-256
def uC (b0 b1 b2 b3:UInt8):dl:=
 if(iO b0.toNat).2.2.2.2.1=true then⟨b0.toNat,b1.toNat,0,0,E' (b2.toNat*256+b3.toNat)⟩
 else if(iO b0.toNat).2.2.2.2.2=true then⟨b0.toNat,b1.toNat,b2.toNat,s8 b3.toNat,0⟩else⟨b0.toNat,b1.toNat,b2.toNat,b3.toNat,0⟩
def fH (b0 b1 b2 b3:UInt8):Option dl:=if 1<=b0.toNat/\b0.toNat<=22/\eZ (uC b0 b1 b2 b3)=true then some (uC b0 b1 b2 b3)else none
def BG:Option dl->Ending
 |none=> .returned (.tuple #[.agg #[.int .i64 0, .int .i64 0, .int .i64 0, .int .i64 0, .int .i64 0], .int .i64 4])
 |some x=> .returned (.tuple #[x.val, .int .i64 0])
def vu (w:World) (b o:Nat) (b0 b1 b2 b3:UInt8):Prop:=b<w.heap.size/\w.cell? ⟨b,o,none⟩=some (qQ b0)/\w.cell? ⟨b,o+1,none⟩=some (qQ b1)/\w.cell? ⟨b,o+2,none⟩=some (qQ b2)/\w.cell? ⟨b,o+3,none⟩=some (qQ b3)
theorem zN {a b:Nat} (ha:a<256) (d:b<256):bits .or .u16 ((a:Int)*256) b=(a:Int)*256+b:=bits_join .u16 16 Qd wraps_u16 8 ((a:Int)*256) b Qa Qa Qa Qa Qa Qa
theorem aM.at_ (a:World) (t:TypeId) (d:Array Value) {n:Nat} (h:a.heap.size=n):aM (a.alloc (.cells d t)) n t d:=h▸aq a t d
theorem md {a W:World} (y:au a W) {w u o h d:Value} (z:aM W a.heap.size 159 #[w,u,o,h,d]) (u0 u1 u2 u3 u4:Value):
  (∀i,(((((W.setCell ⟨a.heap.size,0,none⟩ u0).setCell ⟨a.heap.size,1,none⟩ u1).setCell ⟨a.heap.size,2,none⟩ u2).setCell ⟨a.heap.size,3,none⟩ u3).setCell ⟨a.heap.size,4,none⟩ u4).cell? ⟨a.heap.size,i,none⟩=(#[u0,u1,u2,u3,u4]:Array Value)[i]?)/\
  au a (((((W.setCell ⟨a.heap.size,0,none⟩ u0).setCell ⟨a.heap.size,1,none⟩ u1).setCell ⟨a.heap.size,2,none⟩ u2).setCell ⟨a.heap.size,3,none⟩ u3).setCell ⟨a.heap.size,4,none⟩ u4):=by
 have A:=((((z.set 0 u0).set 1 u1).set 2 u2).set 3 u3).set 4 u4;refine⟨λi=> ?_,((((y.set (ah _) _).set (ah _) _).set (ah _) _).set (ah _) _).set (ah _) _⟩;simpa using A.cell i
theorem vu.ext {h w':World} {b o:Nat} {b0 b1 b2 b3:UInt8} (a:vu h b o b0 b1 b2 b3) (d:au h w'):vu w' b o b0 b1 b2 b3:=by
 obtain⟨a,z,y,w,u⟩:=a;exact⟨aA a d.size,(d.cell b _ a).trans z,(d.cell b _ a).trans y,(d.cell b _ a).trans w,(d.cell b _ a).trans u⟩
theorem fe (b ag c:Nat) (b0 b1 b2 b3:UInt8) (o:World) (aB:FT o) (aU:vu o b ag b0 b1 b2 b3) (be:4<=c) (bd:c<=maxLen):Calls prog 86 #[.slice (some ⟨b,ag,none⟩) 4 c] o λe w'=>e=BG (fH b0 b1 b2 b3)/\au o w':=by
 have aj:=G (aa o (.cells #[.int .i64 0, .int .i64 0, .int .i64 0, .int .i64 0, .int .i64 0] 159));have aA:=G (show ∀W,au o W->W.cell? ⟨b,ag,none⟩=some (.int .u8 (b0.toNat:Int))/\W.cell? ⟨b,ag+1,none⟩=some (.int .u8 (b1.toNat:Int))/\W.cell? ⟨b,ag+2,none⟩=some (.int .u8 (b2.toNat:Int))/\W.cell? ⟨b,ag+3,none⟩=some (.int .u8 (b3.toNat:Int))from λW Z=>(aU.ext Z).2);clear aU;obtain⟨aI,aH,an,am⟩:=aA.out _ aj.out;have aF:=G (show fH b0 b1 b2 b3=if 1<=b0.toNat/\b0.toNat<=22/\eZ (uC b0 b1 b2 b3)=true then some (uC b0 b1 b2 b3)else none from rfl);have bi:=b0.toNat_lt;have bh:=b1.toNat_lt;have bg:=b2.toNat_lt;have bf:=b3.toNat_lt;by_cases aD:1<=b0.toNat/\b0.toNat<=22
 rotate_left
 ·have ac:=G (show fH b0 b1 b2 b3=none by rw[aF.out,if_neg (λZ=>aD ⟨Z.1,Z.2.1⟩)]);clear aF aA aB;generalize b0.toNat=k at*;have aC:(k:Int)<1\/(22:Int)<k:=Qa
  rcases aC with aC|aC
  ·go_enter func86,ntmps86;go_wp2_with fail;exact bodyPost_ret (v:= .tuple #[.agg #[.int .i64 0, .int .i64 0, .int .i64 0, .int .i64 0, .int .i64 0], .int .i64 4]) (by simp[results,results86,go_sem]) rfl ⟨by rw[ac.out];rfl,aj.out⟩
  ·have bk: ¬(k:Int)<1:=Qa
   go_enter func86,ntmps86;go_wp2_with fail;exact bodyPost_ret (v:= .tuple #[.agg #[.int .i64 0, .int .i64 0, .int .i64 0, .int .i64 0, .int .i64 0], .int .i64 4]) (by simp[results,results86,go_sem]) rfl ⟨by rw[ac.out];rfl,aj.out⟩
 have ac:=G (show fH b0 b1 b2 b3=if eZ (uC b0 b1 b2 b3)=true then some (uC b0 b1 b2 b3)else none by rw[aF.out];simp[aD]);have aV:=G (aj.out.alloc' (.cells #[.int .i64 0, .int .i64 0, .int .i64 0, .int .i64 0, .int .i64 0] 159));obtain⟨aZ,aY,aX,aW⟩:=aA.out _ aV.out;have aG:=G (show uC b0 b1 b2 b3=if(iO b0.toNat).2.2.2.2.1=true then⟨b0.toNat,b1.toNat,0,0,E' (b2.toNat*256+b3.toNat)⟩else if(iO b0.toNat).2.2.2.2.2=true then⟨b0.toNat,b1.toNat,b2.toNat,s8 b3.toNat,0⟩else⟨b0.toNat,b1.toNat,b2.toNat,b3.toNat,0⟩from rfl);clear aF;generalize fH b0 b1 b2 b3=D at*;generalize uC b0 b1 b2 b3=aO at*;generalize b0.toNat=k at*;generalize b1.toNat=w at*;generalize b2.toNat=A at*;generalize b3.toNat=H at*;obtain⟨aD,aC⟩:=aD;have bc: ¬(k:Int)<1:=Qa
 have bb: ¬(22:Int)<k:=Qa
 go_enter func86,ntmps86;go_wp2_with fail;go_region;obtain⟨af,aS,aJ,aT,aK⟩: ∃af,((o.alloc (.cells #[.int .i64 0, .int .i64 0, .int .i64 0, .int .i64 0, .int .i64 0] 159)).alloc (.cells #[.int .i64 k, .int .i64 w, .int .i64 0, .int .i64 0, .int .i64 0] 159)).drew=af/\au o af/\aM af o.heap.size 159 #[.int .i64 0, .int .i64 0, .int .i64 0, .int .i64 0, .int .i64 0]/\aM af (o.heap.size+1) 159 #[.int .i64 k, .int .i64 w, .int .i64 0, .int .i64 0, .int .i64 0]:=⟨_,rfl,(aj.out.alloc' _).drew,((aq o 159 #[.int .i64 0, .int .i64 0, .int .i64 0, .int .i64 0, .int .i64 0]).alloc _).drew,(aM.at_ (o.alloc (.cells #[.int .i64 0, .int .i64 0, .int .i64 0, .int .i64 0, .int .i64 0] 159)) _ _ (by rw[World.size_alloc])).drew⟩
 rw[aS];obtain⟨a9,a8,a7,ab,a6,ae⟩:=(aB.ext aJ).row k Qa;clear aI aH an am aZ aY aX aW aS aj aV;have a0:=aK.cell;generalize (iO k).1=av at*;generalize (iO k).2.1=ar at*;generalize (iO k).2.2.1=ap at*;generalize (iO k).2.2.2.1=ao at*;generalize (iO k).2.2.2.2.1=ai at*;generalize (iO k).2.2.2.2.2=ah at*
 go_upto_region 6 with fail
 have aE:=G (aJ.alloc' (.cells #[.string (ak av), .bool ar, .bool ap, .bool ao, .bool ai, .bool ah] 234));have az:=G (aK.alloc (.cells #[.string (ak av), .bool ar, .bool ap, .bool ao, .bool ai, .bool ah] 234));have aR:=G (aT.alloc (.cells #[.string (ak av), .bool ar, .bool ap, .bool ao, .bool ai, .bool ah] 234));have ba:=G (aq af 234 #[.string (ak av), .bool ar, .bool ap, .bool ao, .bool ai, .bool ah]);generalize a4:af.alloc (.cells #[.string (ak av), .bool ar, .bool ap, .bool ao, .bool ai, .bool ah] 234)=aN at*;obtain⟨aI,aH,an,am⟩:=aA.out _ aE.out;have c2:=az.out.cell;have aL:=az.out.frozen;have K:=ba.out.cell;have aQ:=G aB;clear aT aK a0 a9 a8 a7 ab a6 ae aA aJ aB aI aH a4
 cases ai with
 |true=>
   obtain⟨N,a5⟩: ∃N:Int,(A:Int)*256+H=N:=⟨_,rfl⟩
   have a3:=zN (a:=A) (b:=H) Qa Qa;have bl:IntKind.i16.wrap N=E' N:=by unfold E';simp[IntKind.wrap,IntKind.signed,IntKind.bits];split<;>split<;>omega
   rw[a5]at a3 aG;have aP:=G (show-32768<=E' N/\E' N<=32767 by unfold E';split<;>omega);generalize E' N=F at*;obtain⟨a2,a1⟩:=aP.out;go_wp2_with fail;go_region;have aw:aO=⟨k,w,0,0,F⟩:=by rw[aG.out];simp
   subst aw;have y:=G (λW (Z:au o W)=>mc ⟨k,w,0,0,F⟩ W (aQ.out.ext Z));unfold dl.val at y;simp only at y;obtain⟨z,ad,I,X,J⟩: ∃z,(aN.setCell ⟨o.heap.size+1,4,none⟩ (.int .i64 F)).drew=z/\au o z/\aM z (o.heap.size+1) 159 #[.int .i64 k, .int .i64 w, .int .i64 0, .int .i64 0, .int .i64 F]/\aM z o.heap.size 159 #[.int .i64 0, .int .i64 0, .int .i64 0, .int .i64 0, .int .i64 0]:=⟨_,rfl,(aE.out.set (p:=⟨o.heap.size+1,4,none⟩) (dX _) _).drew,(az.out.set 4 _).drew,(aR.out.far (p:=⟨o.heap.size+1,4,none⟩) (ge (dR _)) _).drew⟩
   rw[ad];clear ad c2 aL K an am;have c2:=X.cell;have K:=J.cell;have ab:=J.frozen
   cases hl:eZ ⟨k,w,0,0,F⟩with
   |true=> 
    go_wp2_with (go_at_call 134;refine(y.out _ I).mono ?_;rw[hl];rintro e al ⟨rfl,d⟩;have R:=I.trans d;have V:=X.ext d;have u:=J.ext d;have ay:=V.cell;have ax:=u.cell;have ae:=u.frozen;clear y c2 K ab d);obtain⟨M,d⟩:=md R u (.int .i64 k) (.int .i64 w) (.int .i64 0) (.int .i64 0) (.int .i64 F);exact bodyPost_ret (v:= .tuple #[.agg #[.int .i64 k, .int .i64 w, .int .i64 0, .int .i64 0, .int .i64 F], .int .i64 0]) (by simp[results,results86,go_sem,M]) rfl ⟨by rw[ac.out,if_pos hl];rfl,d⟩
   |false=>
    go_wp2_with (go_at_call 134;refine(y.out _ I).mono ?_;rw[hl];rintro e al ⟨rfl,d⟩;have R:=I.trans d;have V:=X.ext d;have u:=J.ext d;have ay:=V.cell;have ax:=u.cell;have ae:=u.frozen;clear y c2 K ab d);obtain⟨M,d⟩:=md R u (.int .i64 0) (.int .i64 0) (.int .i64 0) (.int .i64 0) (.int .i64 0);exact bodyPost_ret (v:= .tuple #[.agg #[.int .i64 0, .int .i64 0, .int .i64 0, .int .i64 0, .int .i64 0], .int .i64 4]) (by simp[results,results86,go_sem,M]) rfl ⟨by rw[ac.out,if_neg (by rw[hl];simp)];rfl,d⟩
 |false=>
  cases ah with
  |true=>
   have bj:IntKind.i8.wrap H=s8 H:=by unfold s8;simp[IntKind.wrap,IntKind.signed,IntKind.bits];split<;>split<;>omega
   have aP:=G (show-128<=s8 H/\s8 H<=127 by unfold s8;split<;>omega);generalize s8 H=F at*;obtain⟨a2,a1⟩:=aP.out;go_wp2_with fail;go_region;have aw:aO=⟨k,w,A,F,0⟩:=by rw[aG.out];simp
   subst aw;have y:=G (λW (Z:au o W)=>mc ⟨k,w,A,F,0⟩ W (aQ.out.ext Z));unfold dl.val at y;simp only at y;obtain⟨z,ad,I,X,J⟩: ∃z,((aN.setCell ⟨o.heap.size+1,2,none⟩ (.int .i64 A)).setCell ⟨o.heap.size+1,3,none⟩ (.int .i64 F)).drew=z/\au o z/\aM z (o.heap.size+1) 159 #[.int .i64 k, .int .i64 w, .int .i64 A, .int .i64 F, .int .i64 0]/\aM z o.heap.size 159 #[.int .i64 0, .int .i64 0, .int .i64 0, .int .i64 0, .int .i64 0]:=⟨_,rfl,((aE.out.set (p:=⟨o.heap.size+1,2,none⟩) (dX _) _).set (p:=⟨o.heap.size+1,3,none⟩) (dX _) _).drew,((az.out.set 2 _).set 3 _).drew,((aR.out.far (p:=⟨o.heap.size+1,2,none⟩) (ge (dR _)) _).far (p:=⟨o.heap.size+1,3,none⟩) (ge (dR _)) _).drew⟩
   rw[ad];clear ad c2 aL K an am;have c2:=X.cell;have K:=J.cell;have ab:=J.frozen
   cases hl:eZ ⟨k,w,A,F,0⟩with
   |true=> 
    go_wp2_with (go_at_call 134;refine(y.out _ I).mono ?_;rw[hl];rintro e al ⟨rfl,d⟩;have R:=I.trans d;have V:=X.ext d;have u:=J.ext d;have ay:=V.cell;have ax:=u.cell;have ae:=u.frozen;clear y c2 K ab d);obtain⟨M,d⟩:=md R u (.int .i64 k) (.int .i64 w) (.int .i64 A) (.int .i64 F) (.int .i64 0);exact bodyPost_ret (v:= .tuple #[.agg #[.int .i64 k, .int .i64 w, .int .i64 A, .int .i64 F, .int .i64 0], .int .i64 0]) (by simp[results,results86,go_sem,M]) rfl ⟨by rw[ac.out,if_pos hl];rfl,d⟩
   |false=>
    go_wp2_with (go_at_call 134;refine(y.out _ I).mono ?_;rw[hl];rintro e al ⟨rfl,d⟩;have R:=I.trans d;have V:=X.ext d;have u:=J.ext d;have ay:=V.cell;have ax:=u.cell;have ae:=u.frozen;clear y c2 K ab d);obtain⟨M,d⟩:=md R u (.int .i64 0) (.int .i64 0) (.int .i64 0) (.int .i64 0) (.int .i64 0);exact bodyPost_ret (v:= .tuple #[.agg #[.int .i64 0, .int .i64 0, .int .i64 0, .int .i64 0, .int .i64 0], .int .i64 4]) (by simp[results,results86,go_sem,M]) rfl ⟨by rw[ac.out,if_neg (by rw[hl];simp)];rfl,d⟩
  |false=>
   go_wp2_with fail;go_region;have aw:aO=⟨k,w,A,H,0⟩:=by rw[aG.out];simp
   subst aw;have y:=G (λW (Z:au o W)=>mc ⟨k,w,A,H,0⟩ W (aQ.out.ext Z));unfold dl.val at y;simp only at y;obtain⟨z,ad,I,X,J⟩: ∃z,((aN.setCell ⟨o.heap.size+1,2,none⟩ (.int .i64 A)).setCell ⟨o.heap.size+1,3,none⟩ (.int .i64 H)).drew=z/\au o z/\aM z (o.heap.size+1) 159 #[.int .i64 k, .int .i64 w, .int .i64 A, .int .i64 H, .int .i64 0]/\aM z o.heap.size 159 #[.int .i64 0, .int .i64 0, .int .i64 0, .int .i64 0, .int .i64 0]:=⟨_,rfl,((aE.out.set (p:=⟨o.heap.size+1,2,none⟩) (dX _) _).set (p:=⟨o.heap.size+1,3,none⟩) (dX _) _).drew,((az.out.set 2 _).set 3 _).drew,((aR.out.far (p:=⟨o.heap.size+1,2,none⟩) (ge (dR _)) _).far (p:=⟨o.heap.size+1,3,none⟩) (ge (dR _)) _).drew⟩
   rw[ad];clear ad c2 aL K an am;have c2:=X.cell;have K:=J.cell;have ab:=J.frozen
   cases hl:eZ ⟨k,w,A,H,0⟩with
   |true=> 
    go_wp2_with (go_at_call 134;refine(y.out _ I).mono ?_;rw[hl];rintro e al ⟨rfl,d⟩;have R:=I.trans d;have V:=X.ext d;have u:=J.ext d;have ay:=V.cell;have ax:=u.cell;have ae:=u.frozen;clear y c2 K ab d);obtain⟨M,d⟩:=md R u (.int .i64 k) (.int .i64 w) (.int .i64 A) (.int .i64 H) (.int .i64 0);exact bodyPost_ret (v:= .tuple #[.agg #[.int .i64 k, .int .i64 w, .int .i64 A, .int .i64 H, .int .i64 0], .int .i64 0]) (by simp[results,results86,go_sem,M]) rfl ⟨by rw[ac.out,if_pos hl];rfl,d⟩
   |false=>
    go_wp2_with (go_at_call 134;refine(y.out _ I).mono ?_;rw[hl];rintro e al ⟨rfl,d⟩;have R:=I.trans d;have V:=X.ext d;have u:=J.ext d;have ay:=V.cell;have ax:=u.cell;have ae:=u.frozen;clear y c2 K ab d);obtain⟨M,d⟩:=md R u (.int .i64 0) (.int .i64 0) (.int .i64 0) (.int .i64 0) (.int .i64 0);exact bodyPost_ret (v:= .tuple #[.agg #[.int .i64 0, .int .i64 0, .int .i64 0, .int .i64 0, .int .i64 0], .int .i64 4]) (by simp[results,results86,go_sem,M]) rfl ⟨by rw[ac.out,if_neg (by rw[hl];simp)];rfl,d⟩
end Go.Proofs.YtoedmpgicdekmaaGreatDoor
