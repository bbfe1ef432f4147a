/- Parts of the proof. -/
import Derived.Lib.EndianBits
import Derived.Test.YtoedmpgicdekmaaGreatDoorCo24
set_option maxRecDepth 100000
set_option maxHeartbeats 8000000
set_option linter.all false
namespace Go.Proofs.YtoedmpgicdekmaaGreatDoor
open IntKind(i64)
open Go.Proofs.Tryz
open Go.RowKit
def FI (n:Int):Int:=if n<32768 then n else n-65536
def s8 (n:Int):Int:=if n<128 then n else n-256
def vr (b0 b1 b2 b3:UInt8):dq:=
 if(jh b0.toNat).2.2.2.2.1=true then⟨b0.toNat,b1.toNat,0,0,FI (b2.toNat*256+b3.toNat)⟩
 else if(jh b0.toNat).2.2.2.2.2=true then⟨b0.toNat,b1.toNat,b2.toNat,s8 b3.toNat,0⟩else⟨b0.toNat,b1.toNat,b2.toNat,b3.toNat,0⟩
def fW (b0 b1 b2 b3:UInt8):Option dq:=if 1<=b0.toNat/\b0.toNat<=22/\ft (vr b0 b1 b2 b3)=true then some (vr b0 b1 b2 b3)else none
def Cv:Option dq->Ending
 |none=> .returned (.tuple #[.agg #[.int i64 0,.int i64 0,.int i64 0,.int i64 0,.int i64 0],.int i64 4])
 |some x=> .returned (.tuple #[x.val,.int i64 0])
def wa (w:World) (b o:Nat) (b0 b1 b2 b3:UInt8):Prop:=b<w.heap.size/\w.cell? ⟨b,o,none⟩=some (rz b0)/\w.cell? ⟨b,o+1,none⟩=some (rz b1)/\w.cell? ⟨b,o+2,none⟩=some (rz b2)/\w.cell? ⟨b,o+3,none⟩=some (rz b3)
theorem AC {a b:Nat} (ha:a<256) (d:b<256):bits .or .u16 ((a:Int)*256) b=(a:Int)*256+b:=bits_join .u16 16 Qd wraps_u16 8 ((a:Int)*256) b J J J J J J
theorem aO.at_ (a:World) (t:TypeId) (d:Array Value) {n:Nat} (h:a.heap.size=n):aO (a.alloc (.cells d t)) n t d:=h▸aq a t d
theorem mH {a W:World} (y:au a W) {w u o h d:Value} (z:aO W a.heap.size 159 #[w,u,o,h,d]) (u0 u1 u2 u3 u4:Value):
  (∀i,(((((W.setCell ⟨a.heap.size,0,none⟩ u0).setCell ⟨a.heap.size,1,none⟩ u1).setCell ⟨a.heap.size,2,none⟩ u2).setCell ⟨a.heap.size,3,none⟩ u3).setCell ⟨a.heap.size,4,none⟩ u4).cell? ⟨a.heap.size,i,none⟩=(#[u0,u1,u2,u3,u4]:Array Value)[i]?)/\
  au a (((((W.setCell ⟨a.heap.size,0,none⟩ u0).setCell ⟨a.heap.size,1,none⟩ u1).setCell ⟨a.heap.size,2,none⟩ u2).setCell ⟨a.heap.size,3,none⟩ u3).setCell ⟨a.heap.size,4,none⟩ u4):=by
 have A:=((((z.set 0 u0).set 1 u1).set 2 u2).set 3 u3).set 4 u4;refine⟨λi=> ?_,((((y.set (ah _) _).set (ah _) _).set (ah _) _).set (ah _) _).set (ah _) _⟩;simpa using A.cell i
theorem wa.ext {h w':World} {b o:Nat} {b0 b1 b2 b3:UInt8} (a:wa h b o b0 b1 b2 b3) (d:au h w'):wa w' b o b0 b1 b2 b3:=by
 obtain⟨a,z,y,w,u⟩:=a;exact⟨aA a d.size,(d.cell b _ a).trans z,(d.cell b _ a).trans y,(d.cell b _ a).trans w,(d.cell b _ a).trans u⟩
theorem fy (b an c:Nat) (b0 b1 b2 b3:UInt8) (o:World) (aH:FT o) (a1:wa o b an b0 b1 b2 b3) (bk:4<=c) (bj:c<=maxLen):Calls prog 86 #[.slice (some ⟨b,an,none⟩) 4 c] o λe w'=>e=Cv (fW b0 b1 b2 b3)/\au o w':=by
 have ar:=G (aa o (.cells #[.int i64 0,.int i64 0,.int i64 0,.int i64 0,.int i64 0] 159));have aG:=G (show ∀W,au o W->W.cell? ⟨b,an,none⟩=some (.int .u8 (b0.toNat:Int))/\W.cell? ⟨b,an+1,none⟩=some (.int .u8 (b1.toNat:Int))/\W.cell? ⟨b,an+2,none⟩=some (.int .u8 (b2.toNat:Int))/\W.cell? ⟨b,an+3,none⟩=some (.int .u8 (b3.toNat:Int))from λW ag=>(a1.ext ag).2);clear a1;obtain⟨aP,aN,ax,aw⟩:=aG.out _ ar.out;have aL:=G (show fW b0 b1 b2 b3=if 1<=b0.toNat/\b0.toNat<=22/\ft (vr b0 b1 b2 b3)=true then some (vr b0 b1 b2 b3)else none from rfl);have bo:=b0.toNat_lt;have bn:=b1.toNat_lt;have bm:=b2.toNat_lt;have bl:=b3.toNat_lt;by_cases aJ:1<=b0.toNat/\b0.toNat<=22
 rotate_left
 ·have ai:=G (show fW b0 b1 b2 b3=none by rw[aL.out,if_neg (λag=>aJ ⟨ag.1,ag.2.1⟩)]);clear aL aG aH;generalize b0.toNat=k at*;have aI:(k:Int)<1\/(22:Int)<k:=J
  rcases aI with aI|aI
  ·go_enter func86,ntmps86;go_wp2_with fail;exact bodyPost_ret (v:=.tuple #[.agg #[.int i64 0,.int i64 0,.int i64 0,.int i64 0,.int i64 0],.int i64 4]) (by simp[results,results86,go_sem]) rfl ⟨by rw[ai.out];rfl,ar.out⟩
  ·have bq: ¬(k:Int)<1:=J
   go_enter func86,ntmps86;go_wp2_with fail;exact bodyPost_ret (v:=.tuple #[.agg #[.int i64 0,.int i64 0,.int i64 0,.int i64 0,.int i64 0],.int i64 4]) (by simp[results,results86,go_sem]) rfl ⟨by rw[ai.out];rfl,ar.out⟩
 have ai:=G (show fW b0 b1 b2 b3=if ft (vr b0 b1 b2 b3)=true then some (vr b0 b1 b2 b3)else none by rw[aL.out];simp[aJ]);have a2:=G (ar.out.alloc' (.cells #[.int i64 0,.int i64 0,.int i64 0,.int i64 0,.int i64 0] 159));obtain⟨a6,a5,a4,a3⟩:=aG.out _ a2.out;have aM:=G (show vr b0 b1 b2 b3=if(jh b0.toNat).2.2.2.2.1=true then⟨b0.toNat,b1.toNat,0,0,FI (b2.toNat*256+b3.toNat)⟩else if(jh b0.toNat).2.2.2.2.2=true then⟨b0.toNat,b1.toNat,b2.toNat,s8 b3.toNat,0⟩else⟨b0.toNat,b1.toNat,b2.toNat,b3.toNat,0⟩from rfl);clear aL;generalize fW b0 b1 b2 b3=D at*;generalize vr b0 b1 b2 b3=aU at*;generalize b0.toNat=k at*;generalize b1.toNat=w at*;generalize b2.toNat=A at*;generalize b3.toNat=R at*;obtain⟨aJ,aI⟩:=aJ;have bi: ¬(k:Int)<1:=J
 have bh: ¬(22:Int)<k:=J
 go_enter func86,ntmps86;go_wp2_with fail;go_region;obtain⟨am,aY,aQ,aZ,aR⟩: ∃am,((o.alloc (.cells #[.int i64 0,.int i64 0,.int i64 0,.int i64 0,.int i64 0] 159)).alloc (.cells #[.int i64 k,.int i64 w,.int i64 0,.int i64 0,.int i64 0] 159)).drew=am/\au o am/\aO am o.heap.size 159 #[.int i64 0,.int i64 0,.int i64 0,.int i64 0,.int i64 0]/\aO am (o.heap.size+1) 159 #[.int i64 k,.int i64 w,.int i64 0,.int i64 0,.int i64 0]:=⟨_,rfl,(ar.out.alloc' _).drew,((aq o 159 #[.int i64 0,.int i64 0,.int i64 0,.int i64 0,.int i64 0]).alloc _).drew,(aO.at_ (o.alloc (.cells #[.int i64 0,.int i64 0,.int i64 0,.int i64 0,.int i64 0] 159)) _ _ (by rw[World.size_alloc])).drew⟩
 rw[aY];obtain⟨bf,be,bd,ah,bc,al⟩:=(aH.ext aQ).row k J;clear aP aN ax aw a6 a5 a4 a3 aY ar a2;have a0:=aR.cell;generalize (jh k).1=aB at*;generalize (jh k).2.1=aA at*;generalize (jh k).2.2.1=az at*;generalize (jh k).2.2.2.1=ay at*;generalize (jh k).2.2.2.2.1=ap at*;generalize (jh k).2.2.2.2.2=ao at*
 go_upto_region 6 with fail
 have aK:=G (aQ.alloc' (.cells #[.string (Z aB),.bool aA,.bool az,.bool ay,.bool ap,.bool ao] 234));have aF:=G (aR.alloc (.cells #[.string (Z aB),.bool aA,.bool az,.bool ay,.bool ap,.bool ao] 234));have aX:=G (aZ.alloc (.cells #[.string (Z aB),.bool aA,.bool az,.bool ay,.bool ap,.bool ao] 234));have bg:=G (aq am 234 #[.string (Z aB),.bool aA,.bool az,.bool ay,.bool ap,.bool ao]);generalize ba:am.alloc (.cells #[.string (Z aB),.bool aA,.bool az,.bool ay,.bool ap,.bool ao] 234)=aT at*;obtain⟨aP,aN,ax,aw⟩:=aG.out _ aK.out;have c2:=aF.out.cell;have aS:=aF.out.frozen;have I:=bg.out.cell;have aW:=G aH;clear aZ aR a0 bf be bd ah bc al aG aQ aH aP aN ba
 cases ap with
 |true=>
   obtain⟨N,bb⟩: ∃N:Int,(A:Int)*256+R=N:=⟨_,rfl⟩
   have a9:=AC (a:=A) (b:=R) J J;have br:IntKind.i16.wrap N=FI N:=by unfold FI;simp[IntKind.wrap,IntKind.signed,IntKind.bits];split<;>split<;>omega
   rw[bb]at a9 aM;have aV:=G (show-32768<=FI N/\FI N<=32767 by unfold FI;split<;>omega);generalize FI N=F at*;obtain⟨a8,a7⟩:=aV.out;go_wp2_with fail;go_region;have aC:aU=⟨k,w,0,0,F⟩:=by rw[aM.out];simp
   subst aC;have y:=G (λW (ag:au o W)=>mG ⟨k,w,0,0,F⟩ W (aW.out.ext ag));unfold dq.val at y;simp only at y;obtain⟨z,aj,V,af,X⟩: ∃z,(aT.setCell ⟨o.heap.size+1,4,none⟩ (.int i64 F)).drew=z/\au o z/\aO z (o.heap.size+1) 159 #[.int i64 k,.int i64 w,.int i64 0,.int i64 0,.int i64 F]/\aO z o.heap.size 159 #[.int i64 0,.int i64 0,.int i64 0,.int i64 0,.int i64 0]:=⟨_,rfl,(aK.out.set (p:=⟨o.heap.size+1,4,none⟩) (ed _) _).drew,(aF.out.set 4 _).drew,(aX.out.far (p:=⟨o.heap.size+1,4,none⟩) (gD (dZ _)) _).drew⟩
   rw[aj];clear aj c2 aS I ax aw;have c2:=af.cell;have I:=X.cell;have ah:=X.frozen
   cases hl:ft ⟨k,w,0,0,F⟩with
   |true=> 
    go_wp2_with (go_at_call 134;refine(y.out _ V).mono ?_;rw[hl];rintro e av ⟨rfl,d⟩;have ad:=V.trans d;have ae:=af.ext d;have u:=X.ext d;have aE:=ae.cell;have aD:=u.cell;have al:=u.frozen;clear y c2 I ah d);obtain⟨H,d⟩:=mH ad u (.int i64 k) (.int i64 w) (.int i64 0) (.int i64 0) (.int i64 F);exact bodyPost_ret (v:=.tuple #[.agg #[.int i64 k,.int i64 w,.int i64 0,.int i64 0,.int i64 F],.int i64 0]) (by simp[results,results86,go_sem,H]) rfl ⟨by rw[ai.out,if_pos hl];rfl,d⟩
   |false=>
    go_wp2_with (go_at_call 134;refine(y.out _ V).mono ?_;rw[hl];rintro e av ⟨rfl,d⟩;have ad:=V.trans d;have ae:=af.ext d;have u:=X.ext d;have aE:=ae.cell;have aD:=u.cell;have al:=u.frozen;clear y c2 I ah d);obtain⟨H,d⟩:=mH ad u (.int i64 0) (.int i64 0) (.int i64 0) (.int i64 0) (.int i64 0);exact bodyPost_ret (v:=.tuple #[.agg #[.int i64 0,.int i64 0,.int i64 0,.int i64 0,.int i64 0],.int i64 4]) (by simp[results,results86,go_sem,H]) rfl ⟨by rw[ai.out,if_neg (by rw[hl];simp)];rfl,d⟩
 |false=>
  cases ao with
  |true=>
   have bp:IntKind.i8.wrap R=s8 R:=by unfold s8;simp[IntKind.wrap,IntKind.signed,IntKind.bits];split<;>split<;>omega
   have aV:=G (show-128<=s8 R/\s8 R<=127 by unfold s8;split<;>omega);generalize s8 R=F at*;obtain⟨a8,a7⟩:=aV.out;go_wp2_with fail;go_region;have aC:aU=⟨k,w,A,F,0⟩:=by rw[aM.out];simp
   subst aC;have y:=G (λW (ag:au o W)=>mG ⟨k,w,A,F,0⟩ W (aW.out.ext ag));unfold dq.val at y;simp only at y;obtain⟨z,aj,V,af,X⟩: ∃z,((aT.setCell ⟨o.heap.size+1,2,none⟩ (.int i64 A)).setCell ⟨o.heap.size+1,3,none⟩ (.int i64 F)).drew=z/\au o z/\aO z (o.heap.size+1) 159 #[.int i64 k,.int i64 w,.int i64 A,.int i64 F,.int i64 0]/\aO z o.heap.size 159 #[.int i64 0,.int i64 0,.int i64 0,.int i64 0,.int i64 0]:=⟨_,rfl,((aK.out.set (p:=⟨o.heap.size+1,2,none⟩) (ed _) _).set (p:=⟨o.heap.size+1,3,none⟩) (ed _) _).drew,((aF.out.set 2 _).set 3 _).drew,((aX.out.far (p:=⟨o.heap.size+1,2,none⟩) (gD (dZ _)) _).far (p:=⟨o.heap.size+1,3,none⟩) (gD (dZ _)) _).drew⟩
   rw[aj];clear aj c2 aS I ax aw;have c2:=af.cell;have I:=X.cell;have ah:=X.frozen
   cases hl:ft ⟨k,w,A,F,0⟩with
   |true=> 
    go_wp2_with (go_at_call 134;refine(y.out _ V).mono ?_;rw[hl];rintro e av ⟨rfl,d⟩;have ad:=V.trans d;have ae:=af.ext d;have u:=X.ext d;have aE:=ae.cell;have aD:=u.cell;have al:=u.frozen;clear y c2 I ah d);obtain⟨H,d⟩:=mH ad u (.int i64 k) (.int i64 w) (.int i64 A) (.int i64 F) (.int i64 0);exact bodyPost_ret (v:=.tuple #[.agg #[.int i64 k,.int i64 w,.int i64 A,.int i64 F,.int i64 0],.int i64 0]) (by simp[results,results86,go_sem,H]) rfl ⟨by rw[ai.out,if_pos hl];rfl,d⟩
   |false=>
    go_wp2_with (go_at_call 134;refine(y.out _ V).mono ?_;rw[hl];rintro e av ⟨rfl,d⟩;have ad:=V.trans d;have ae:=af.ext d;have u:=X.ext d;have aE:=ae.cell;have aD:=u.cell;have al:=u.frozen;clear y c2 I ah d);obtain⟨H,d⟩:=mH ad u (.int i64 0) (.int i64 0) (.int i64 0) (.int i64 0) (.int i64 0);exact bodyPost_ret (v:=.tuple #[.agg #[.int i64 0,.int i64 0,.int i64 0,.int i64 0,.int i64 0],.int i64 4]) (by simp[results,results86,go_sem,H]) rfl ⟨by rw[ai.out,if_neg (by rw[hl];simp)];rfl,d⟩
  |false=>
   go_wp2_with fail;go_region;have aC:aU=⟨k,w,A,R,0⟩:=by rw[aM.out];simp
   subst aC;have y:=G (λW (ag:au o W)=>mG ⟨k,w,A,R,0⟩ W (aW.out.ext ag));unfold dq.val at y;simp only at y;obtain⟨z,aj,V,af,X⟩: ∃z,((aT.setCell ⟨o.heap.size+1,2,none⟩ (.int i64 A)).setCell ⟨o.heap.size+1,3,none⟩ (.int i64 R)).drew=z/\au o z/\aO z (o.heap.size+1) 159 #[.int i64 k,.int i64 w,.int i64 A,.int i64 R,.int i64 0]/\aO z o.heap.size 159 #[.int i64 0,.int i64 0,.int i64 0,.int i64 0,.int i64 0]:=⟨_,rfl,((aK.out.set (p:=⟨o.heap.size+1,2,none⟩) (ed _) _).set (p:=⟨o.heap.size+1,3,none⟩) (ed _) _).drew,((aF.out.set 2 _).set 3 _).drew,((aX.out.far (p:=⟨o.heap.size+1,2,none⟩) (gD (dZ _)) _).far (p:=⟨o.heap.size+1,3,none⟩) (gD (dZ _)) _).drew⟩
   rw[aj];clear aj c2 aS I ax aw;have c2:=af.cell;have I:=X.cell;have ah:=X.frozen
   cases hl:ft ⟨k,w,A,R,0⟩with
   |true=> 
    go_wp2_with (go_at_call 134;refine(y.out _ V).mono ?_;rw[hl];rintro e av ⟨rfl,d⟩;have ad:=V.trans d;have ae:=af.ext d;have u:=X.ext d;have aE:=ae.cell;have aD:=u.cell;have al:=u.frozen;clear y c2 I ah d);obtain⟨H,d⟩:=mH ad u (.int i64 k) (.int i64 w) (.int i64 A) (.int i64 R) (.int i64 0);exact bodyPost_ret (v:=.tuple #[.agg #[.int i64 k,.int i64 w,.int i64 A,.int i64 R,.int i64 0],.int i64 0]) (by simp[results,results86,go_sem,H]) rfl ⟨by rw[ai.out,if_pos hl];rfl,d⟩
   |false=>
    go_wp2_with (go_at_call 134;refine(y.out _ V).mono ?_;rw[hl];rintro e av ⟨rfl,d⟩;have ad:=V.trans d;have ae:=af.ext d;have u:=X.ext d;have aE:=ae.cell;have aD:=u.cell;have al:=u.frozen;clear y c2 I ah d);obtain⟨H,d⟩:=mH ad u (.int i64 0) (.int i64 0) (.int i64 0) (.int i64 0) (.int i64 0);exact bodyPost_ret (v:=.tuple #[.agg #[.int i64 0,.int i64 0,.int i64 0,.int i64 0,.int i64 0],.int i64 4]) (by simp[results,results86,go_sem,H]) rfl ⟨by rw[ai.out,if_neg (by rw[hl];simp)];rfl,d⟩
end Go.Proofs.YtoedmpgicdekmaaGreatDoor
