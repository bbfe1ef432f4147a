/-
  Parts of the proof: CpD CoP ExP.
-/
import Derived.Lib.EndianBits
import Derived.Test.YtoedmpgicdekmaaGreatDoorCq23
import Derived.Test.YtoedmpgicdekmaaGreatDoorCq00
import Derived.Test.YtoedmpgicdekmaaGreatDoorCq22
set_option maxRecDepth 100000
set_option maxHeartbeats 8000000
set_option linter.unusedVariables false
set_option linter.unusedSimpArgs false
set_option linter.unusedSectionVars false
namespace Go.Proofs.YtoedmpgicdekmaaGreatDoor
open Go.Proofs.Tryz
section
open Go.RowKit
def Cr (n:Int):Int:=if n<32768 then n else n-65536
def s8 (n:Int):Int:=if n<128 then n else n-256
def sy (b0 b1 b2 b3:UInt8):cQ:=
 if(gL b0.toNat).2.2.2.2.1=true then⟨b0.toNat,b1.toNat,0,0,Cr (b2.toNat*256+b3.toNat)⟩
 else if(gL b0.toNat).2.2.2.2.2=true then⟨b0.toNat,b1.toNat,b2.toNat,s8 b3.toNat,0⟩else⟨b0.toNat,b1.toNat,b2.toNat,b3.toNat,0⟩
def eO (b0 b1 b2 b3:UInt8):Option cQ:=if 1<=b0.toNat/\b0.toNat<=22/\em (sy b0 b1 b2 b3)=true then some (sy b0 b1 b2 b3)else none
def zC:Option cQ->Ending
 |none=> .returned (.tuple #[.agg #[.int .i64 0, .int .i64 0, .int .i64 0, .int .i64 0, .int .i64 0], .int .i64 4])
 |some x=> .returned (.tuple #[x.val, .int .i64 0])
def tn (w:World) (b o:Nat) (b0 b1 b2 b3:UInt8):Prop:=b<w.heap.size/\w.cell? ⟨b,o,none⟩=some (oY b0)/\w.cell? ⟨b,o+1,none⟩=some (oY b1)/\w.cell? ⟨b,o+2,none⟩=some (oY b2)/\w.cell? ⟨b,o+3,none⟩=some (oY b3)
theorem xI {a b:Nat} (ha:a<256) (hb:b<256):bits .or .u16 ((a:Int)*256) b=(a:Int)*256+b:=bits_join .u16 16 (by decide) wraps_u16 8 ((a:Int)*256) b (by omega) (by omega) (by omega) (by omega) (by omega) (by omega)
theorem aP.at_ (w:World) (t:TypeId) (cs:Array Value) {n:Nat} (h:w.heap.size=n):aP (w.alloc (.cells cs t)) n t cs:=h▸aw w t cs
theorem kG {w W:World} (hX:au w W) {z0 z1 z2 z3 z4:Value} (hR:aP W w.heap.size 159 #[z0,z1,z2,z3,z4]) (u0 u1 u2 u3 u4:Value):
  (∀i,(((((W.setCell ⟨w.heap.size,0,none⟩ u0).setCell ⟨w.heap.size,1,none⟩ u1).setCell ⟨w.heap.size,2,none⟩ u2).setCell ⟨w.heap.size,3,none⟩ u3).setCell ⟨w.heap.size,4,none⟩ u4).cell? ⟨w.heap.size,i,none⟩=(#[u0,u1,u2,u3,u4]:Array Value)[i]?)/\
  au w (((((W.setCell ⟨w.heap.size,0,none⟩ u0).setCell ⟨w.heap.size,1,none⟩ u1).setCell ⟨w.heap.size,2,none⟩ u2).setCell ⟨w.heap.size,3,none⟩ u3).setCell ⟨w.heap.size,4,none⟩ u4):=by
 have h:=((((hR.set 0 u0).set 1 u1).set 2 u2).set 3 u3).set 4 u4;refine⟨fun i=> ?_,((((hX.set (ah _) _).set (ah _) _).set (ah _) _).set (ah _) _).set (ah _) _⟩;simpa using h.cell i
theorem tn.ext {w w':World} {b o:Nat} {b0 b1 b2 b3:UInt8} (h:tn w b o b0 b1 b2 b3) (he:au w w'):tn w' b o b0 b1 b2 b3:=by
 obtain⟨h,q0,q1,q2,q3⟩:=h;exact⟨aA h he.size,(he.cell b _ h).trans q0,(he.cell b _ h).trans q1,(he.cell b _ h).trans q2,(he.cell b _ h).trans q3⟩
theorem ep (b o c:Nat) (b0 b1 b2 b3:UInt8) (w:World) (hF:FT w) (h4:tn w b o b0 b1 b2 b3) (hc:4<=c) (hc2:c<=maxLen):Calls prog 86 #[.slice (some ⟨b,o,none⟩) 4 c] w fun e w'=>e=zC (eO b0 b1 b2 b3)/\au w w':=by
 have HX0:=G (aa w (.cells #[.int .i64 0, .int .i64 0, .int .i64 0, .int .i64 0, .int .i64 0] 159));have H4:=G (show ∀W,au w W->W.cell? ⟨b,o,none⟩=some (.int .u8 (b0.toNat:Int))/\W.cell? ⟨b,o+1,none⟩=some (.int .u8 (b1.toNat:Int))/\W.cell? ⟨b,o+2,none⟩=some (.int .u8 (b2.toNat:Int))/\W.cell? ⟨b,o+3,none⟩=some (.int .u8 (b3.toNat:Int))from fun W h=>(h4.ext h).2);clear h4;obtain⟨q0,q1,q2,q3⟩:=H4.out _ HX0.out;have HL:=G (show eO b0 b1 b2 b3=if 1<=b0.toNat/\b0.toNat<=22/\em (sy b0 b1 b2 b3)=true then some (sy b0 b1 b2 b3)else none from rfl);have hb0:=b0.toNat_lt;have hb1:=b1.toNat_lt;have hb2:=b2.toNat_lt;have hb3:=b3.toNat_lt;by_cases h1:1<=b0.toNat/\b0.toNat<=22
 rotate_left
 ·have HR:=G (show eO b0 b1 b2 b3=none by rw[HL.out,if_neg (fun h=>h1 ⟨h.1,h.2.1⟩)]);clear HL H4 hF;generalize b0.toNat=k at*;have h2:(k:Int)<1\/(22:Int)<k:=by omega
  rcases h2 with h2|h2
  ·go_enter func86,ntmps86;go_wp2_with fail;exact bodyPost_ret (v:= .tuple #[.agg #[.int .i64 0, .int .i64 0, .int .i64 0, .int .i64 0, .int .i64 0], .int .i64 4]) (by simp[results,results86,go_sem]) rfl ⟨by rw[HR.out];rfl,HX0.out⟩
  ·have h3: ¬(k:Int)<1:=by omega
   go_enter func86,ntmps86;go_wp2_with fail;exact bodyPost_ret (v:= .tuple #[.agg #[.int .i64 0, .int .i64 0, .int .i64 0, .int .i64 0, .int .i64 0], .int .i64 4]) (by simp[results,results86,go_sem]) rfl ⟨by rw[HR.out];rfl,HX0.out⟩
 have HR:=G (show eO b0 b1 b2 b3=if em (sy b0 b1 b2 b3)=true then some (sy b0 b1 b2 b3)else none by rw[HL.out];simp[h1]);have HX1:=G (HX0.out.alloc' (.cells #[.int .i64 0, .int .i64 0, .int .i64 0, .int .i64 0, .int .i64 0] 159));obtain⟨r0,r1,r2,r3⟩:=H4.out _ HX1.out;have HI:=G (show sy b0 b1 b2 b3=if(gL b0.toNat).2.2.2.2.1=true then⟨b0.toNat,b1.toNat,0,0,Cr (b2.toNat*256+b3.toNat)⟩else if(gL b0.toNat).2.2.2.2.2=true then⟨b0.toNat,b1.toNat,b2.toNat,s8 b3.toNat,0⟩else⟨b0.toNat,b1.toNat,b2.toNat,b3.toNat,0⟩from rfl);clear HL;generalize eO b0 b1 b2 b3=D at*;generalize sy b0 b1 b2 b3=I at*;generalize b0.toNat=k at*;generalize b1.toNat=n1 at*;generalize b2.toNat=n2 at*;generalize b3.toNat=n3 at*;obtain⟨h1,h2⟩:=h1;have k1: ¬(k:Int)<1:=by omega
 have k2: ¬(22:Int)<k:=by omega
 go_enter func86,ntmps86;go_wp2_with fail;go_region;obtain⟨W1,hW1,hX,hB0,hB1⟩: ∃W1,((w.alloc (.cells #[.int .i64 0, .int .i64 0, .int .i64 0, .int .i64 0, .int .i64 0] 159)).alloc (.cells #[.int .i64 k, .int .i64 n1, .int .i64 0, .int .i64 0, .int .i64 0] 159)).drew=W1/\au w W1/\aP W1 w.heap.size 159 #[.int .i64 0, .int .i64 0, .int .i64 0, .int .i64 0, .int .i64 0]/\aP W1 (w.heap.size+1) 159 #[.int .i64 k, .int .i64 n1, .int .i64 0, .int .i64 0, .int .i64 0]:=⟨_,rfl,(HX0.out.alloc' _).drew,((aw w 159 #[.int .i64 0, .int .i64 0, .int .i64 0, .int .i64 0, .int .i64 0]).alloc _).drew,(aP.at_ (w.alloc (.cells #[.int .i64 0, .int .i64 0, .int .i64 0, .int .i64 0, .int .i64 0] 159)) _ _ (by rw[World.size_alloc])).drew⟩
 rw[hW1];obtain⟨f0,f1,f2,f3,f4,f5⟩:=(hF.ext hX).row k (by omega);clear q0 q1 q2 q3 r0 r1 r2 r3 hW1 HX0 HX1;have a0:=hB1.cell;generalize (gL k).1=m0 at*;generalize (gL k).2.1=m1 at*;generalize (gL k).2.2.1=m2 at*;generalize (gL k).2.2.2.1=m3 at*;generalize (gL k).2.2.2.2.1=m4 at*;generalize (gL k).2.2.2.2.2=m5 at*
 go_upto_region 6 with fail
 have HX2:=G (hX.alloc' (.cells #[.string (an m0), .bool m1, .bool m2, .bool m3, .bool m4, .bool m5] 234));have HB2:=G (hB1.alloc (.cells #[.string (an m0), .bool m1, .bool m2, .bool m3, .bool m4, .bool m5] 234));have HB0:=G (hB0.alloc (.cells #[.string (an m0), .bool m1, .bool m2, .bool m3, .bool m4, .bool m5] 234));have HB3:=G (aw W1 234 #[.string (an m0), .bool m1, .bool m2, .bool m3, .bool m4, .bool m5]);generalize hW2:W1.alloc (.cells #[.string (an m0), .bool m1, .bool m2, .bool m3, .bool m4, .bool m5] 234)=W2 at*;obtain⟨q0,q1,q2,q3⟩:=H4.out _ HX2.out;have c2:=HB2.out.cell;have fz:=HB2.out.frozen;have c3:=HB3.out.cell;have HF:=G hF;clear hB0 hB1 a0 f0 f1 f2 f3 f4 f5 H4 hX hF q0 q1 hW2
 cases m4 with
 |true=>
   obtain⟨N,hN⟩: ∃N:Int,(n2:Int)*256+n3=N:=⟨_,rfl⟩
   have hbt:=xI (a:=n2) (b:=n3) (by omega) (by omega);have h16:IntKind.i16.wrap N=Cr N:=by unfold Cr;simp[IntKind.wrap,IntKind.signed,IntKind.bits];split<;>split<;>omega
   rw[hN]at hbt HI;have HS:=G (show-32768<=Cr N/\Cr N<=32767 by unfold Cr;split<;>omega);generalize Cr N=V at*;obtain⟨hs1,hs2⟩:=HS.out;go_wp2_with fail;go_region;have hI:I=⟨k,n1,0,0,V⟩:=by rw[HI.out];simp
   subst hI;have HLg:=G (fun W (h:au w W)=>kF ⟨k,n1,0,0,V⟩ W (HF.out.ext h));unfold cQ.val at HLg;simp only at HLg;obtain⟨W3,hW3,hX3,hB3,hR3⟩: ∃W3,(W2.setCell ⟨w.heap.size+1,4,none⟩ (.int .i64 V)).drew=W3/\au w W3/\aP W3 (w.heap.size+1) 159 #[.int .i64 k, .int .i64 n1, .int .i64 0, .int .i64 0, .int .i64 V]/\aP W3 w.heap.size 159 #[.int .i64 0, .int .i64 0, .int .i64 0, .int .i64 0, .int .i64 0]:=⟨_,rfl,(HX2.out.set (p:=⟨w.heap.size+1,4,none⟩) (eG _) _).drew,(HB2.out.set 4 _).drew,(HB0.out.far (p:=⟨w.heap.size+1,4,none⟩) (fu (dt _)) _).drew⟩
   rw[hW3];clear hW3 c2 fz c3 q2 q3;have c2:=hB3.cell;have c3:=hR3.cell;have f3:=hR3.frozen
   cases hl:em ⟨k,n1,0,0,V⟩with
   |true=> 
    go_wp2_with (go_at_call 134;refine(HLg.out _ hX3).mono ?_;rw[hl];rintro e w4 ⟨rfl,hE⟩;have hX4:=hX3.trans hE;have hB4:=hB3.ext hE;have hR4:=hR3.ext hE;have c4:=hB4.cell;have c5:=hR4.cell;have f5:=hR4.frozen;clear HLg c2 c3 f3 hE);obtain⟨hq,hE⟩:=kG hX4 hR4 (.int .i64 k) (.int .i64 n1) (.int .i64 0) (.int .i64 0) (.int .i64 V);exact bodyPost_ret (v:= .tuple #[.agg #[.int .i64 k, .int .i64 n1, .int .i64 0, .int .i64 0, .int .i64 V], .int .i64 0]) (by simp[results,results86,go_sem,hq]) rfl ⟨by rw[HR.out,if_pos hl];rfl,hE⟩
   |false=>
    go_wp2_with (go_at_call 134;refine(HLg.out _ hX3).mono ?_;rw[hl];rintro e w4 ⟨rfl,hE⟩;have hX4:=hX3.trans hE;have hB4:=hB3.ext hE;have hR4:=hR3.ext hE;have c4:=hB4.cell;have c5:=hR4.cell;have f5:=hR4.frozen;clear HLg c2 c3 f3 hE);obtain⟨hq,hE⟩:=kG hX4 hR4 (.int .i64 0) (.int .i64 0) (.int .i64 0) (.int .i64 0) (.int .i64 0);exact bodyPost_ret (v:= .tuple #[.agg #[.int .i64 0, .int .i64 0, .int .i64 0, .int .i64 0, .int .i64 0], .int .i64 4]) (by simp[results,results86,go_sem,hq]) rfl ⟨by rw[HR.out,if_neg (by rw[hl];simp)];rfl,hE⟩
 |false=>
  cases m5 with
  |true=>
   have h8:IntKind.i8.wrap n3=s8 n3:=by unfold s8;simp[IntKind.wrap,IntKind.signed,IntKind.bits];split<;>split<;>omega
   have HS:=G (show-128<=s8 n3/\s8 n3<=127 by unfold s8;split<;>omega);generalize s8 n3=V at*;obtain⟨hs1,hs2⟩:=HS.out;go_wp2_with fail;go_region;have hI:I=⟨k,n1,n2,V,0⟩:=by rw[HI.out];simp
   subst hI;have HLg:=G (fun W (h:au w W)=>kF ⟨k,n1,n2,V,0⟩ W (HF.out.ext h));unfold cQ.val at HLg;simp only at HLg;obtain⟨W3,hW3,hX3,hB3,hR3⟩: ∃W3,((W2.setCell ⟨w.heap.size+1,2,none⟩ (.int .i64 n2)).setCell ⟨w.heap.size+1,3,none⟩ (.int .i64 V)).drew=W3/\au w W3/\aP W3 (w.heap.size+1) 159 #[.int .i64 k, .int .i64 n1, .int .i64 n2, .int .i64 V, .int .i64 0]/\aP W3 w.heap.size 159 #[.int .i64 0, .int .i64 0, .int .i64 0, .int .i64 0, .int .i64 0]:=⟨_,rfl,((HX2.out.set (p:=⟨w.heap.size+1,2,none⟩) (eG _) _).set (p:=⟨w.heap.size+1,3,none⟩) (eG _) _).drew,((HB2.out.set 2 _).set 3 _).drew,((HB0.out.far (p:=⟨w.heap.size+1,2,none⟩) (fu (dt _)) _).far (p:=⟨w.heap.size+1,3,none⟩) (fu (dt _)) _).drew⟩
   rw[hW3];clear hW3 c2 fz c3 q2 q3;have c2:=hB3.cell;have c3:=hR3.cell;have f3:=hR3.frozen
   cases hl:em ⟨k,n1,n2,V,0⟩with
   |true=> 
    go_wp2_with (go_at_call 134;refine(HLg.out _ hX3).mono ?_;rw[hl];rintro e w4 ⟨rfl,hE⟩;have hX4:=hX3.trans hE;have hB4:=hB3.ext hE;have hR4:=hR3.ext hE;have c4:=hB4.cell;have c5:=hR4.cell;have f5:=hR4.frozen;clear HLg c2 c3 f3 hE);obtain⟨hq,hE⟩:=kG hX4 hR4 (.int .i64 k) (.int .i64 n1) (.int .i64 n2) (.int .i64 V) (.int .i64 0);exact bodyPost_ret (v:= .tuple #[.agg #[.int .i64 k, .int .i64 n1, .int .i64 n2, .int .i64 V, .int .i64 0], .int .i64 0]) (by simp[results,results86,go_sem,hq]) rfl ⟨by rw[HR.out,if_pos hl];rfl,hE⟩
   |false=>
    go_wp2_with (go_at_call 134;refine(HLg.out _ hX3).mono ?_;rw[hl];rintro e w4 ⟨rfl,hE⟩;have hX4:=hX3.trans hE;have hB4:=hB3.ext hE;have hR4:=hR3.ext hE;have c4:=hB4.cell;have c5:=hR4.cell;have f5:=hR4.frozen;clear HLg c2 c3 f3 hE);obtain⟨hq,hE⟩:=kG hX4 hR4 (.int .i64 0) (.int .i64 0) (.int .i64 0) (.int .i64 0) (.int .i64 0);exact bodyPost_ret (v:= .tuple #[.agg #[.int .i64 0, .int .i64 0, .int .i64 0, .int .i64 0, .int .i64 0], .int .i64 4]) (by simp[results,results86,go_sem,hq]) rfl ⟨by rw[HR.out,if_neg (by rw[hl];simp)];rfl,hE⟩
  |false=>
   go_wp2_with fail;go_region;have hI:I=⟨k,n1,n2,n3,0⟩:=by rw[HI.out];simp
   subst hI;have HLg:=G (fun W (h:au w W)=>kF ⟨k,n1,n2,n3,0⟩ W (HF.out.ext h));unfold cQ.val at HLg;simp only at HLg;obtain⟨W3,hW3,hX3,hB3,hR3⟩: ∃W3,((W2.setCell ⟨w.heap.size+1,2,none⟩ (.int .i64 n2)).setCell ⟨w.heap.size+1,3,none⟩ (.int .i64 n3)).drew=W3/\au w W3/\aP W3 (w.heap.size+1) 159 #[.int .i64 k, .int .i64 n1, .int .i64 n2, .int .i64 n3, .int .i64 0]/\aP W3 w.heap.size 159 #[.int .i64 0, .int .i64 0, .int .i64 0, .int .i64 0, .int .i64 0]:=⟨_,rfl,((HX2.out.set (p:=⟨w.heap.size+1,2,none⟩) (eG _) _).set (p:=⟨w.heap.size+1,3,none⟩) (eG _) _).drew,((HB2.out.set 2 _).set 3 _).drew,((HB0.out.far (p:=⟨w.heap.size+1,2,none⟩) (fu (dt _)) _).far (p:=⟨w.heap.size+1,3,none⟩) (fu (dt _)) _).drew⟩
   rw[hW3];clear hW3 c2 fz c3 q2 q3;have c2:=hB3.cell;have c3:=hR3.cell;have f3:=hR3.frozen
   cases hl:em ⟨k,n1,n2,n3,0⟩with
   |true=> 
    go_wp2_with (go_at_call 134;refine(HLg.out _ hX3).mono ?_;rw[hl];rintro e w4 ⟨rfl,hE⟩;have hX4:=hX3.trans hE;have hB4:=hB3.ext hE;have hR4:=hR3.ext hE;have c4:=hB4.cell;have c5:=hR4.cell;have f5:=hR4.frozen;clear HLg c2 c3 f3 hE);obtain⟨hq,hE⟩:=kG hX4 hR4 (.int .i64 k) (.int .i64 n1) (.int .i64 n2) (.int .i64 n3) (.int .i64 0);exact bodyPost_ret (v:= .tuple #[.agg #[.int .i64 k, .int .i64 n1, .int .i64 n2, .int .i64 n3, .int .i64 0], .int .i64 0]) (by simp[results,results86,go_sem,hq]) rfl ⟨by rw[HR.out,if_pos hl];rfl,hE⟩
   |false=>
    go_wp2_with (go_at_call 134;refine(HLg.out _ hX3).mono ?_;rw[hl];rintro e w4 ⟨rfl,hE⟩;have hX4:=hX3.trans hE;have hB4:=hB3.ext hE;have hR4:=hR3.ext hE;have c4:=hB4.cell;have c5:=hR4.cell;have f5:=hR4.frozen;clear HLg c2 c3 f3 hE);obtain⟨hq,hE⟩:=kG hX4 hR4 (.int .i64 0) (.int .i64 0) (.int .i64 0) (.int .i64 0) (.int .i64 0);exact bodyPost_ret (v:= .tuple #[.agg #[.int .i64 0, .int .i64 0, .int .i64 0, .int .i64 0, .int .i64 0], .int .i64 4]) (by simp[results,results86,go_sem,hq]) rfl ⟨by rw[HR.out,if_neg (by rw[hl];simp)];rfl,hE⟩
end
section
abbrev Nm:=List UInt8
structure CS where
 code:List cQ
 tx:List UInt8
 calls:List (Nat×Nm)
 dats:List (Nat×Nm)
 slots:List (Nm×Int)
 frame:Int
def jc (n:Int):Int:=if n%65536<32768 then n%65536 else n%65536-65536
def ER (n:Int):Int:=jc ((n-jc n)/65536)
def CS.add (s:CS) (x:cQ):CS:={s with code:=s.code++[x]}
def CS.vl (s:CS) (op:Nat) (a v:Int):CS:=s.add ⟨op,a,0,0,v⟩
def CS.op (s:CS) (o:Nat) (a b n:Int):CS:=s.add ⟨o,a,b,n,0⟩
def CS.st (s:CS) (r n:Int):CS:=if ER n=0 then s.vl 1 r (jc n)else(s.vl 1 r (jc n)).vl 2 r (ER n)
def fU (x:cQ) (v:Int):cQ:={x with v:=v}
def CS.land (s:CS) (i:Nat):CS:={s with code:=s.code.modify i (fU · ((s.code.length:Int)-i-1))}
def CS.inv (s:CS) (r:Int):CS:=(s.vl 1 0 0).op 13 r r 0
def CS.chk (s:CS) (r m:Int):CS:=(((((s.st 0 (m+1)).op 12 0 r 0).vl 1 14 (-1)).op 12 14 14 r).op 9 0 0 14).op 7 0 0 0
def CS.text (s:CS) (r:Int) (t:List UInt8):CS:={(s.vl 1 r s.tx.length)with dats:=s.dats++[(s.code.length,[])],tx:=s.tx++t}
def CS.dat (s:CS) (r:Int) (nm:Nm):CS:={(s.vl 1 r 0)with dats:=s.dats++[(s.code.length,nm)]}
def ge (l:List (Nm×Int)) (nm:Nm):Option Int:=(l.find? (·.1==nm)).map (·.2)
def CS.ld (s:CS) (o:Nat) (r:Int) (nm:Nm):CS:=match ge s.slots nm with
 |some at_=>s.op o r 15 at_
 |none=>(s.dat 0 nm).op o r 0 0
def gx (l:List (Nm×Int)) (nm:Nm) (v:Int):List (Nm×Int):=if l.any (·.1==nm)=true then l.map (fun x=>if x.1=nm then(nm,v)else x)else(nm,v)::l
def CS.decl (s:CS) (nm:Nm):CS:={s with slots:=gx s.slots nm (32+4*s.slots.length)}
def GF:List (Nm×Nat×Bool×Bool):=[([43],4,false,false),([45],5,false,false),([42],6,false,false),([47],7,false,false),([37],8,false,false),([61,61],13,false,false),([33,61],13,false,true),([60],12,false,false),([60,61],12,true,true),([62],12,true,false)]
def qE (op:Nm):Nat×Bool×Bool:=((GF.find? (·.1==op)).map (·.2)).getD (12,false,true)
def pz (op:Nm) (r:Int) (s:CS):CS:=
 let s1:=if(qE op).2.1=true then s.op (qE op).1 r (r+1) r else s.op (qE op).1 r r (r+1)
 if(qE op).2.2=true then s1.inv r else s1
def nQ (o:Nat):Nat->Nat->CS->CS
 |0,i,s=>s
 |k+1,i,s=>nQ o k (i+1) (s.op o i 15 (4+4*((i:Int)-7)))
def si (r:Nat):Nat->Nat->CS->CS
 |0,i,s=>s
 |k+1,i,s=>si r k (i+1) (s.op 3 (1+i) (r+i) 0)
def CS.call (s:CS) (nm:Nm):CS:={(s.vl 20 14 0)with calls:=s.calls++[(s.code.length,nm)]}
def jM (nm:Nm) (n r:Nat) (s:CS):CS:=(nQ 14 (r-7) 7 ((si r n 0 (nQ 15 (r-7) 7 s)).call nm)).op 3 r 1 0
def tu:List UInt8->List Ex->Nat
 | _,[]=>0
 |ls,_::l=>if ls.headD 0=105 then tu ls.tail l+1 else tu ls.tail l
def xB (c:Int) (n r i:Nat) (s:CS):CS:=if n<=i\/c=10/\0<i then s.vl 1 (2+i) 0 else s.op 3 (2+i) (r+i) 0
section
variable (sz:Nm->Int)
def CS.elem (s:CS) (r:Int) (nm:Nm):CS:=((s.chk r (sz nm-1)).dat 0 nm).op 4 0 0 r
def mL:List UInt8->List Ex->Int->CS->Int×CS
 | _,[],lim,s=>(lim,s)
 |ls,x::l,lim,s=>if ls.headD 0=105 then mL ls.tail l lim s else if x.k=2 then mL ls.tail l x.tx.length ((s.text 5 x.tx).st 6 x.tx.length)else mL ls.tail l (sz x.nm) (s.dat 5 x.nm)
def iq (c:Int) (ls:List UInt8) (a:List Ex) (r:Nat) (s:CS):CS:=
 let n:=tu ls a
 let p:=mL sz ls a 0 s
 let s1:=if c=9\/c=10 then p.2.chk ((r:Int)+n-1) (min p.1 128)else p.2
 let s2:=xB c n r 2 (xB c n r 1 (xB c n r 0 s1))
 let s3:=if c=9\/c=10 then s2.op 3 6 ((r:Int)+n-1) 0 else s2
 ((s3.vl 1 1 c).op 22 0 0 0).op 3 r 1 0
mutual
def eJ:Ex->Nat->CS->CS
 | .mk k op nm tx v a,r,s=>
  if k=1 then s.st r v
  else if k=3 then s.ld 14 r nm
  else if k=4 then((gt a r s).elem sz r nm).op 16 r 0 0
  else if k=5 then(match fx nm with
   |some (c,ls)=>iq sz c ls a r (oH ls a r s)
   |none=>jM nm a.length r (qZ a r s))
  else if k=6 then(if op=[33]then(gt a r s).inv r else((gt a r s).vl 1 0 0).op 5 r 0 r)
  else if k=7 then
   (if op=[38,38]then((((rz a r ((gt a r s).vl 19 r 0)).inv r).inv r).land (gt a r s).code.length)
   else if op=[124,124]then(((rz a r (((gt a r s).inv r).vl 19 r 0)).inv r).land ((gt a r s).inv r).code.length).inv r
   else pz op r (rz a (r+1) (gt a r s)))
  else s
def gt:List Ex->Nat->CS->CS
 | [],r,s=>s
 |x::_,r,s=>eJ x r s
def rz:List Ex->Nat->CS->CS
 | [],r,s=>s
 | _::l,r,s=>gt l r s
def qZ:List Ex->Nat->CS->CS
 | [],r,s=>s
 |x::l,r,s=>qZ l (r+1) (eJ x r s)
def oH:List UInt8->List Ex->Nat->CS->CS
 | _,[],r,s=>s
 |ls,x::l,r,s=>if ls.headD 0=105 then oH ls.tail l (r+1) (eJ x r s)else oH ls.tail l r s
end
def CS.back (s:CS):CS:=((s.op 14 14 15 0).op 3 15 15 s.frame).op 21 14 0 0
mutual
def nF:St->CS->CS
 | .mk k nm ex b e,s=>
  if k=4 then
   (if e.isEmpty=true then(dG b ((gt sz ex 7 s).vl 19 7 0)).land (gt sz ex 7 s).code.length
   else(dG e (((dG b ((gt sz ex 7 s).vl 19 7 0)).vl 18 0 0).land (gt sz ex 7 s).code.length)).land (dG b ((gt sz ex 7 s).vl 19 7 0)).code.length)
  else if k=5 then
   ((dG b ((gt sz ex 7 s).vl 19 7 0)).vl 18 0 ((s.code.length:Int)-(dG b ((gt sz ex 7 s).vl 19 7 0)).code.length-1)).land (gt sz ex 7 s).code.length
  else if k=1 then((g8 ex s).decl nm).ld 15 7 nm
  else if k=2 then(g8 ex s).ld 15 7 nm
  else if k=3 then((((rz sz ex 7 ((g8 ex s).op 15 7 15 28)).op 3 8 7 0).op 14 7 15 28).elem sz 7 nm).op 17 8 0 0
  else if k=6 then((g8 ex s).op 3 1 7 0).back
  else g8 ex s
def dG:List St->CS->CS
 | [],s=>s
 |x::l,s=>dG l (nF x s)
def g8:List Ex->CS->CS
 | [],s=>s.vl 1 7 0
 |x::_,s=>eJ sz x 7 s
end
def lZ:List Nm->Nat->CS->CS
 | [],i,s=>s
 |p::l,i,s=>lZ l (i+1) ((s.decl p).op 15 (1+i) 15 (32+4*i))
def Ay:Nat->Nat->CS->CS
 |0,i,s=>s
 |k+1,i,s=>Ay k (i+1) (s.op 15 0 15 (32+4*i))
def EY (f:Fc) (s:CS):CS:=
 let s0:CS:={s with slots:=[],frame:=il f}
 let s1:=(((((s0.op 3 15 15 (-(il f:Int))).vl 1 0 3071).op 12 0 0 15).op 7 0 0 0).op 15 14 15 0)
 let s2:=Ay (cJ f.body) f.ps.length ((lZ f.ps 0 s1).vl 1 0 0)
 ((dG sz f.body s2).vl 1 1 0).back
def l5:List Fc->List (Nm×Int)×CS->List (Nm×Int)×CS
 | [],p=>p
 |f::l,p=>l5 l ((f.nm,(p.2.code.length:Int))::p.1,EY sz f p.2)
end
def Gk:CS:=⟨[],[],[],[],[],0⟩
def g6:CS:=((((((Gk.call cY).vl 1 0 255).op 9 2 1 0).vl 1 1 0).vl 1 3 0).vl 1 4 0|>.op 22 0 0 0).vl 18 0 (-1)
def mq:List Vr->Int->List (Nm×Int)->Int×List (Nm×Int)
 | [],n,l=>(n,l)
 |v::r,n,l=>if v.sz=0 then mq r (n+4) ((v.nm,n)::l)else mq r n l
def qz:List Vr->Int->List (Nm×Int)->Int×List (Nm×Int)
 | [],n,l=>(n,l)
 |v::r,n,l=>if 0<v.sz then qz r (n+v.sz) ((v.nm,n)::l)else qz r n l
def qm:List Vr->List (Nm×Int)->List (Nm×Int)
 | [],l=>l
 |v::r,l=>if 0<v.sz then qm r ((v.nm,v.sz)::l)else qm r l
def aN (l:List (Nm×Int)) (nm:Nm):Int:=(ge l nm).getD 0
structure kN where
 code:List UInt8
 data:List UInt8
 zero:Int
 entry:Int
def b8 (n:Int):UInt8:=UInt8.ofNat (n%256).toNat
def jd (x:cQ):List UInt8:=if(gL x.op).2.2.2.2.1=true then[b8 x.op,b8 x.a,b8 (x.v/256),b8 x.v]else[b8 x.op,b8 x.a,b8 x.b,b8 x.c]
def jT (l:List UInt8):List UInt8:=l++List.replicate ((4-l.length%4)%4) 0
def j7 (n:Int):Int:=(n+127)/128*128
def qU (at_:List (Nm×Int)):List (Nat×Nm)->List cQ->List cQ
 | [],c=>c
 |p::l,c=>qU at_ l (c.modify p.1 (fU · (aN at_ p.2-p.1-1)))
def addV (x:cQ) (v:Int):cQ:={x with v:=x.v+v}
def qT (data tx:Int) (pl:List (Nm×Int)):List (Nat×Nm)->List cQ->List cQ
 | [],c=>c
 |p::l,c=>qT data tx pl l (c.modify p.1 (addV · (if p.2=[]then data else data+(tx+aN pl p.2))))
def fD (p:Pg):CS×List (Nm×Int)×Int:=
 let i:=mq p.vs 0 []
 let a:=qz p.vs i.1 i.2
 let f:=l5 (aN (qm p.vs [])) p.fs ([],g6)
 (f.2,f.1,a.1)
end
section
def gG:Nat->Nat->List UInt8
 |0,u=>[UInt8.ofNat u]
 |k+1,u=>if 128<=u then UInt8.ofNat (128+u%128)::gG k (u/128)else[UInt8.ofNat u]
def C4 (n:Int):Nat:=if n<0 then(-(2*n)-1).toNat else(2*n).toNat
def eV (n:Int):List UInt8:=gG 10 (C4 n)
def iQ:List UInt8->Bool
 |b0::b1::b2::b3::r=>(eO b0 b1 b2 b3).isSome&&iQ r
 | _=>true
def lT (f:kN):Int:=j7 (j7 f.code.length+f.data.length+f.zero)
def fe (f:kN):Bool:=
 decide (4<=f.code.length)&&(decide (f.code.length%4=0)&&(decide (0<=f.entry)&&(decide (f.entry<f.code.length)&&(decide (f.entry.tmod 4=0)&&(decide (0<=f.zero)&&(decide (f.zero<=3072)&&(decide (lT f<=3072)&&iQ f.code)))))))
def wm (f:kN):List UInt8:=[82,84,78,49]++eV f.entry++eV f.zero++eV f.code.length++f.code++eV f.data.length++f.data
end
end Go.Proofs.YtoedmpgicdekmaaGreatDoor
