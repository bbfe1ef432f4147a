/-
  Parts of the proof: CpD.
-/
import Derived.Test.YtddomeddabfinaaGreatDoorTz00
import Derived.Lib.EndianBits
import Derived.Test.YtddomeddabfinaaGreatDoorTz35
set_option maxRecDepth 100000
set_option maxHeartbeats 8000000
set_option linter.unusedVariables false
set_option linter.unusedSimpArgs false
set_option linter.unusedSectionVars false
namespace Go.Proofs.YtddomeddabfinaaGreatDoor
open Go.Proofs.Tryz
open Go.RowKit
def Bd (n:Int):Int:=if n<32768 then n else n-65536
def s8 (n:Int):Int:=if n<128 then n else n-256
def rq (b0 b1 b2 b3:UInt8):kS:=
 if(ic b0.toNat).2.2.2.2.1=true then⟨b0.toNat,b1.toNat,0,0,Bd (b2.toNat*256+b3.toNat)⟩
 else if(ic b0.toNat).2.2.2.2.2=true then⟨b0.toNat,b1.toNat,b2.toNat,s8 b3.toNat,0⟩else⟨b0.toNat,b1.toNat,b2.toNat,b3.toNat,0⟩
def rD (b0 b1 b2 b3:UInt8):Option kS:=if 1<=b0.toNat/\b0.toNat<=22/\lT (rq b0 b1 b2 b3)=true then some (rq b0 b1 b2 b3)else none
def Ei:Option kS->Ending
 |none=> .returned (.tuple #[.agg #[.int .i64 0, .int .i64 0, .int .i64 0, .int .i64 0, .int .i64 0], .int .i64 4])
 |some x=> .returned (.tuple #[x.val, .int .i64 0])
def CA (w:World) (b o:Nat) (b0 b1 b2 b3:UInt8):Prop:=b<w.heap.size/\w.cell? ⟨b,o,none⟩=some (r9 b0)/\w.cell? ⟨b,o+1,none⟩=some (r9 b1)/\w.cell? ⟨b,o+2,none⟩=some (r9 b2)/\w.cell? ⟨b,o+3,none⟩=some (r9 b3)
theorem wy {a b:Nat} (ha:a<256) (hb:b<256):bits .or .u16 ((a:Int)*256) b=(a:Int)*256+b:=bits_join .u16 16 (by decide) wraps_u16 8 ((a:Int)*256) b (by omega) (by omega) (by omega) (by omega) (by omega) (by omega)
theorem aL.at_ (w:World) (t:TypeId) (cs:Array Value) {n:Nat} (h:w.heap.size=n):aL (w.alloc (.cells cs t)) n t cs:=h▸an w t cs
theorem kE {w W:World} (hX:aq w W) {z0 z1 z2 z3 z4:Value} (hR:aL W w.heap.size 158 #[z0,z1,z2,z3,z4]) (u0 u1 u2 u3 u4:Value):
  (∀i,(((((W.setCell ⟨w.heap.size,0,none⟩ u0).setCell ⟨w.heap.size,1,none⟩ u1).setCell ⟨w.heap.size,2,none⟩ u2).setCell ⟨w.heap.size,3,none⟩ u3).setCell ⟨w.heap.size,4,none⟩ u4).cell? ⟨w.heap.size,i,none⟩=(#[u0,u1,u2,u3,u4]:Array Value)[i]?)/\
  aq w (((((W.setCell ⟨w.heap.size,0,none⟩ u0).setCell ⟨w.heap.size,1,none⟩ u1).setCell ⟨w.heap.size,2,none⟩ u2).setCell ⟨w.heap.size,3,none⟩ u3).setCell ⟨w.heap.size,4,none⟩ u4):=by
 have h:=((((hR.set 0 u0).set 1 u1).set 2 u2).set 3 u3).set 4 u4;refine⟨fun i=> ?_,((((hX.set (ah _) _).set (ah _) _).set (ah _) _).set (ah _) _).set (ah _) _⟩;simpa using h.cell i
theorem CA.ext {w w':World} {b o:Nat} {b0 b1 b2 b3:UInt8} (h:CA w b o b0 b1 b2 b3) (he:aq w w'):CA w' b o b0 b1 b2 b3:=by
 obtain⟨h,q0,q1,q2,q3⟩:=h;exact⟨aA h he.size,(he.cell b _ h).trans q0,(he.cell b _ h).trans q1,(he.cell b _ h).trans q2,(he.cell b _ h).trans q3⟩
theorem oo (b o c:Nat) (b0 b1 b2 b3:UInt8) (w:World) (hF:FT w) (h4:CA w b o b0 b1 b2 b3) (hc:4<=c) (hc2:c<=maxLen):Calls prog 61 #[.slice (some ⟨b,o,none⟩) 4 c] w fun e w'=>e=Ei (rD b0 b1 b2 b3)/\aq w w':=by
 have HX0:=G (O w (.cells #[.int .i64 0, .int .i64 0, .int .i64 0, .int .i64 0, .int .i64 0] 158));have H4:=G (show ∀W,aq w W->W.cell? ⟨b,o,none⟩=some (.int .u8 (b0.toNat:Int))/\W.cell? ⟨b,o+1,none⟩=some (.int .u8 (b1.toNat:Int))/\W.cell? ⟨b,o+2,none⟩=some (.int .u8 (b2.toNat:Int))/\W.cell? ⟨b,o+3,none⟩=some (.int .u8 (b3.toNat:Int))from fun W h=>(h4.ext h).2);clear h4;obtain⟨q0,q1,q2,q3⟩:=H4.out _ HX0.out;have HL:=G (show rD b0 b1 b2 b3=if 1<=b0.toNat/\b0.toNat<=22/\lT (rq b0 b1 b2 b3)=true then some (rq b0 b1 b2 b3)else none from rfl);have hb0:=b0.toNat_lt;have hb1:=b1.toNat_lt;have hb2:=b2.toNat_lt;have hb3:=b3.toNat_lt;by_cases h1:1<=b0.toNat/\b0.toNat<=22
 rotate_left
 ·have HR:=G (show rD b0 b1 b2 b3=none by rw[HL.out,if_neg (fun h=>h1 ⟨h.1,h.2.1⟩)]);clear HL H4 hF;generalize b0.toNat=k at*;have h2:(k:Int)<1\/(22:Int)<k:=by omega
  rcases h2 with h2|h2
  ·go_enter func61,ntmps61;go_wp2_with fail;exact bodyPost_ret (v:= .tuple #[.agg #[.int .i64 0, .int .i64 0, .int .i64 0, .int .i64 0, .int .i64 0], .int .i64 4]) (by simp[results,results61,go_sem]) rfl ⟨by rw[HR.out];rfl,HX0.out⟩
  ·have h3: ¬(k:Int)<1:=by omega
   go_enter func61,ntmps61;go_wp2_with fail;exact bodyPost_ret (v:= .tuple #[.agg #[.int .i64 0, .int .i64 0, .int .i64 0, .int .i64 0, .int .i64 0], .int .i64 4]) (by simp[results,results61,go_sem]) rfl ⟨by rw[HR.out];rfl,HX0.out⟩
 have HR:=G (show rD b0 b1 b2 b3=if lT (rq b0 b1 b2 b3)=true then some (rq b0 b1 b2 b3)else none by rw[HL.out];simp[h1]);have HX1:=G (HX0.out.alloc' (.cells #[.int .i64 0, .int .i64 0, .int .i64 0, .int .i64 0, .int .i64 0] 158));obtain⟨r0,r1,r2,r3⟩:=H4.out _ HX1.out;have HI:=G (show rq b0 b1 b2 b3=if(ic b0.toNat).2.2.2.2.1=true then⟨b0.toNat,b1.toNat,0,0,Bd (b2.toNat*256+b3.toNat)⟩else if(ic b0.toNat).2.2.2.2.2=true then⟨b0.toNat,b1.toNat,b2.toNat,s8 b3.toNat,0⟩else⟨b0.toNat,b1.toNat,b2.toNat,b3.toNat,0⟩from rfl);clear HL;generalize rD b0 b1 b2 b3=D at*;generalize rq b0 b1 b2 b3=I at*;generalize b0.toNat=k at*;generalize b1.toNat=n1 at*;generalize b2.toNat=n2 at*;generalize b3.toNat=n3 at*;obtain⟨h1,h2⟩:=h1;have k1: ¬(k:Int)<1:=by omega
 have k2: ¬(22:Int)<k:=by omega
 go_enter func61,ntmps61;go_wp2_with fail;go_region;obtain⟨W1,hW1,hX,hB0,hB1⟩: ∃W1,((w.alloc (.cells #[.int .i64 0, .int .i64 0, .int .i64 0, .int .i64 0, .int .i64 0] 158)).alloc (.cells #[.int .i64 k, .int .i64 n1, .int .i64 0, .int .i64 0, .int .i64 0] 158)).drew=W1/\aq w W1/\aL W1 w.heap.size 158 #[.int .i64 0, .int .i64 0, .int .i64 0, .int .i64 0, .int .i64 0]/\aL W1 (w.heap.size+1) 158 #[.int .i64 k, .int .i64 n1, .int .i64 0, .int .i64 0, .int .i64 0]:=⟨_,rfl,(HX0.out.alloc' _).drew,((an w 158 #[.int .i64 0, .int .i64 0, .int .i64 0, .int .i64 0, .int .i64 0]).alloc _).drew,(aL.at_ (w.alloc (.cells #[.int .i64 0, .int .i64 0, .int .i64 0, .int .i64 0, .int .i64 0] 158)) _ _ (by rw[World.size_alloc])).drew⟩
 rw[hW1];obtain⟨f0,f1,f2,f3,f4,f5⟩:=(hF.ext hX).row k (by omega);clear q0 q1 q2 q3 r0 r1 r2 r3 hW1 HX0 HX1;have a0:=hB1.cell;generalize (ic k).1=m0 at*;generalize (ic k).2.1=m1 at*;generalize (ic k).2.2.1=m2 at*;generalize (ic k).2.2.2.1=m3 at*;generalize (ic k).2.2.2.2.1=m4 at*;generalize (ic k).2.2.2.2.2=m5 at*
 go_upto_region 6 with fail
 have HX2:=G (hX.alloc' (.cells #[.string (ai m0), .bool m1, .bool m2, .bool m3, .bool m4, .bool m5] 214));have HB2:=G (hB1.alloc (.cells #[.string (ai m0), .bool m1, .bool m2, .bool m3, .bool m4, .bool m5] 214));have HB0:=G (hB0.alloc (.cells #[.string (ai m0), .bool m1, .bool m2, .bool m3, .bool m4, .bool m5] 214));have HB3:=G (an W1 214 #[.string (ai m0), .bool m1, .bool m2, .bool m3, .bool m4, .bool m5]);generalize hW2:W1.alloc (.cells #[.string (ai m0), .bool m1, .bool m2, .bool m3, .bool m4, .bool m5] 214)=W2 at*;obtain⟨q0,q1,q2,q3⟩:=H4.out _ HX2.out;have c2:=HB2.out.cell;have fz:=HB2.out.frozen;have c3:=HB3.out.cell;have HF:=G hF;clear hB0 hB1 a0 f0 f1 f2 f3 f4 f5 H4 hX hF q0 q1 hW2
 cases m4 with
 |true=>
   obtain⟨N,hN⟩: ∃N:Int,(n2:Int)*256+n3=N:=⟨_,rfl⟩
   have hbt:=wy (a:=n2) (b:=n3) (by omega) (by omega);have h16:IntKind.i16.wrap N=Bd N:=by unfold Bd;simp[IntKind.wrap,IntKind.signed,IntKind.bits];split<;>split<;>omega
   rw[hN]at hbt HI;have HS:=G (show-32768<=Bd N/\Bd N<=32767 by unfold Bd;split<;>omega);generalize Bd N=V at*;obtain⟨hs1,hs2⟩:=HS.out;go_wp2_with fail;go_region;have hI:I=⟨k,n1,0,0,V⟩:=by rw[HI.out];simp
   subst hI;have HLg:=G (fun W (h:aq w W)=>mz ⟨k,n1,0,0,V⟩ W (HF.out.ext h));unfold kS.val at HLg;simp only at HLg;obtain⟨W3,hW3,hX3,hB3,hR3⟩: ∃W3,(W2.setCell ⟨w.heap.size+1,4,none⟩ (.int .i64 V)).drew=W3/\aq w W3/\aL W3 (w.heap.size+1) 158 #[.int .i64 k, .int .i64 n1, .int .i64 0, .int .i64 0, .int .i64 V]/\aL W3 w.heap.size 158 #[.int .i64 0, .int .i64 0, .int .i64 0, .int .i64 0, .int .i64 0]:=⟨_,rfl,(HX2.out.set (p:=⟨w.heap.size+1,4,none⟩) (eD _) _).drew,(HB2.out.set 4 _).drew,(HB0.out.far (p:=⟨w.heap.size+1,4,none⟩) (eH (eo _)) _).drew⟩
   rw[hW3];clear hW3 c2 fz c3 q2 q3;have c2:=hB3.cell;have c3:=hR3.cell;have f3:=hR3.frozen
   cases hl:lT ⟨k,n1,0,0,V⟩with
   |true=> 
    go_wp2_with (go_at_call 105;refine(HLg.out _ hX3).mono ?_;rw[hl];rintro e w4 ⟨rfl,hE⟩;have hX4:=hX3.trans hE;have hB4:=hB3.ext hE;have hR4:=hR3.ext hE;have c4:=hB4.cell;have c5:=hR4.cell;have f5:=hR4.frozen;clear HLg c2 c3 f3 hE);obtain⟨hq,hE⟩:=kE hX4 hR4 (.int .i64 k) (.int .i64 n1) (.int .i64 0) (.int .i64 0) (.int .i64 V);exact bodyPost_ret (v:= .tuple #[.agg #[.int .i64 k, .int .i64 n1, .int .i64 0, .int .i64 0, .int .i64 V], .int .i64 0]) (by simp[results,results61,go_sem,hq]) rfl ⟨by rw[HR.out,if_pos hl];rfl,hE⟩
   |false=>
    go_wp2_with (go_at_call 105;refine(HLg.out _ hX3).mono ?_;rw[hl];rintro e w4 ⟨rfl,hE⟩;have hX4:=hX3.trans hE;have hB4:=hB3.ext hE;have hR4:=hR3.ext hE;have c4:=hB4.cell;have c5:=hR4.cell;have f5:=hR4.frozen;clear HLg c2 c3 f3 hE);obtain⟨hq,hE⟩:=kE hX4 hR4 (.int .i64 0) (.int .i64 0) (.int .i64 0) (.int .i64 0) (.int .i64 0);exact bodyPost_ret (v:= .tuple #[.agg #[.int .i64 0, .int .i64 0, .int .i64 0, .int .i64 0, .int .i64 0], .int .i64 4]) (by simp[results,results61,go_sem,hq]) rfl ⟨by rw[HR.out,if_neg (by rw[hl];simp)];rfl,hE⟩
 |false=>
  cases m5 with
  |true=>
   have h8:IntKind.i8.wrap n3=s8 n3:=by unfold s8;simp[IntKind.wrap,IntKind.signed,IntKind.bits];split<;>split<;>omega
   have HS:=G (show-128<=s8 n3/\s8 n3<=127 by unfold s8;split<;>omega);generalize s8 n3=V at*;obtain⟨hs1,hs2⟩:=HS.out;go_wp2_with fail;go_region;have hI:I=⟨k,n1,n2,V,0⟩:=by rw[HI.out];simp
   subst hI;have HLg:=G (fun W (h:aq w W)=>mz ⟨k,n1,n2,V,0⟩ W (HF.out.ext h));unfold kS.val at HLg;simp only at HLg;obtain⟨W3,hW3,hX3,hB3,hR3⟩: ∃W3,((W2.setCell ⟨w.heap.size+1,2,none⟩ (.int .i64 n2)).setCell ⟨w.heap.size+1,3,none⟩ (.int .i64 V)).drew=W3/\aq w W3/\aL W3 (w.heap.size+1) 158 #[.int .i64 k, .int .i64 n1, .int .i64 n2, .int .i64 V, .int .i64 0]/\aL W3 w.heap.size 158 #[.int .i64 0, .int .i64 0, .int .i64 0, .int .i64 0, .int .i64 0]:=⟨_,rfl,((HX2.out.set (p:=⟨w.heap.size+1,2,none⟩) (eD _) _).set (p:=⟨w.heap.size+1,3,none⟩) (eD _) _).drew,((HB2.out.set 2 _).set 3 _).drew,((HB0.out.far (p:=⟨w.heap.size+1,2,none⟩) (eH (eo _)) _).far (p:=⟨w.heap.size+1,3,none⟩) (eH (eo _)) _).drew⟩
   rw[hW3];clear hW3 c2 fz c3 q2 q3;have c2:=hB3.cell;have c3:=hR3.cell;have f3:=hR3.frozen
   cases hl:lT ⟨k,n1,n2,V,0⟩with
   |true=> 
    go_wp2_with (go_at_call 105;refine(HLg.out _ hX3).mono ?_;rw[hl];rintro e w4 ⟨rfl,hE⟩;have hX4:=hX3.trans hE;have hB4:=hB3.ext hE;have hR4:=hR3.ext hE;have c4:=hB4.cell;have c5:=hR4.cell;have f5:=hR4.frozen;clear HLg c2 c3 f3 hE);obtain⟨hq,hE⟩:=kE hX4 hR4 (.int .i64 k) (.int .i64 n1) (.int .i64 n2) (.int .i64 V) (.int .i64 0);exact bodyPost_ret (v:= .tuple #[.agg #[.int .i64 k, .int .i64 n1, .int .i64 n2, .int .i64 V, .int .i64 0], .int .i64 0]) (by simp[results,results61,go_sem,hq]) rfl ⟨by rw[HR.out,if_pos hl];rfl,hE⟩
   |false=>
    go_wp2_with (go_at_call 105;refine(HLg.out _ hX3).mono ?_;rw[hl];rintro e w4 ⟨rfl,hE⟩;have hX4:=hX3.trans hE;have hB4:=hB3.ext hE;have hR4:=hR3.ext hE;have c4:=hB4.cell;have c5:=hR4.cell;have f5:=hR4.frozen;clear HLg c2 c3 f3 hE);obtain⟨hq,hE⟩:=kE hX4 hR4 (.int .i64 0) (.int .i64 0) (.int .i64 0) (.int .i64 0) (.int .i64 0);exact bodyPost_ret (v:= .tuple #[.agg #[.int .i64 0, .int .i64 0, .int .i64 0, .int .i64 0, .int .i64 0], .int .i64 4]) (by simp[results,results61,go_sem,hq]) rfl ⟨by rw[HR.out,if_neg (by rw[hl];simp)];rfl,hE⟩
  |false=>
   go_wp2_with fail;go_region;have hI:I=⟨k,n1,n2,n3,0⟩:=by rw[HI.out];simp
   subst hI;have HLg:=G (fun W (h:aq w W)=>mz ⟨k,n1,n2,n3,0⟩ W (HF.out.ext h));unfold kS.val at HLg;simp only at HLg;obtain⟨W3,hW3,hX3,hB3,hR3⟩: ∃W3,((W2.setCell ⟨w.heap.size+1,2,none⟩ (.int .i64 n2)).setCell ⟨w.heap.size+1,3,none⟩ (.int .i64 n3)).drew=W3/\aq w W3/\aL W3 (w.heap.size+1) 158 #[.int .i64 k, .int .i64 n1, .int .i64 n2, .int .i64 n3, .int .i64 0]/\aL W3 w.heap.size 158 #[.int .i64 0, .int .i64 0, .int .i64 0, .int .i64 0, .int .i64 0]:=⟨_,rfl,((HX2.out.set (p:=⟨w.heap.size+1,2,none⟩) (eD _) _).set (p:=⟨w.heap.size+1,3,none⟩) (eD _) _).drew,((HB2.out.set 2 _).set 3 _).drew,((HB0.out.far (p:=⟨w.heap.size+1,2,none⟩) (eH (eo _)) _).far (p:=⟨w.heap.size+1,3,none⟩) (eH (eo _)) _).drew⟩
   rw[hW3];clear hW3 c2 fz c3 q2 q3;have c2:=hB3.cell;have c3:=hR3.cell;have f3:=hR3.frozen
   cases hl:lT ⟨k,n1,n2,n3,0⟩with
   |true=> 
    go_wp2_with (go_at_call 105;refine(HLg.out _ hX3).mono ?_;rw[hl];rintro e w4 ⟨rfl,hE⟩;have hX4:=hX3.trans hE;have hB4:=hB3.ext hE;have hR4:=hR3.ext hE;have c4:=hB4.cell;have c5:=hR4.cell;have f5:=hR4.frozen;clear HLg c2 c3 f3 hE);obtain⟨hq,hE⟩:=kE hX4 hR4 (.int .i64 k) (.int .i64 n1) (.int .i64 n2) (.int .i64 n3) (.int .i64 0);exact bodyPost_ret (v:= .tuple #[.agg #[.int .i64 k, .int .i64 n1, .int .i64 n2, .int .i64 n3, .int .i64 0], .int .i64 0]) (by simp[results,results61,go_sem,hq]) rfl ⟨by rw[HR.out,if_pos hl];rfl,hE⟩
   |false=>
    go_wp2_with (go_at_call 105;refine(HLg.out _ hX3).mono ?_;rw[hl];rintro e w4 ⟨rfl,hE⟩;have hX4:=hX3.trans hE;have hB4:=hB3.ext hE;have hR4:=hR3.ext hE;have c4:=hB4.cell;have c5:=hR4.cell;have f5:=hR4.frozen;clear HLg c2 c3 f3 hE);obtain⟨hq,hE⟩:=kE hX4 hR4 (.int .i64 0) (.int .i64 0) (.int .i64 0) (.int .i64 0) (.int .i64 0);exact bodyPost_ret (v:= .tuple #[.agg #[.int .i64 0, .int .i64 0, .int .i64 0, .int .i64 0, .int .i64 0], .int .i64 4]) (by simp[results,results61,go_sem,hq]) rfl ⟨by rw[HR.out,if_neg (by rw[hl];simp)];rfl,hE⟩
end Go.Proofs.YtddomeddabfinaaGreatDoor
