/-
  Parts of the proof: ExA.
-/
import Derived.Test.YtoedmpgicdekmaaGreatDoorCq00
import Derived.Test.YtoedmpgicdekmaaGreatDoorCq24
import Derived.Test.YtoedmpgicdekmaaGreatDoorCq25
set_option maxRecDepth 100000
set_option maxHeartbeats 8000000
set_option linter.unusedVariables false
set_option linter.unusedSimpArgs false
set_option linter.unusedSectionVars false
namespace Go.Proofs.YtoedmpgicdekmaaGreatDoor
open Go.Proofs.Tryz
open Go.RowKit
theorem qW (n:Int) (w:World) (h0:0<=n) (h1:n<=100000000000):Calls prog 87 #[.int .i64 n] w fun e w'=>e= .returned (.int .i64 (j7 n))/\w=w':=by
 have hq:(n+127).tdiv 128=(n+127)/128:=g_ (by omega);have hw1:IntKind.i64.wrap (n+128)=n+128:=by simp[IntKind.wrap,IntKind.signed,IntKind.bits];omega
 have hw2:IntKind.i64.wrap (n+128-1)=n+127:=by simp[IntKind.wrap,IntKind.signed,IntKind.bits];omega
 have hw3:IntKind.i64.wrap ((n+127)/128)=(n+127)/128:=by simp[IntKind.wrap,IntKind.signed,IntKind.bits];omega
 have hw4:IntKind.i64.wrap ((n+127)/128*128)=(n+127)/128*128:=by simp[IntKind.wrap,IntKind.signed,IntKind.bits];omega
 have HU:=G (show j7 n=(n+127)/128*128 from rfl);go_enter func87,ntmps87;go_wp2_with fail;go_ret;exact⟨by rw[HU.out];first|rfl|(simp[hq];done),rfl⟩
theorem C7 {n:Int} (h:0<=n):n<=j7 n/\j7 n<=n+127:=by unfold j7;omega
theorem sJ (A B:Option Addr) (n c m d:Nat) (z e:Int) (w:World) (hn:n<=1000000000) (hm:m<=1000000000) (hz0:0<=z) (hz1:z<=1000000):Calls prog 85 #[.agg #[.slice A n c, .slice B m d, .int .i64 z, .int .i64 e]] w fun e w'=>e= .returned (.int .i64 (j7 (j7 n+m+z)))/\au w w':=by
 have u1:=C7 (n:=n) (by omega);obtain⟨u2,u3⟩:=u1;have HU1:=G (fun W=>qW n W (by omega) (by omega));obtain⟨U,hU⟩: ∃U,j7 (n:Int)=U:=⟨_,rfl⟩
 rw[hU]at u2 u3 HU1;have HU2:=G (fun W=>qW (U+m+z) W (by omega) (by omega));rw[hU];have hw1:IntKind.i64.wrap (U+(m:Int))=U+m:=by simp[IntKind.wrap,IntKind.signed,IntKind.bits];omega
 have hw2:IntKind.i64.wrap (U+(m:Int)+z)=U+m+z:=by simp[IntKind.wrap,IntKind.signed,IntKind.bits];omega
 have HX:=G (aa w (.cells #[.slice A n c, .slice B m d, .int .i64 z, .int .i64 e] 38));have HB:=G (aw w 38 #[.slice A n c, .slice B m d, .int .i64 z, .int .i64 e]);clear hU;go_enter func85,ntmps85
 go_upto_region 1 with fail
 generalize World.alloc w _=W0 at*;refine ay 13 1 [(3,fun v=>v= .int .i64 U,fun _ _=>True),(11,fun v=>v= .int .i64 (j7 (U+m+z)),fun _ _=>True)] mixed (by kernel_rfl) ⟨fun _ _ _ _ _=>trivial,fun _ _ _ _ _=>trivial,trivial⟩ ?_;repeat (refine sx ?_ (fun w1 hU=> ?_) ?_;rotate_left;(focus have c0:=(HB.out.ext hU.un).cell;clear hU;go_simp<;>with_reducible rfl);simp only[bH,bG,bF,bE,bD])
 refine so (fun w6 hU hp K hK=> ?_) ?_
 ·clear hp hU;go_simp;refine(HU1.out w6).mono ?_;rintro e w7 ⟨rfl,rfl⟩;exact hK _ _ (aG _) rfl trivial
 rintro _ rfl;simp only[bH,bG,bF,bE,bD];repeat (refine sx ?_ (fun w1 hU=> ?_) ?_;rotate_left;(focus have c0:=(HB.out.ext hU.un).cell;clear hU;go_simp<;>with_reducible rfl);simp only[bH,bG,bF,bE,bD])
 refine so (fun w6 hU hp K hK=> ?_) ?_
 ·clear hp hU;go_simp;refine(HU2.out w6).mono ?_;rintro e w7 ⟨rfl,rfl⟩;exact hK _ _ (aG _) rfl trivial
 rintro _ rfl;simp only[bH,bG,bF,bE,bD];repeat (refine sx ?_ (fun w1 hU=> ?_) ?_;rotate_left;(focus go_simp<;>with_reducible rfl);simp only[bH,bG,bF,bE,bD])
 intro w7 hw7 _;simp only[ac,aq];have HX7:=G (HX.out.trans hw7.un);clear hw7;go_wp2_with fail;go_ret;exact⟨rfl,HX7.out⟩
theorem Sl.at4 {w:World} {A:Option Addr} {c:Nat} {l:List UInt8} (h:Sl w A c l) (j:Nat) (hj:j+4<=l.length): ∃b o,A=some ⟨b,o,none⟩/\tn w b (o+j) l[j] l[j+1] l[j+2] l[j+3]:=by
 rcases h.rd with rfl|⟨b,o,ha,hb,hc⟩
 ·simp at hj
 ·exact⟨b,o,ha,hb,hc j (by omega),hc (j+1) (by omega),hc (j+2) (by omega),hc (j+3) (by omega)⟩
theorem sO {l:List UInt8} {j:Nat} (h:j+4<=l.length):iQ (l.drop j)=((eO l[j] l[j+1] l[j+2] l[j+3]).isSome&&iQ (l.drop (j+4))):=by
 rw[am (show j<l.length by omega),am (show j+1<l.length by omega),am (show j+1+1<l.length by omega),am (show j+1+1+1<l.length by omega),iQ]
def kN.val (A B:Option Addr) (c d:Nat) (f:kN):Value:= .agg #[.slice A f.code.length c, .slice B f.data.length d, .int .i64 f.zero, .int .i64 f.entry]
theorem lx (f:kN) (A B:Option Addr) (c d:Nat) (w:World) (hF:FT w) (hS:Sl w A c f.code) (hn:f.code.length<=1000000000) (hm:f.data.length<=1000000000):Calls prog 41 #[f.val A B c d] w fun e w'=>e= .returned (.bool (fe f))/\au w w':=by
 obtain⟨code,data,z,en⟩:=f;unfold kN.val;simp only at*;have HS:=G hS;have HF:=G hF;have HV:=G (show fe ⟨code,data,z,en⟩=(decide (4<=code.length)&&(decide (code.length%4=0)&&(decide (0<=en)&&(decide (en<code.length)&&(decide (en.tmod 4=0)&&(decide (0<=z)&&(decide (z<=3072)&&(decide (j7 (j7 code.length+data.length+z)<=3072)&&iQ code))))))))from rfl);generalize fe ⟨code,data,z,en⟩=V at*;have HLc:=G (show code.length=code.length from rfl);have HL: ∀l:Nat,code.length=l->Hid (code.length=l):=fun l h=>G h;obtain⟨n,hN⟩: ∃n,code.length=n:=⟨_,rfl⟩
 obtain⟨m,hM⟩: ∃m,data.length=m:=⟨_,rfl⟩
 have HN:=G hN;rw[hN,hM]at HV;rw[hN]at hn;rw[hM]at hm;rw[hN,hM];have hcap:=hS.le;have hmax:=hS.max;rw[hN]at hcap;have hX:=aa w (.cells #[.slice A n c, .slice B m d, .int .i64 z, .int .i64 en] 38);have HX:=G hX;have HB:=G (aw w 38 #[.slice A n c, .slice B m d, .int .i64 z, .int .i64 en]);clear hS hF hN hM hX HL HLc;go_enter func41,ntmps41
 go_upto_region 1 with fail
 generalize World.alloc w _=W0 at*;have c0:=HB.out.cell;by_cases h1:n<4
 ·have h1':(n:Int)<4:=by omega
  have HR:=G (show V=false by rw[HV.out];simp;omega);go_wp2_with fail;go_ret;exact⟨by rw[HR.out];rfl,HX.out⟩
 have h1': ¬(n:Int)<4:=by omega
 by_cases h2:n%4=0
 rotate_left
 ·have h2':((n:Int)%4==0)=false:=beq_eq_false_iff_ne.2 (by omega);have HR:=G (show V=false by rw[HV.out];simp;omega);go_wp2_with fail;go_ret;exact⟨by rw[HR.out];rfl,HX.out⟩
 have h2':((n:Int)%4==0)=true:=beq_iff_eq.2 (by omega);by_cases h3:0<=en
 rotate_left
 ·have h3':en<0:=by omega
  have HR:=G (show V=false by rw[HV.out];simp;omega);go_wp2_with fail;go_ret;exact⟨by rw[HR.out];rfl,HX.out⟩
 obtain⟨en,rfl⟩:=aR h3;have h3': ¬(en:Int)<0:=by omega
 have HT:=G (show(en:Int).tmod 4=(en:Int)%4 from Int.tmod_eq_emod_of_nonneg (by omega));rw[HT.out]at HV;by_cases h4:(en:Int)<(n:Int)
 rotate_left
 ·have h4':(n:Int)<=(en:Int):=by omega
  have HR:=G (show V=false by rw[HV.out];simp;omega);go_wp2_with fail;go_ret;exact⟨by rw[HR.out];rfl,HX.out⟩
 have h4': ¬(n:Int)<=(en:Int):=by omega
 by_cases h5:(en:Int)%4=0
 rotate_left
 ·have h5':((en:Int)%4==0)=false:=beq_eq_false_iff_ne.2 h5;have HR:=G (show V=false by rw[HV.out];simp[h5]);go_wp2_with fail;go_ret;exact⟨by rw[HR.out];rfl,HX.out⟩
 have h5':((en:Int)%4==0)=true:=beq_iff_eq.2 h5;replace h5:=G h5;by_cases h6:0<=z
 rotate_left
 ·have h6':z<0:=by omega
  have HR:=G (show V=false by rw[HV.out];simp;omega);go_wp2_with fail;go_ret;exact⟨by rw[HR.out];rfl,HX.out⟩
 have h6': ¬z<0:=by omega
 by_cases h7:z<=3072
 rotate_left
 ·have h7':3072<z:=by omega
  have HR:=G (show V=false by rw[HV.out];simp;omega);go_wp2_with fail;go_ret;exact⟨by rw[HR.out];rfl,HX.out⟩
 have h7': ¬3072<z:=by omega
 have HE:=G (fun W=>sJ A B n c m d z en W hn hm h6 (by omega));by_cases h8:j7 (j7 n+m+z)<=3072
 rotate_left
 ·have h8':3072<j7 (j7 n+m+z):=by omega
  have HR:=G (show V=false by rw[HV.out];simp;omega);generalize j7 (j7 n+m+z)=U at*;go_wp2_with (go_at_call 85;refine(HE.out _).mono ?_;rintro e w1 ⟨rfl,hE⟩;have HX1:=G (HX.out.trans hE);clear HE c0 hE);go_ret;exact⟨by rw[HR.out];rfl,HX1.out⟩
 have h8': ¬3072<j7 (j7 n+m+z):=by omega
 have HR:=G (show V=iQ code by rw[HV.out];simp[h2,h3,h4,h5.out,h6,h7,h8];omega);generalize j7 (j7 n+m+z)=U at*;clear HV
 go_upto_region 5 with(go_at_call 85;refine(HE.out _).mono ?_;rintro e w1 ⟨rfl,hE⟩;have HX1:=G (HX.out.trans hE);replace HB:=G (HB.out.ext hE);clear HE c0 hE)
 clear h1 h1' h2' h3 h3' h4 h4' h5 h5' h6 h6' h7 h7' h8 h8' HT HX;have HR0:=G (show iQ (code.drop 0)=V from HR.out.symm);have H2:=G h2;clear h2 HR
 go_loopw [4] (fun vi wr=> ∃(K:Nat),vi= .int .i64 (K:Int)/\Hid (K<=n/\K%4=0)/\Hid (au w wr)/\Hid (aP wr w.heap.size 38 #[.slice A n c, .slice B m d, .int .i64 z, .int .i64 en])/\Hid (iQ (code.drop K)=V)) (fun vi _=>n-(intOf vi).toNat)
 case atStart=>exact⟨0,rfl,G ⟨aC _,rfl⟩,HX1,HB,HR0⟩
 case round=>
  obtain⟨K,rfl,HK,HX2,HB2,HD2⟩:=hrel;clear HX1 HB HR0;generalize wr=wz at*;have c0:=HB2.out.cell;by_cases hlt:K<n
  ·have hlt':(K:Int)<(n:Int):=by omega
   have hk4:K+4<=n:=by have:=HK.out;have:=H2.out;omega
   have hkx:K+4<=code.length:=by rw[HN.out];exact hk4
   obtain⟨b,o,rfl,h4⟩:=(HS.out.ext HX2.out).at4 K hkx;have HD3:=G ((sO hkx).symm.trans HD2.out);have HDc:=G (ep b (o+K) (c-K) code[K] code[K+1] code[K+2] code[K+3] wz (HF.out.ext HX2.out) h4 (by omega) (by omega));generalize eO code[K] code[K+1] code[K+2] code[K+3]=DI at*;have hw1:IntKind.i64.wrap ((K:Int)+4)=(K:Int)+4:=by simp[IntKind.wrap,IntKind.signed,IntKind.bits];omega
   have hk5:(K:Int)+4<=(c:Int):=by omega
   have hk6:K+4<=c:=by omega
   clear h4 hkx
   cases DI with
   |none=>
    have HV:=G (show V=false by have:=HD3.out;simpa using this.symm);have HDc':=G (show Calls prog 86 #[.slice (some ⟨b,o+K,none⟩) 4 (c-K)] wz fun e w'=>e= .returned (.tuple #[.agg #[.int .i64 0, .int .i64 0, .int .i64 0, .int .i64 0, .int .i64 0], .int .i64 4])/\au wz w' from HDc.out);clear HDc;go_wp2_with (go_at_call 86;refine HDc'.out.mono ?_;rintro e w3 ⟨rfl,hE⟩;have HX3:=G (HX2.out.trans hE);clear HDc' c0 hE);go_ret;exact⟨by rw[HV.out];rfl,HX3.out.alloc' _⟩
   |some x=>
    have HD4:=G (show iQ (code.drop (K+4))=V by have:=HD3.out;simpa using this);obtain⟨xo,xa,xb,xc,xv⟩:=x;have HDc':=G (show Calls prog 86 #[.slice (some ⟨b,o+K,none⟩) 4 (c-K)] wz fun e w'=>e= .returned (.tuple #[.agg #[.int .i64 (xo:Int), .int .i64 xa, .int .i64 xb, .int .i64 xc, .int .i64 xv], .int .i64 0])/\au wz w' from HDc.out);clear HDc HD3;go_wp2_with (go_at_call 86;refine HDc'.out.mono ?_;rintro e w3 ⟨rfl,hE⟩;have HX3:=G (HX2.out.trans (hE.alloc' (.cells #[.int .i64 (xo:Int), .int .i64 xa, .int .i64 xb, .int .i64 xc, .int .i64 xv] 159)));have HB3:=G (HB2.out.ext (hE.alloc' (.cells #[.int .i64 (xo:Int), .int .i64 xa, .int .i64 xb, .int .i64 xc, .int .i64 xv] 159)));clear HDc' c0 hE);go_roundw
    case rel=>exact⟨K+4,by go_num,G ⟨hk4,by have:=HK.out.2;omega⟩,HX3,HB3,HD4⟩
    case measure=>simp[intOf];omega
  ·have hlt': ¬(K:Int)<(n:Int):=by omega
   have HV:=G (show V=true by
    have:=HD2.out;rw[bJ (by rw[HN.out];omega)]at this
    exact this.symm)
   go_wp2_with fail;go_ret;exact⟨by rw[HV.out];rfl,HX2.out⟩
end Go.Proofs.YtoedmpgicdekmaaGreatDoor
