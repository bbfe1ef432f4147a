/-
  Parts of the proof: TkC.
-/
import Derived.Test.YtddomeddabfinaaGreatDoorTu00
import Derived.Test.YtddomeddabfinaaGreatDoorTu43
import Derived.Test.YtddomeddabfinaaGreatDoorTu50
set_option maxRecDepth 100000
set_option maxHeartbeats 8000000
set_option linter.unusedVariables false
set_option linter.unusedSimpArgs false
set_option linter.unusedSectionVars false
namespace Go.Proofs.YtddomeddabfinaaGreatDoor
open Go.Proofs.Tryz
open Go.RowKit
theorem wL (p:Pg) (hp:jS p<=6000000) (P:Nat->Prop) (w:World) (A B:Option Addr) (n c m d:Nat) (hV:fH w P (.slice A n c) p.vs) (hF:fO w P (.slice B m d) p.fs) (hz:EZ w) (ht:dn w w.heap.size) (hB:BT w):
  Calls prog 3 #[.agg #[.slice A n c, .slice B m d]] w fun e w'=>e= .returned (.bool true)/\au w w':=by
 have hE0:=O w (.cells #[.slice A n c, .slice B m d] 25);have HE0:=G hE0;have HB0:=G (ax w 25 #[.slice A n c, .slice B m d]);have HAW:=G (nX _ (hz.ext hE0) (fh ht hE0) (hB.ext hE0));have HFW:=G (fun(W:World) (h:au w W)=>yg hp (hV.keep (.of_ext h) (Q:=P) (fun _ hb _=>hb)) (hF.keep (.of_ext h) (Q:=P) (fun _ hb _=>hb)));have HOW:=G (fun(W:World) (h:au w W)=>uT hp (hV.keep (.of_ext h) (Q:=P) (fun _ hb _=>hb)) (hF.keep (.of_ext h) (Q:=P) (fun _ hb _=>hb)));have HCK:=G (fun(W:World) (A B:Option Addr) (n c m d:Nat) (h:au w W) (h1:fH W (fun _=>True) (.slice A n c) p.vs) (h2:fO W (fun _=>True) (.slice B m d) p.fs)=>nV p hp _ W A B n c m d h1 h2 (fh ht h) (hB.ext h));have HRC:=G (fun(W:World) (h:au w W)=>mo p hp P W A B n c m d (hV.keep (.of_ext h) (Q:=P) (fun _ hb _=>hb)) (hF.keep (.of_ext h) (Q:=P) (fun _ hb _=>hb)));generalize gO p=r at*;obtain⟨ra,rb⟩:=r;simp only at HCK HRC;have c0:=HB0.out.cell;clear hV hF hz ht hB hp hE0;go_enter func3,ntmps3
 go_wp2_with (first
  |(go_at_call 11;refine HAW.out.mono ?_;rintro e w1 ⟨rfl,hE⟩;have HX1:=G (HE0.out.trans hE);have HB1:=G (HB0.out.ext hE);clear c0;have c0:=HB1.out.cell;clear hE HAW HE0 HB0)
  |(go_at_call 12;refine(HFW.out _ HX1.out).mono ?_;rintro e w2 ⟨⟨b1,rfl⟩,hE⟩;have HX2:=G (HX1.out.trans hE);have HB2:=G (HB1.out.ext hE);clear c0;have c0:=HB2.out.cell;clear hE HFW HX1 HB1;cases b1)
  |(go_at_call 14;refine(HOW.out _ HX2.out).mono ?_;rintro e w4 ⟨hE,A4,n4,c4,B4,m4,d4,rfl,hV4,hF4⟩;have HX4:=G (HX2.out.trans hE);have HB4:=G (HB2.out.ext hE);have HV4:=G hV4;have HF4:=G hF4;clear c0;have c0:=HB4.out.cell;clear hE HOW hV4 hF4)
  |(go_at_call 13;refine(HCK.out _ _ _ _ _ _ _ HX4.out HV4.out HF4.out).mono ?_;rintro e w5 ⟨rfl,hE⟩;have HX5:=G (HX4.out.trans hE);clear c0;have c0:=(HB4.out.ext hE).cell;clear hE HCK)
  |(go_at_call 15;refine(HRC.out _ HX5.out).mono ?_;rintro e w6 ⟨rfl,hE⟩;have HX6:=G (HX5.out.trans hE);clear hE HRC))
 ·go_ret;exact⟨rfl,HX2.out⟩
 ·go_ret;exact⟨uB (by simp),HX6.out⟩
end Go.Proofs.YtddomeddabfinaaGreatDoor
