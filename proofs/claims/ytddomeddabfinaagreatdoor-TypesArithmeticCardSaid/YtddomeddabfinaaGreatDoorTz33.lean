/-
  Parts of the proof: TyAw.
-/
import Derived.Test.YtddomeddabfinaaGreatDoorTz00
import Derived.Test.YtddomeddabfinaaGreatDoorTz26
import Derived.Test.YtddomeddabfinaaGreatDoorTz31
import Derived.Test.YtddomeddabfinaaGreatDoorTz32
set_option maxRecDepth 100000
set_option maxHeartbeats 8000000
set_option linter.unusedVariables false
set_option linter.unusedSimpArgs false
set_option linter.unusedSectionVars false
namespace Go.Proofs.YtddomeddabfinaaGreatDoor
open Go.Proofs.Tryz
open Go.RowKit
theorem qU (s:List UInt8) (p:Pg) (hp:lQ s=(p,0,0)) (w:World) (hz:EZ w) (ht:du w w.heap.size):Calls prog 32 #[.string (ai s)] w fun e w'=>aq w w'/\ ∃A n c B m d,e= .returned (.tuple #[.agg #[.slice A n c, .slice B m d], .int .i64 0, .int .i64 0])/\mc w' (fun _=>True) (.slice A n c) p.vs/\mm w' (fun _=>True) (.slice B m d) p.fs:=by
 refine(vx s w hz ht).mono fun e w' hh=> ?_;rw[hp]at hh;obtain⟨hE,A,n,c,B,m,d,he,hV,hF⟩:=hh;exact⟨hE,A,n,c,B,m,d,he,hV.keep (.of_ext (.refl _)) (fun _ _ _=>trivial),hF.keep (.of_ext (.refl _)) (fun _ _ _=>trivial)⟩
theorem sG (p:Pg) (hw:lz p<=6000000) (hc:(gH p).2=0) (R:Rs) (rv:Value) (w:World) (A B:Option Addr) (n c m d:Nat) (hV:mc w (fun _=>True) (.slice A n c) p.vs) (hF:mm w (fun _=>True) (.slice B m d) p.fs) (hT:du w w.heap.size) (hB:BT w) (hR:yQ w (fun _=>True) rv R) (steps:Nat) (hs:steps<=3000):
  Calls prog 17 #[.agg #[.slice A n c, .slice B m d],rv, .int .i64 (steps:Int)] w fun e w'=>aq w w'/\ ∃A c,e= .returned (.tuple #[BU (lM p R steps) A c, .int .i64 0])/\Sl w' A c (lM p R steps).data:=by
 refine(wB p hw _ w A B n c m d hV hF hT hB R rv hR (steps:Int) (by omega) (by omega)).mono fun e w' hh=> ?_;obtain⟨hE,hh⟩:=hh;rw[if_pos hc]at hh;exact⟨hE,hh⟩
theorem rP (w:World) (hz:EZ w) (ht:du w w.heap.size) (hB:BT w):Calls prog 11 #[] w fun e w'=>e= .returned (.bool true)/\aq w w':=by
 have HZ:=G hz;have HT:=G ht;have HB:=G hB;have HP1:=G (show Calls prog 32 #[.string ⟨#[102,117,110,99,32,109,97,105,110,40,41,32,123,32,114,101,116,117,114,110,32,51,48,48,59,32,125]⟩] w fun e w'=>aq w w'/\ ∃A n c B m d,e= .returned (.tuple #[.agg #[.slice A n c, .slice B m d], .int .i64 0, .int .i64 0])/\mc w' (fun _=>True) (.slice A n c) kJ.vs/\mm w' (fun _=>True) (.slice B m d) kJ.fs from qU Bx kJ zk w hz ht);have HP2:=G (show ∀W,aq w W->Calls prog 32 #[.string ⟨#[118,97,114,32,97,91,51,93,59,32,102,117,110,99,32,109,97,105,110,40,41,32,123,32,97,91,51,93,32,61,32,49,59,32,125]⟩] W fun e w'=>aq W w'/\ ∃A n c B m d,e= .returned (.tuple #[.agg #[.slice A n c, .slice B m d], .int .i64 0, .int .i64 0])/\mc w' (fun _=>True) (.slice A n c) jU.vs/\mm w' (fun _=>True) (.slice B m d) jU.fs from fun W hE=>qU Bv jU zh W (hz.ext hE) (fU ht hE))
 have HR1:=G (show ∀(W:World) (A B:Option Addr) (n c m d:Nat),aq w W->mc W (fun _=>True) (.slice A n c) kJ.vs->mm W (fun _=>True) (.slice B m d) kJ.fs->Calls prog 17 #[.agg #[.slice A n c, .slice B m d], .slice none 0 0, .int .i64 100] W fun e w'=>aq W w'/\ ∃A c,e= .returned (.tuple #[.agg #[.int .i64 1, .int .i64 0, .int .i64 44, .int .i64 0, .int .i64 0, .slice A 0 c, .int .i64 0], .int .i64 0])from fun W A B n c m d hE hV hF=>by
  refine(sG kJ CU Bw [] _ W A B n c m d hV hF (fU ht hE) (hB.ext hE) ⟨none,0,rfl, .inl rfl⟩ 100 (by decide)).mono fun e w' hh=> ?_;rw[zj]at hh;obtain⟨h1,A,c,h2,_⟩:=hh
  exact⟨h1,A,c,h2⟩)
 have HR2:=G (show ∀(W:World) (A B:Option Addr) (n c m d:Nat),aq w W->mc W (fun _=>True) (.slice A n c) jU.vs->mm W (fun _=>True) (.slice B m d) jU.fs->Calls prog 17 #[.agg #[.slice A n c, .slice B m d], .slice none 0 0, .int .i64 100] W fun e w'=>aq W w'/\ ∃(x1 x2 x3 x4:Int) (x5:Option Addr) (x6 x7:Nat) (x8:Int),e= .returned (.tuple #[.agg #[.int .i64 2, .int .i64 x1, .int .i64 x2, .int .i64 x3, .int .i64 x4, .slice x5 x6 x7, .int .i64 x8], .int .i64 0])from fun W A B n c m d hE hV hF=>by
  refine(sG jU CT Bt [] _ W A B n c m d hV hF (fU ht hE) (hB.ext hE) ⟨none,0,rfl, .inl rfl⟩ 100 (by decide)).mono fun e w' hh=> ?_;obtain⟨h1,A,c,h2,_⟩:=hh;unfold BU at h2;rw[zg]at h2
  exact⟨h1,_,_,_,_,_,_,_,_,h2⟩)
 have HQ:=G (fun W=>EF 44 0 0 44 0 0 W);generalize kJ.vs=vs at*;generalize kJ.fs=fs at*;generalize jU.vs=vt at*;generalize jU.fs=ft at*;clear hz ht hB;go_enter func11,ntmps11
 go_upto_region 2 with(go_at_call 32;refine HP1.out.mono ?_;rintro e w1 ⟨hE,A,n,c,B,m,d,rfl,hV,hF⟩;have hE1:=O w1 (.cells #[.slice A n c, .slice B m d] 34);have HX1:=G (hE.trans hE1);have HB1:=G (an w1 34 #[.slice A n c, .slice B m d]);have HV1:=G (hV.keep (.of_ext hE1) (Q:=fun _=>True) (fun _ hb _=>hb));have HF1:=G (hF.keep (.of_ext hE1) (Q:=fun _=>True) (fun _ hb _=>hb));clear hE hV hF hE1 HP1)
 generalize w1.alloc (.cells #[.slice A n c, .slice B m d] 34)=W1 at*
 go_upto_region 3 with(go_at_call 32;refine(HP2.out _ HX1.out).mono ?_;rintro e w2 ⟨hE,A2,n2,c2,B2,m2,d2,rfl,hV,hF⟩;have hE1:=O w2 (.cells #[.slice A2 n2 c2, .slice B2 m2 d2] 34);have HX2:=G (HX1.out.trans (hE.trans hE1));have HB2:=G (an w2 34 #[.slice A2 n2 c2, .slice B2 m2 d2]);have HB1a:=G (HB1.out.ext (hE.trans hE1));have HV1a:=G (HV1.out.keep (.of_ext (hE.trans hE1)) (Q:=fun _=>True) (fun _ hb _=>hb));have HF1a:=G (HF1.out.keep (.of_ext (hE.trans hE1)) (Q:=fun _=>True) (fun _ hb _=>hb));have HV2:=G (hV.keep (.of_ext hE1) (Q:=fun _=>True) (fun _ hb _=>hb));have HF2:=G (hF.keep (.of_ext hE1) (Q:=fun _=>True) (fun _ hb _=>hb));clear hE hV hF hE1 HP2 HB1 HV1 HF1 HX1)
 generalize w2.alloc (.cells #[.slice A2 n2 c2, .slice B2 m2 d2] 34)=W2 at*;have c1:=HB1a.out.cell
 go_upto_region 4 with(go_at_call 17;refine(HR1.out _ _ _ _ _ _ _ HX2.out HV1a.out HF1a.out).mono ?_;rintro e w3 ⟨hE,A3,c3,rfl⟩;have hE1:=O w3 (.cells #[.int .i64 1, .int .i64 0, .int .i64 44, .int .i64 0, .int .i64 0, .slice A3 0 c3, .int .i64 0] 42);have HX3:=G (HX2.out.trans (hE.trans hE1));have HB3:=G (an w3 42 #[.int .i64 1, .int .i64 0, .int .i64 44, .int .i64 0, .int .i64 0, .slice A3 0 c3, .int .i64 0]);have HB2a:=G (HB2.out.ext (hE.trans hE1));have HV2a:=G (HV2.out.keep (.of_ext (hE.trans hE1)) (Q:=fun _=>True) (fun _ hb _=>hb));have HF2a:=G (HF2.out.keep (.of_ext (hE.trans hE1)) (Q:=fun _=>True) (fun _ hb _=>hb));clear hE hE1 HR1 HB2 HV2 HF2 HX2 c1 HB1a HV1a HF1a)
 generalize w3.alloc (.cells #[.int .i64 1, .int .i64 0, .int .i64 44, .int .i64 0, .int .i64 0, .slice A3 0 c3, .int .i64 0] 42)=W3 at*;have c2':=HB2a.out.cell
 go_upto_region 5 with(go_at_call 17;refine(HR2.out _ _ _ _ _ _ _ HX3.out HV2a.out HF2a.out).mono ?_;rintro e w4 ⟨hE,x1,x2,x3,x4,x5,x6,x7,x8,rfl⟩;have hE1:=O w4 (.cells #[.int .i64 2, .int .i64 x1, .int .i64 x2, .int .i64 x3, .int .i64 x4, .slice x5 x6 x7, .int .i64 x8] 42);have HX4:=G (HX3.out.trans (hE.trans hE1));have HB4:=G (an w4 42 #[.int .i64 2, .int .i64 x1, .int .i64 x2, .int .i64 x3, .int .i64 x4, .slice x5 x6 x7, .int .i64 x8]);have HB3a:=G (HB3.out.ext (hE.trans hE1));clear hE hE1 HR2 HB3 HX3 c2' HB2a HV2a HF2a)
 generalize w4.alloc (.cells #[.int .i64 2, .int .i64 x1, .int .i64 x2, .int .i64 x3, .int .i64 x4, .slice x5 x6 x7, .int .i64 x8] 42)=W4 at*;have c3':=HB3a.out.cell;have c4':=HB4.out.cell;have q:=HQ.out W4;go_wp2_with fail;go_ret;exact⟨xh (by simp),HX4.out⟩
end Go.Proofs.YtddomeddabfinaaGreatDoor
