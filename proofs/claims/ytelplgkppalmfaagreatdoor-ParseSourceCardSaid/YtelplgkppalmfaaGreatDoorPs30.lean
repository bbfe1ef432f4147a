/-
  Parts of the proof: PaD.
-/
import Derived.Test.YtelplgkppalmfaaGreatDoorPs00
import Derived.Test.YtelplgkppalmfaaGreatDoorPs28
import Derived.Test.YtelplgkppalmfaaGreatDoorPs29
set_option maxRecDepth 100000
set_option maxHeartbeats 8000000
set_option linter.unusedVariables false
set_option linter.unusedSimpArgs false
namespace Go.Proofs.YtelplgkppalmfaaGreatDoor
open Go.Proofs.Tryz
open Go.RowKit
theorem tE (w:World) (hz:EZ w) (ht:dQ w w.heap.size):Calls prog 9 #[] w fun e w'=>e= .returned (.bool true)/\al w w':=by
 have HP:=G (show Calls prog 10 #[.string ⟨#[102,117,110,99,32,109,97,105,110,40,41,123,119,104,105,108,101,32,49,123,119,114,105,116,101,40,49,44,34,120,34,44,49,41,59,125,125]⟩] w fun e w'=>al w w'/\ ∃A c b o d A3 c3 b3 o3,e= .returned (.tuple #[.agg #[.slice A 0 c, .slice (some ⟨b,o,none⟩) 1 d], .int .i64 0, .int .i64 0])/\iT w' (fun b=>w.heap.size<=b) (.slice A 0 c) iq.vs/\iU w' (fun b=>w.heap.size<=b) (.slice (some ⟨b,o,none⟩) 1 d) iq.fs/\
   b<w'.heap.size/\w'.cell? ⟨b,o+2,none⟩=some (.slice A3 1 c3)/\A3=some ⟨b3,o3,none⟩/\b3<w'.heap.size/\w'.cell? ⟨b3,o3,none⟩=some (.int .i64 5)from by
  refine(nZ wW w hz ht).mono fun e w' hh=> ?_;rw[vJ]at hh;obtain⟨hE,A,n,c,B,m,d,he,hV,hF⟩:=hh;have hn:n=0:=by obtain⟨_,_,hh,_⟩:=hV;injection hh
  have hm:m=1:=by obtain⟨_,_,hh,_⟩:=hF;injection hh
  subst hn hm;obtain⟨b,o,pv,bv,rfl,hb,_,_,h2,_,hRb⟩:=mh hF 0 (by decide);obtain⟨A3,c3,rfl,_⟩:=hRb.form;obtain⟨b3,o3,_,_,_,hA3,hb3,_,h3,_⟩:=hRb.at_ 0 (by decide);simp only[bl,bp]at h2 h3
  exact⟨hE,A,c,b,o,d,A3,c3,b3,o3,he,hV,hF,hb,h2,hA3,hb3,h3⟩)
 have HPR:=G (show ∀(W:World) (A B:Option Addr) (n c m d:Nat),iT W (fun b=>w.heap.size<=b) (.slice A n c) iq.vs->iU W (fun b=>w.heap.size<=b) (.slice B m d) iq.fs->al w W->Calls prog 16 #[.agg #[.slice A n c, .slice B m d]] W fun e w'=>e= .returned (.tuple #[.string ⟨#[102,117,110,99,32,109,97,105,110,40,41,32,123,10,9,119,104,105,108,101,32,49,32,123,10,9,9,119,114,105,116,101,40,49,44,32,34,120,34,44,32,49,41,59,10,9,125,10,125,10]⟩, .int .i64 0])/\al W w' from
  fun W A B n c m d hV hF hE=>by
   have:=sX iq wK _ W A B n c m d hV hF (gy ht hE);rw[vI]at this
   exact this)
 have HVA:=G (show ∀(W:World) (A B:Option Addr) (n c m d:Nat),iT W (fun b=>w.heap.size<=b) (.slice A n c) iq.vs->iU W (fun b=>w.heap.size<=b) (.slice B m d) iq.fs->al w W->Calls prog 14 #[.agg #[.slice A n c, .slice B m d]] W fun e w'=>e= .returned (.bool true)/\al W w' from
  fun W A B n c m d hV hF hE=>by
   have:=mc iq wK _ W A B n c m d hV hF (gy ht hE);rw[qL]at this
   exact this)
 have HEQ:=G (show ∀(W:World) (A B:Option Addr) (n c m d:Nat),iT W (fun b=>w.heap.size<=b) (.slice A n c) iq.vs->iU W (fun b=>w.heap.size<=b) (.slice B m d) iq.fs->Calls prog 20 #[.agg #[.slice A n c, .slice B m d], .agg #[.slice A n c, .slice B m d]] W fun e w'=>e= .returned (.bool true)/\al W w' from
  fun W A B n c m d hV hF=>by
   have:=rp iq iq _ W A B A B n c m d n c m d hV hF hV hF;rw[ol]at this
   exact this)
 generalize iq.vs=vs at*;generalize iq.fs=fs at*;clear hz ht;go_enter func9,ntmps9
 go_wp2_with (first
  |(go_at_call 10;refine HP.out.mono ?_;rintro e w1 ⟨hE,A,c,b,o,d,A3,c3,b3,o3,rfl,hV,hF,hb,h2,rfl,hb3,h3⟩;have hE1:=O w1 (.cells #[.slice A 0 c, .slice (some ⟨b,o,none⟩) 1 d] 26);have HX1:=G (hE.trans hE1);have HB1:=G (ai w1 26 #[.slice A 0 c, .slice (some ⟨b,o,none⟩) 1 d]);have HV1:=G (hV.keep (.of_ext hE1) (Q:=fun b=>w.heap.size<=b) (fun _ hb _=>hb));have HF1:=G (hF.keep (.of_ext hE1) (Q:=fun b=>w.heap.size<=b) (fun _ hb _=>hb));have HC:=G (show(w1.alloc (.cells #[.slice A 0 c, .slice (some ⟨b,o,none⟩) 1 d] 26)).cell? ⟨b,o+2,none⟩=some (.slice (some ⟨b3,o3,none⟩) 1 c3)/\(w1.alloc (.cells #[.slice A 0 c, .slice (some ⟨b,o,none⟩) 1 d] 26)).cell? ⟨b3,o3,none⟩=some (.int .i64 5)from⟨(hE1.cell b _ hb).trans h2,(hE1.cell b3 _ hb3).trans h3⟩);have HL:=G (show b<(w1.alloc (.cells #[.slice A 0 c, .slice (some ⟨b,o,none⟩) 1 d] 26)).heap.size/\b3<(w1.alloc (.cells #[.slice A 0 c, .slice (some ⟨b,o,none⟩) 1 d] 26)).heap.size from⟨an hb hE1.size,an hb3 hE1.size⟩);clear hE hV hF hb h2 hb3 h3 hE1 HP)
  |(go_at_call 16;refine(HPR.out _ _ _ _ _ _ _ HV1.out HF1.out HX1.out).mono ?_;rintro e w2 ⟨rfl,hE⟩;have f1:=(HB1.out.ext hE).cell;have f2:=(hE.cell b _ HL.out.1).trans HC.out.1;have f3:=(hE.cell b3 _ HL.out.2).trans HC.out.2;have HX2:=G (HX1.out.trans hE);have HZ2:=G hE;clear hE HPR)
  |(go_at_call 14;refine(HVA.out _ _ _ _ _ _ _ (HV1.out.keep (.of_ext HZ2.out) (Q:=fun b=>w.heap.size<=b) (fun _ hb _=>hb)) (HF1.out.keep (.of_ext HZ2.out) (Q:=fun b=>w.heap.size<=b) (fun _ hb _=>hb)) HX2.out).mono ?_;rintro e w3 ⟨rfl,hE⟩;clear f1 f2 f3;have f1:=(HB1.out.ext (HZ2.out.trans hE)).cell;have HX3:=G (HX2.out.trans hE);have HZ3:=G (HZ2.out.trans hE);clear hE HVA)
  |(go_at_call 20;refine(HEQ.out _ _ _ _ _ _ _ (HV1.out.keep (.of_ext HZ3.out) (Q:=fun b=>w.heap.size<=b) (fun _ hb _=>hb)) (HF1.out.keep (.of_ext HZ3.out) (Q:=fun b=>w.heap.size<=b) (fun _ hb _=>hb))).mono ?_;rintro e w4 ⟨rfl,hE⟩;have HX4:=G (HX3.out.trans hE);clear hE HEQ))
 go_ret;exact⟨rfl,HX4.out⟩
end Go.Proofs.YtelplgkppalmfaaGreatDoor
