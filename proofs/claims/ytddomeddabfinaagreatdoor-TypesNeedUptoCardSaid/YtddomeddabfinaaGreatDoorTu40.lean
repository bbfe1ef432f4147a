/-
  Parts of the proof: SrA.
-/
import Derived.Test.YtddomeddabfinaaGreatDoorTu00
import Derived.Test.YtddomeddabfinaaGreatDoorTu39
import Derived.Test.YtddomeddabfinaaGreatDoorTu27
set_option maxRecDepth 100000
set_option maxHeartbeats 8000000
set_option linter.unusedVariables false
set_option linter.unusedSimpArgs false
set_option linter.unusedSectionVars false
namespace Go.Proofs.YtddomeddabfinaaGreatDoor
open Go.Proofs.Tryz
open Go.RowKit
abbrev ri (bf bi ba:Nat) (l s:Int):Array Value:= #[.map (some bf), .map (some bi), .map (some ba), .slice none 0 0, .int .i64 l, .int .i64 s, .int .i64 0, .int .i64 0, .int .i64 0, .int .i64 0, .int .i64 0, .slice none 0 0, .int .i64 0]
def SM (g bf bi ba:Nat) (l s:Int) (w w':World):Prop:=Mv (fun k=>k=g) w w'/\aO w' g 127 (ri bf bi ba l s)
section
variable {S:Nat->Prop} {g bf bi ba k:Nat} {l s:Int} {w w' W:World} {t:TypeId} {cs:Array Value}
theorem km (h:Hid (aO w k t cs)) (hM:Mv S w w') (hk: ¬S k):Hid (aO w' k t cs):=Mv.blk hM h hk
theorem SM.pre (h:SM g bf bi ba l s W w') (hX:au w W):SM g bf bi ba l s w w':=⟨(jQ hX).trans h.1,h.2⟩
theorem SM.fwd (h:SM g bf bi ba l s w W) (hX:au W w'):SM g bf bi ba l s w w':=⟨h.1.trans (.of_ext hX),h.2.ext hX⟩
end
theorem ol (g bf bi ba:Nat) (l s:Int) (w:World) (hl:0<l) (hu:l<=1000) (hb:aO w g 127 (ri bf bi ba l s)):
  Calls prog 162 #[.pointer (some ⟨g,0,none⟩)] w fun e w'=>e= .returned (.tuple #[])/\SM g bf bi ba (l-1) s w w':=by
 have hc:=hb.cell;have hf:=hb.frozen;have h0: ¬l<=0:=by omega
 have hw1:IntKind.i64.wrap (l-1)=l-1:=by simp[IntKind.wrap,IntKind.signed,IntKind.bits];omega
 have HD:=G (show SM g bf bi ba (l-1) s w (w.setCell ⟨g,4,none⟩ (.int .i64 (l-1)))from⟨(i7 (fun k=>k=g) w).set (p:=⟨g,4,none⟩) (fun _=>rfl) _,hb.set 4 _⟩);clear hb;go_enter func162,ntmps162;go_wp2_with fail;exact bodyPost_end (results_none rfl _ _ _) rfl ⟨rfl,HD.out⟩
theorem uv (g bf bi ba:Nat) (l s:Int) (fv:Option Addr) (o1 o2 o3:ByteArray) (A:Option Addr) (n c:Nat) (v:Int) (w:World) (hl:0<l) (hu:l<=1000) (hv:IntKind.i32.wrap v=v) (hb:aO w g 127 (ri bf bi ba l s)):
  Calls prog 164 #[.pointer (some ⟨g,0,none⟩), .pointer fv, .agg #[.int .i64 1, .string o1, .string o2, .string o3, .int .i64 v, .slice A n c]] w fun e w'=>e= .returned (.int .i32 v)/\SM g bf bi ba (l-1) s w w':=by
 have HS:=G (fun W h=>ol g bf bi ba l s W hl hu h);have hg:=hb.lt;have m:=G hb;clear hb hl hu;go_enter func164,ntmps164
 go_upto_region 1 with fail
 generalize hW:World.alloc w _=W0;obtain⟨hX,b,_⟩:=wk hW;replace m:=kb m hX;replace hX:=G hX;clear hW
 go_upto_region 2 with(go_at_call 162;refine(HS.out _ m.out).mono ?_;rintro e w1 ⟨rfl,hM⟩;replace b:=km b hM.1 (by omega);have HM:=G (hM.pre hX.out);clear hM HS m hX)
 have cb:=b.out.cell;go_wp2_with fail;go_ret;exact⟨rfl,HM.out⟩
theorem ut (g bf bi ba:Nat) (l s:Int) (fb pm pf ps:Nat) (k:Int) (nm:ByteArray) (A:Option Addr) (n c:Nat) (A2 A3:Option Addr) (n2 c2 n3 c3:Nat) (P:Nat->Prop) (v:Int) (r:List Ex) (w:World) (hl:0<l) (hu:l<=1000) (hv:IntKind.i32.wrap v=v) (hb:aO w g 127 (ri bf bi ba l s))
  (h0:aO w pm 122 #[.pointer (some ⟨g,0,none⟩)]) (h1:aO w pf 180 #[.pointer (some ⟨fb,0,none⟩)]) (h2:aO w ps 72 #[.int .i64 k, .string nm, .slice A n c, .slice A2 n2 c2, .slice A3 n3 c3]) (hR:b8 w P (.slice A n c) (.mk 1 [] [] [] v []::r)):
  Calls prog 163 #[.pointer (some ⟨ps,0,none⟩), .pointer (some ⟨pm,0,none⟩), .pointer (some ⟨pf,0,none⟩)] w fun e w'=>e= .returned (.int .i32 v)/\SM g bf bi ba (l-1) s w w':=by
 have hn:n=r.length+1:=by obtain⟨A',c',e,_⟩:=hR.form;injection e
 have hnz:0<n:=by omega
 have hn0:(0:Int)<(n:Int):=by omega
 have hn1:((n:Int)==0)=false:=by simp;omega
 obtain⟨b,o,B,d,rfl,hbs,_,hY,_⟩:=hR.yc 0 (by simp);simp only[aE,aW,bg,Ex.k,Ex.op,Ex.nm,Ex.tx,Ex.v,Ex.args,ah]at hY;have HY:=G hY;have HS:=G (fun W o1 o2 o3 A n c h=>uv g bf bi ba l s (some ⟨fb,0,none⟩) o1 o2 o3 A n c v W hl hu hv h);have m:=G hb;have b0:=G h0;have b1:=G h1;have b2:=G h2;have c2':=h2.cell;clear hb h0 h1 h2 hY hR hl hu hn;go_enter func163,ntmps163;go_wp2_with fail;refine am 6 1 [] mixed (by kernel_rfl) trivial ?_;repeat (refine sx ?_ (fun w1 hU=> ?_) ?_;rotate_left;(focus have f0:=(b0.out.ext hU.un).cell;have f1:=(b1.out.ext hU.un).cell;have f2:=(b2.out.ext hU.un).cell;obtain⟨e0,e1,e2,e3,e4,e5⟩:=HY.out.kp (.of_ext (P:=fun _=>True) hU.un) trivial hbs;clear hU;go_simp<;>with_reducible rfl);simp only[aU,aT,aS,aR,aQ])
 intro w7 hw7 _;simp only[ab,ap];have HX:=G hw7.un;clear hw7 c2';go_wp2_with (go_at_call 164;refine(HS.out _ _ _ _ _ _ _ (m.out.ext HX.out)).mono ?_;rintro e w8 ⟨rfl,hM⟩;have HM:=G (hM.pre HX.out);clear hM);go_ret;exact⟨rfl,HM.out⟩
theorem wS (g bf bi ba:Nat) (l s:Int) (nm:List UInt8) (hnm:nm.length<=maxLen) (A:Option Addr) (n c:Nat) (i:Int) (hi: ¬i<0) (hin:(n:Int)<=i) (L:KF) (hL:(L nm).getD (.slice none 0 0)= .slice A n c) (w:World) (hi2:IntKind.i64.wrap i=i) (hb:aO w g 127 (ri bf bi ba l s)) (hm:bU w ba L):
  Calls prog 166 #[.pointer (some ⟨g,0,none⟩), .string (ag nm), .int .i32 i] w fun e w'=>e=vO 2/\w'=w:=by
 have f0:=hb.cell;have f2:=(hm.look CF hnm).1;rw[hL]at f2;clear hb hm;go_enter func166,ntmps166;go_wp2_with fail;exact⟨rfl,rfl,rfl⟩
end Go.Proofs.YtddomeddabfinaaGreatDoor
