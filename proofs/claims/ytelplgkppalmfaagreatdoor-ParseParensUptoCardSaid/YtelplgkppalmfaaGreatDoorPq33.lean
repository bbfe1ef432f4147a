/-
  Parts of the proof: VrC VrD VaLexZf.
-/
import Derived.Test.YtelplgkppalmfaaGreatDoorPq32
import Derived.Test.YtelplgkppalmfaaGreatDoorPq17
import Derived.Test.YtelplgkppalmfaaGreatDoorPq07
import Derived.Test.YtelplgkppalmfaaGreatDoorPq08
import Derived.Test.YtelplgkppalmfaaGreatDoorPq14
import Derived.Test.YtelplgkppalmfaaGreatDoorPq15
import Derived.Test.YtelplgkppalmfaaGreatDoorPq20
set_option maxRecDepth 100000
set_option maxHeartbeats 8000000
set_option linter.unusedVariables false
set_option linter.unusedSimpArgs false
namespace Go.Proofs.YtelplgkppalmfaaGreatDoor
open Go.Proofs.Tryz
open Go.RowKit
def loopsOf:Code->List Code
 | .seq a b=>loopsOf a++loopsOf b
 | .block _ a=>loopsOf a
 | .cond _ a b=>loopsOf a++loopsOf b
 | .loop a=>[.loop a]
 | _=>[]
def SndE (xs:List Ex):Prop:= ∀y,y∈xs-> ∀(P:Nat->Prop) (w:World) (A:Option Addr) (n c:Nat),RdE w P (.slice A n c) y.args->
  Calls prog 96 #[.agg #[.int .i64 y.k, .string (str y.op), .string (str y.nm), .string (str y.tx), .int .i64 y.v, .slice A n c]] w fun e w'=>e= .returned (.bool y.ok)/\Ext w w'
theorem okL_take_succ {l:List Ex} {j:Nat} (h:j<l.length):okL (l.take (j+1))=(okL (l.take j)&&l[j].ok):=by
 rw[okL_all,okL_all,List.take_succ_eq_append_getElem h,List.all_append,List.all_cons,List.all_nil,Bool.and_true]
theorem okL_take_bad {l:List Ex} {j:Nat} (h:okL (l.take j)=false):okL l=false:=by
 rw[okL_all]at*;rw[<-List.take_append_drop j l,List.all_append,h,Bool.false_and]
theorem rs_suf (px pw:Nat) (k v wv lo hi:Int) (op nm tx wop wnm wtx:List UInt8) (A:Option Addr) (n c:Nat) (b:Bool) (w W:World) (P:Nat->Prop) (xs:List Ex) (hI:SndE xs) (hE:Ext w W) (hne:px≠pw) (hn:n<=1073741824) (hB:Blk W px 49 #[.int .i64 k, .string (str op), .string (str nm), .string (str tx), .int .i64 v, .slice A n c]) (hW:Blk W pw 49 #[.int .i64 k, .string (str wop), .string (str wnm), .string (str wtx), .int .i64 wv, .slice none 0 0]) (hR:RdE W P (.slice A n c) xs)
  (R:Bool) (hQ:(b&&okL xs&&(op==wop&&nm==wnm&&tx==wtx&&v==wv)&&(decide (lo<=n)&&decide ((n:Int)<=hi)))=R) (K:Act->World->Prop)
  (hK: ∀a w',Code.wp prog (fromReg 31 (Tryz.f96.body.getD .skip)) (bodyPost prog Tryz.f96 fun e w'=>e= .returned (.bool R)/\Ext w w') a w'->K a w') (u0 u2 u8 u9 u10 u11 u12 u13 u14 u15 u16 u17 u18 u19 u20 u21 u22 u23 u24 u25 u26 u27 u28 u29 u30 u31 u32 u33 u34 u35 u36 u37 u38 u39 u40 u41 u42 u43 u44 u45 u46 u47 u48 u49 u50 u51 u52 u53 u54 u55 u56 u57 u58 u59 u60 u61 u62 u63 u64 u65 u66 u67 u68 u69 u70 u71 u72 u73 u74 u75 u76 u77 u78 u79 u80 u81 u82 u83 u84 u85 u86 u87 u88 u89 u90 u91 u92 u93 u94 u95 u96 u97 u98 u99 u100 u101 u102 u103 u104 u105 u106 u107 u108 u109 u110 u111 u112 u113 u114 u115 u116 u117 u118 u119 u120 u121 u122 u123 u124 u125 u126 u127 u128 u129 u130:Value):
  Code.wp prog ((loopsOf (Tryz.f96.body.getD .skip)).getD 0 .skip) (Exit.inBlock 1 (Exit.then K (bodyPost prog Tryz.f96 fun e w'=>e= .returned (.bool R)/\Ext w w'))) {tmps:= #[u0, .pointer (some ⟨px,0,none⟩),u2, .pointer (some ⟨pw,0,none⟩), .int .i64 lo, .int .i64 hi, .bool b, .int .i64 0,u8,u9,u10,u11,u12,u13,u14,u15,u16,u17,u18,u19,u20,u21,u22,u23,u24,u25,u26,u27,u28,u29,u30,u31,u32,u33,u34,u35,u36,u37,u38,u39,u40,u41,u42,u43,u44,u45,u46,u47,u48,u49,u50,u51,u52,u53,u54,u55,u56,u57,u58,u59,u60,u61,u62,u63,u64,u65,u66,u67,u68,u69,u70,u71,u72,u73,u74,u75,u76,u77,u78,u79,u80,u81,u82,u83,u84,u85,u86,u87,u88,u89,u90,u91,u92,u93,u94,u95,u96,u97,u98,u99,u100,u101,u102,u103,u104,u105,u106,u107,u108,u109,u110,u111,u112,u113,u114,u115,u116,u117,u118,u119,u120,u121,u122,u123,u124,u125,u126,u127,u128,u129,u130],defers:=[]} W:=by
 have hnl:=hR.len;have HX:=hide hE;have HN:=hide hnl;have HR:=hide hR;have HI:=hide hI;have HQ:=hide hQ;have HB:=hide hB;have HW:=hide hW;clear hE hnl hR hI hQ hB hW
 conv=>arg 2;whnf
 conv=>arg 4;zeta
 go_loopw [6,7] (fun vb vi wr=> ∃(j:Nat) (q:Bool),vi= .int .i64 (j:Int)/\vb= .bool q/\j<=n/\Hid ((b&&okL (xs.take j))=q)/\Hid (Ext W wr)) (fun _ vi _=>n-(intOf vi).toNat)
 case atStart=>exact⟨0,b,rfl,rfl,Nat.zero_le _,hide (by simp[okL]),hide (Ext.refl W)⟩
 case round=>
  obtain⟨j,q,rfl,rfl,hj,HA,HZ⟩:=hrel;have f1:=(HB.out.ext HZ.out).cell;by_cases hlt:j<n
  ·have hlt':(j:Int)<n:=by omega
   cases q with
   |true=>
    have hjl:j<xs.length:=by have:=HN.out;omega
    obtain⟨g,o,a,rfl,hg,hP,h0,h1,h2,h3,h4,h5,hRa⟩:=HR.out.at_ j hjl;have HS:=hide (okL_take_succ hjl);have HIx:=HI.out _ (List.getElem_mem hjl);generalize xs[j]=y at*;have e0:=(HZ.out.cell g _ hg).trans h0;have e1:=(HZ.out.cell g _ hg).trans h1;have e2:=(HZ.out.cell g _ hg).trans h2;have e3:=(HZ.out.cell g _ hg).trans h3;have e4:=(HZ.out.cell g _ hg).trans h4;have e5:=(HZ.out.cell g _ hg).trans h5;obtain⟨D,d,rfl,_⟩:=hRa.form;have HC:=hide (HIx P wr D _ d (hRa.keep (.of_ext HZ.out) (Q:=P) (fun _ hb _=>hb)));have HY:=hide (show(b&&okL (xs.take (j+1)))=y.ok by rw[HS.out,<-Bool.and_assoc,HA.out,Bool.true_and]);generalize y.ok=yo at*;clear h0 h1 h2 h3 h4 h5 hRa HIx HS;go_wp2_with (go_at_call 96;refine HC.out.mono ?_;rintro e w3 ⟨rfl,hE⟩;have HZ3:=hide (HZ.out.trans hE);clear hE HC);go_roundw
    case rel=>exact⟨j+1,_,by go_num,rfl,by omega,HY,HZ3⟩
    case measure=>simp[intOf];omega
   |false=>
    have e0:R=false:=by
     rw[<-HQ.out];have:=HA.out
     cases b with
     |false=>simp
     |true=>rw[okL_take_bad (by simpa using this)];simp
    clear HQ;go_wp2_with fail
    conv=>arg 2;whnf
    go_wp2_with fail;go_ret;exact⟨by first|rfl|(rw[e0];rfl)|(exact(congrArg (fun q=>Ending.returned (.bool q)) (decide_eq_true h6)).trans (by rw[e0]))|(exact(congrArg (fun q=>Ending.returned (.bool q)) (decide_eq_false (by omega))).trans (by rw[e0]))|(exact(congrArg (fun q=>Ending.returned (.bool q)) (decide_eq_false (by omega)))),(HX.out.trans HZ.out)⟩
  ·have hlt': ¬(j:Int)<n:=by omega
   have hq:(b&&okL xs)=q:=by
    have:=HA.out;rwa [List.take_of_length_le (by have:=HN.out;omega)]at this
   rw[hq]at HQ;have f3:=(HW.out.ext HZ.out).cell;clear HA hq
   cases q with
   |false=>
    have e0:R=false:=by rw[<-HQ.out];simp
    clear HQ;go_wp2_with fail
    conv=>arg 2;whnf
    go_wp2_with fail;go_ret;exact⟨by first|rfl|(rw[e0];rfl)|(exact(congrArg (fun q=>Ending.returned (.bool q)) (decide_eq_true h6)).trans (by rw[e0]))|(exact(congrArg (fun q=>Ending.returned (.bool q)) (decide_eq_false (by omega))).trans (by rw[e0]))|(exact(congrArg (fun q=>Ending.returned (.bool q)) (decide_eq_false (by omega)))),(HX.out.trans HZ.out)⟩
   |true=>
    cases h1:(op==wop)with
    |false=>(have e0:R=false:=(by rw[<-HQ.out,h1];simp);go_wp2_with fail;(conv=>arg 2;whnf);go_wp2_with fail;go_ret;exact⟨by first|rfl|(rw[e0];rfl)|(exact(congrArg (fun q=>Ending.returned (.bool q)) (decide_eq_true h6)).trans (by rw[e0]))|(exact(congrArg (fun q=>Ending.returned (.bool q)) (decide_eq_false (by omega))).trans (by rw[e0]))|(exact(congrArg (fun q=>Ending.returned (.bool q)) (decide_eq_false (by omega)))),(HX.out.trans HZ.out)⟩)
    |true=>
    cases h2:(nm==wnm)with
    |false=>(have e0:R=false:=(by rw[<-HQ.out,h1,h2];simp);go_wp2_with fail;(conv=>arg 2;whnf);go_wp2_with fail;go_ret;exact⟨by first|rfl|(rw[e0];rfl)|(exact(congrArg (fun q=>Ending.returned (.bool q)) (decide_eq_true h6)).trans (by rw[e0]))|(exact(congrArg (fun q=>Ending.returned (.bool q)) (decide_eq_false (by omega))).trans (by rw[e0]))|(exact(congrArg (fun q=>Ending.returned (.bool q)) (decide_eq_false (by omega)))),(HX.out.trans HZ.out)⟩)
    |true=>
    cases h3:(tx==wtx)with
    |false=>(have e0:R=false:=(by rw[<-HQ.out,h1,h2,h3];simp);go_wp2_with fail;(conv=>arg 2;whnf);go_wp2_with fail;go_ret;exact⟨by first|rfl|(rw[e0];rfl)|(exact(congrArg (fun q=>Ending.returned (.bool q)) (decide_eq_true h6)).trans (by rw[e0]))|(exact(congrArg (fun q=>Ending.returned (.bool q)) (decide_eq_false (by omega))).trans (by rw[e0]))|(exact(congrArg (fun q=>Ending.returned (.bool q)) (decide_eq_false (by omega)))),(HX.out.trans HZ.out)⟩)
    |true=>
    cases h4:(v==wv)with
    |false=>(have e0:R=false:=(by rw[<-HQ.out,h1,h2,h3,h4];simp);go_wp2_with fail;(conv=>arg 2;whnf);go_wp2_with fail;go_ret;exact⟨by first|rfl|(rw[e0];rfl)|(exact(congrArg (fun q=>Ending.returned (.bool q)) (decide_eq_true h6)).trans (by rw[e0]))|(exact(congrArg (fun q=>Ending.returned (.bool q)) (decide_eq_false (by omega))).trans (by rw[e0]))|(exact(congrArg (fun q=>Ending.returned (.bool q)) (decide_eq_false (by omega)))),(HX.out.trans HZ.out)⟩)
    |true=>
    by_cases h5:lo<=n
    ·by_cases h6:(n:Int)<=hi
     ·have e0:R=true:=by rw[<-HQ.out,h1,h2,h3,h4,decide_eq_true h5,decide_eq_true h6];rfl
      clear HQ;go_wp2_with fail
      conv=>arg 2;whnf
      go_wp2_with fail;go_ret;exact⟨by first|rfl|(rw[e0];rfl)|(exact(congrArg (fun q=>Ending.returned (.bool q)) (decide_eq_true h6)).trans (by rw[e0]))|(exact(congrArg (fun q=>Ending.returned (.bool q)) (decide_eq_false (by omega))).trans (by rw[e0]))|(exact(congrArg (fun q=>Ending.returned (.bool q)) (decide_eq_false (by omega)))),(HX.out.trans HZ.out)⟩
     ·have e0:R=false:=by rw[<-HQ.out,decide_eq_false h6];simp
      clear HQ;go_wp2_with fail
      conv=>arg 2;whnf
      go_wp2_with fail;go_ret;exact⟨by first|rfl|(rw[e0];rfl)|(exact(congrArg (fun q=>Ending.returned (.bool q)) (decide_eq_true h6)).trans (by rw[e0]))|(exact(congrArg (fun q=>Ending.returned (.bool q)) (decide_eq_false (by omega))).trans (by rw[e0]))|(exact(congrArg (fun q=>Ending.returned (.bool q)) (decide_eq_false (by omega)))),(HX.out.trans HZ.out)⟩
    ·have e0:R=false:=by rw[<-HQ.out,decide_eq_false h5];simp
     clear HQ;go_wp2_with fail
     conv=>arg 2;whnf
     go_wp2_with fail;go_ret;exact⟨by first|rfl|(rw[e0];rfl)|(exact(congrArg (fun q=>Ending.returned (.bool q)) (decide_eq_true h6)).trans (by rw[e0]))|(exact(congrArg (fun q=>Ending.returned (.bool q)) (decide_eq_false (by omega))).trans (by rw[e0]))|(exact(congrArg (fun q=>Ending.returned (.bool q)) (decide_eq_false (by omega)))),(HX.out.trans HZ.out)⟩
end Go.Proofs.YtelplgkppalmfaaGreatDoor
namespace Go.Proofs.YtelplgkppalmfaaGreatDoor
open Go.Proofs.Tryz
open Go.RowKit
theorem rsn0 (n:Nat):(decide (0<=(n:Int))&&decide ((n:Int)<=0))=(n==0):=by rw[Bool.eq_iff_iff];simp
theorem rsn1 (n:Nat):(decide (1<=(n:Int))&&decide ((n:Int)<=1))=(n==1):=by rw[Bool.eq_iff_iff];simp;omega
theorem rsn2 (n:Nat):(decide (2<=(n:Int))&&decide ((n:Int)<=2))=(n==2):=by rw[Bool.eq_iff_iff];simp;omega
theorem rsn4 (n:Nat):(decide (0<=(n:Int))&&decide ((n:Int)<=4))=decide (n<=4):=by rw[Bool.eq_iff_iff];simp;omega
theorem rs_1 (op nm tx:List UInt8) (v:Int) (w:World) (A:Option Addr) (n c:Nat) (hn:n<=1073741824) (P:Nat->Prop) (xs:List Ex) (hI:SndE xs) (hRd:RdE w P (.slice A n c) xs) (R:Bool)
  (hQ:((decide (0<=v)&&decide (v<=2147483647))&&okL xs&&(op==[]&&nm==[]&&tx==[]&&v==v)&&(decide (0<=(n:Int))&&decide ((n:Int)<=0)))=R):
  Calls prog 96 #[.agg #[.int .i64 1, .string (str op), .string (str nm), .string (str tx), .int .i64 v, .slice A n c]] w fun e w'=>e= .returned (.bool R)/\Ext w w':=by
 have hne:w.heap.size≠w.heap.size+1:=by omega
 have HB:=hide ((Blk.new w 49 #[.int .i64 1, .string (str op), .string (str nm), .string (str tx), .int .i64 v, .slice A n c]).ext (Ext.alloc _ (.cells #[.int .i64 1, .string ⟨#[]⟩, .string ⟨#[]⟩, .string ⟨#[]⟩, .int .i64 v, .slice none 0 0] 49)));have HW:=hide (Blk.new2 w (.cells #[.int .i64 1, .string (str op), .string (str nm), .string (str tx), .int .i64 v, .slice A n c] 49) 49 #[.int .i64 1, .string ⟨#[]⟩, .string ⟨#[]⟩, .string ⟨#[]⟩, .int .i64 v, .slice none 0 0]);have HX:=hide ((Ext.alloc w (.cells #[.int .i64 1, .string (str op), .string (str nm), .string (str tx), .int .i64 v, .slice A n c] 49)).trans (Ext.alloc _ (.cells #[.int .i64 1, .string ⟨#[]⟩, .string ⟨#[]⟩, .string ⟨#[]⟩, .int .i64 v, .slice none 0 0] 49)));have HR:=hide (hRd.keep (.of_ext HX.out) (Q:=P) (fun _ hb _=>hb));have HI:=hide hI;clear hI hRd;by_cases h1:0<=v
 ·by_cases h2:v<=2147483647
  ·rw[show(decide (0<=v)&&decide (v<=2147483647))=true by simp[h1,h2]]at hQ;have HQ:=hide hQ;clear hQ;go_enter func96,ntmps96;go_wp2_with fail;exact rs_suf _ _ 1 v v 0 0 op nm tx [] [] [] A n c true _ _ P xs HI.out HX.out hne hn HB.out HW.out HR.out R HQ.out _ (by assumption) _ _ _ _ _ _ _ _ _ _ _ _ _ _ _ _ _ _ _ _ _ _ _ _ _ _ _ _ _ _ _ _ _ _ _ _ _ _ _ _ _ _ _ _ _ _ _ _ _ _ _ _ _ _ _ _ _ _ _ _ _ _ _ _ _ _ _ _ _ _ _ _ _ _ _ _ _ _ _ _ _ _ _ _ _ _ _ _ _ _ _ _ _ _ _ _ _ _ _ _ _ _ _ _ _ _ _ _ _ _ _ _ _ _ _ _ _ _ _ _ _ _ _ _ _
  ·rw[show(decide (0<=v)&&decide (v<=2147483647))=false by simp[h1,h2]]at hQ;have HQ:=hide hQ;clear hQ;go_enter func96,ntmps96;go_wp2_with fail;exact rs_suf _ _ 1 v v 0 0 op nm tx [] [] [] A n c false _ _ P xs HI.out HX.out hne hn HB.out HW.out HR.out R HQ.out _ (by assumption) _ _ _ _ _ _ _ _ _ _ _ _ _ _ _ _ _ _ _ _ _ _ _ _ _ _ _ _ _ _ _ _ _ _ _ _ _ _ _ _ _ _ _ _ _ _ _ _ _ _ _ _ _ _ _ _ _ _ _ _ _ _ _ _ _ _ _ _ _ _ _ _ _ _ _ _ _ _ _ _ _ _ _ _ _ _ _ _ _ _ _ _ _ _ _ _ _ _ _ _ _ _ _ _ _ _ _ _ _ _ _ _ _ _ _ _ _ _ _ _ _ _ _ _ _
 ·rw[show(decide (0<=v)&&decide (v<=2147483647))=false by simp[h1]]at hQ;have HQ:=hide hQ;clear hQ;go_enter func96,ntmps96;go_wp2_with fail;exact rs_suf _ _ 1 v v 0 0 op nm tx [] [] [] A n c false _ _ P xs HI.out HX.out hne hn HB.out HW.out HR.out R HQ.out _ (by assumption) _ _ _ _ _ _ _ _ _ _ _ _ _ _ _ _ _ _ _ _ _ _ _ _ _ _ _ _ _ _ _ _ _ _ _ _ _ _ _ _ _ _ _ _ _ _ _ _ _ _ _ _ _ _ _ _ _ _ _ _ _ _ _ _ _ _ _ _ _ _ _ _ _ _ _ _ _ _ _ _ _ _ _ _ _ _ _ _ _ _ _ _ _ _ _ _ _ _ _ _ _ _ _ _ _ _ _ _ _ _ _ _ _ _ _ _ _ _ _ _ _ _ _ _ _
theorem rs_2 (op nm tx:List UInt8) (v:Int) (w:World) (A:Option Addr) (n c:Nat) (hn:n<=1073741824) (P:Nat->Prop) (xs:List Ex) (hI:SndE xs) (hRd:RdE w P (.slice A n c) xs) (hl:tx.length<=1073741824) (R:Bool)
  (hQ:(okTx tx&&okL xs&&(op==[]&&nm==[]&&tx==tx&&v==0)&&(decide (0<=(n:Int))&&decide ((n:Int)<=0)))=R):
  Calls prog 96 #[.agg #[.int .i64 2, .string (str op), .string (str nm), .string (str tx), .int .i64 v, .slice A n c]] w fun e w'=>e= .returned (.bool R)/\Ext w w':=by
 have hne:w.heap.size≠w.heap.size+1:=by omega
 have HB:=hide ((Blk.new w 49 #[.int .i64 2, .string (str op), .string (str nm), .string (str tx), .int .i64 v, .slice A n c]).ext (Ext.alloc _ (.cells #[.int .i64 2, .string ⟨#[]⟩, .string ⟨#[]⟩, .string (str tx), .int .i64 0, .slice none 0 0] 49)));have HW:=hide (Blk.new2 w (.cells #[.int .i64 2, .string (str op), .string (str nm), .string (str tx), .int .i64 v, .slice A n c] 49) 49 #[.int .i64 2, .string ⟨#[]⟩, .string ⟨#[]⟩, .string (str tx), .int .i64 0, .slice none 0 0]);have HX:=hide ((Ext.alloc w (.cells #[.int .i64 2, .string (str op), .string (str nm), .string (str tx), .int .i64 v, .slice A n c] 49)).trans (Ext.alloc _ (.cells #[.int .i64 2, .string ⟨#[]⟩, .string ⟨#[]⟩, .string (str tx), .int .i64 0, .slice none 0 0] 49)));have HR:=hide (hRd.keep (.of_ext HX.out) (Q:=P) (fun _ hb _=>hb));have HI:=hide hI;clear hI hRd;have HC:=hide (rliteral_any tx hl);generalize okTx tx=b at*;have HQ:=hide hQ;clear hQ;go_enter func96,ntmps96;go_wp2_with (go_at_call 132;refine(HC.out _).mono ?_;rintro e w3 ⟨rfl,hE⟩;have HX3:=hide (HX.out.trans hE);have HB3:=hide (HB.out.ext hE);have HW3:=hide (HW.out.ext hE);have HR3:=hide (HR.out.keep (.of_ext hE) (Q:=P) (fun _ hb _=>hb));clear hE HC HX HB HW HR;have f3:=HB3.out.cell);exact rs_suf _ _ 2 v 0 0 0 op nm tx [] [] tx A n c b _ _ P xs HI.out HX3.out hne hn HB3.out HW3.out HR3.out R HQ.out _ (by assumption) _ _ _ _ _ _ _ _ _ _ _ _ _ _ _ _ _ _ _ _ _ _ _ _ _ _ _ _ _ _ _ _ _ _ _ _ _ _ _ _ _ _ _ _ _ _ _ _ _ _ _ _ _ _ _ _ _ _ _ _ _ _ _ _ _ _ _ _ _ _ _ _ _ _ _ _ _ _ _ _ _ _ _ _ _ _ _ _ _ _ _ _ _ _ _ _ _ _ _ _ _ _ _ _ _ _ _ _ _ _ _ _ _ _ _ _ _ _ _ _ _ _ _ _ _
theorem rs_3 (op nm tx:List UInt8) (v:Int) (w:World) (A:Option Addr) (n c:Nat) (hn:n<=1073741824) (P:Nat->Prop) (xs:List Ex) (hI:SndE xs) (hRd:RdE w P (.slice A n c) xs) (hl:nm.length<=1073741824) (R:Bool)
  (hQ:(isNm nm&&okL xs&&(op==[]&&nm==nm&&tx==[]&&v==0)&&(decide (0<=(n:Int))&&decide ((n:Int)<=0)))=R):
  Calls prog 96 #[.agg #[.int .i64 3, .string (str op), .string (str nm), .string (str tx), .int .i64 v, .slice A n c]] w fun e w'=>e= .returned (.bool R)/\Ext w w':=by
 have hne:w.heap.size≠w.heap.size+1:=by omega
 have HB:=hide ((Blk.new w 49 #[.int .i64 3, .string (str op), .string (str nm), .string (str tx), .int .i64 v, .slice A n c]).ext (Ext.alloc _ (.cells #[.int .i64 3, .string ⟨#[]⟩, .string (str nm), .string ⟨#[]⟩, .int .i64 0, .slice none 0 0] 49)));have HW:=hide (Blk.new2 w (.cells #[.int .i64 3, .string (str op), .string (str nm), .string (str tx), .int .i64 v, .slice A n c] 49) 49 #[.int .i64 3, .string ⟨#[]⟩, .string (str nm), .string ⟨#[]⟩, .int .i64 0, .slice none 0 0]);have HX:=hide ((Ext.alloc w (.cells #[.int .i64 3, .string (str op), .string (str nm), .string (str tx), .int .i64 v, .slice A n c] 49)).trans (Ext.alloc _ (.cells #[.int .i64 3, .string ⟨#[]⟩, .string (str nm), .string ⟨#[]⟩, .int .i64 0, .slice none 0 0] 49)));have HR:=hide (hRd.keep (.of_ext HX.out) (Q:=P) (fun _ hb _=>hb));have HI:=hide hI;clear hI hRd;have HC:=hide (risname_any nm hl);generalize isNm nm=b at*;have HQ:=hide hQ;clear hQ;go_enter func96,ntmps96;go_wp2_with (go_at_call 46;refine(HC.out _).mono ?_;rintro e w3 ⟨rfl,hE⟩;have HX3:=hide (HX.out.trans hE);have HB3:=hide (HB.out.ext hE);have HW3:=hide (HW.out.ext hE);have HR3:=hide (HR.out.keep (.of_ext hE) (Q:=P) (fun _ hb _=>hb));clear hE HC HX HB HW HR;have f3:=HB3.out.cell);exact rs_suf _ _ 3 v 0 0 0 op nm tx [] nm [] A n c b _ _ P xs HI.out HX3.out hne hn HB3.out HW3.out HR3.out R HQ.out _ (by assumption) _ _ _ _ _ _ _ _ _ _ _ _ _ _ _ _ _ _ _ _ _ _ _ _ _ _ _ _ _ _ _ _ _ _ _ _ _ _ _ _ _ _ _ _ _ _ _ _ _ _ _ _ _ _ _ _ _ _ _ _ _ _ _ _ _ _ _ _ _ _ _ _ _ _ _ _ _ _ _ _ _ _ _ _ _ _ _ _ _ _ _ _ _ _ _ _ _ _ _ _ _ _ _ _ _ _ _ _ _ _ _ _ _ _ _ _ _ _ _ _ _ _ _ _ _
theorem rs_4 (op nm tx:List UInt8) (v:Int) (w:World) (A:Option Addr) (n c:Nat) (hn:n<=1073741824) (P:Nat->Prop) (xs:List Ex) (hI:SndE xs) (hRd:RdE w P (.slice A n c) xs) (hl:nm.length<=1073741824) (R:Bool)
  (hQ:(isNm nm&&okL xs&&(op==[]&&nm==nm&&tx==[]&&v==0)&&(decide (1<=(n:Int))&&decide ((n:Int)<=1)))=R):
  Calls prog 96 #[.agg #[.int .i64 4, .string (str op), .string (str nm), .string (str tx), .int .i64 v, .slice A n c]] w fun e w'=>e= .returned (.bool R)/\Ext w w':=by
 have hne:w.heap.size≠w.heap.size+1:=by omega
 have HB:=hide ((Blk.new w 49 #[.int .i64 4, .string (str op), .string (str nm), .string (str tx), .int .i64 v, .slice A n c]).ext (Ext.alloc _ (.cells #[.int .i64 4, .string ⟨#[]⟩, .string (str nm), .string ⟨#[]⟩, .int .i64 0, .slice none 0 0] 49)));have HW:=hide (Blk.new2 w (.cells #[.int .i64 4, .string (str op), .string (str nm), .string (str tx), .int .i64 v, .slice A n c] 49) 49 #[.int .i64 4, .string ⟨#[]⟩, .string (str nm), .string ⟨#[]⟩, .int .i64 0, .slice none 0 0]);have HX:=hide ((Ext.alloc w (.cells #[.int .i64 4, .string (str op), .string (str nm), .string (str tx), .int .i64 v, .slice A n c] 49)).trans (Ext.alloc _ (.cells #[.int .i64 4, .string ⟨#[]⟩, .string (str nm), .string ⟨#[]⟩, .int .i64 0, .slice none 0 0] 49)));have HR:=hide (hRd.keep (.of_ext HX.out) (Q:=P) (fun _ hb _=>hb));have HI:=hide hI;clear hI hRd;have HC:=hide (risname_any nm hl);generalize isNm nm=b at*;have HQ:=hide hQ;clear hQ;go_enter func96,ntmps96;go_wp2_with (go_at_call 46;refine(HC.out _).mono ?_;rintro e w3 ⟨rfl,hE⟩;have HX3:=hide (HX.out.trans hE);have HB3:=hide (HB.out.ext hE);have HW3:=hide (HW.out.ext hE);have HR3:=hide (HR.out.keep (.of_ext hE) (Q:=P) (fun _ hb _=>hb));clear hE HC HX HB HW HR;have f3:=HB3.out.cell);exact rs_suf _ _ 4 v 0 1 1 op nm tx [] nm [] A n c b _ _ P xs HI.out HX3.out hne hn HB3.out HW3.out HR3.out R HQ.out _ (by assumption) _ _ _ _ _ _ _ _ _ _ _ _ _ _ _ _ _ _ _ _ _ _ _ _ _ _ _ _ _ _ _ _ _ _ _ _ _ _ _ _ _ _ _ _ _ _ _ _ _ _ _ _ _ _ _ _ _ _ _ _ _ _ _ _ _ _ _ _ _ _ _ _ _ _ _ _ _ _ _ _ _ _ _ _ _ _ _ _ _ _ _ _ _ _ _ _ _ _ _ _ _ _ _ _ _ _ _ _ _ _ _ _ _ _ _ _ _ _ _ _ _ _ _ _ _
theorem rs_5 (op nm tx:List UInt8) (v:Int) (w:World) (A:Option Addr) (n c:Nat) (hn:n<=1073741824) (P:Nat->Prop) (xs:List Ex) (hI:SndE xs) (hRd:RdE w P (.slice A n c) xs) (hl:nm.length<=1073741824) (R:Bool)
  (hQ:(isNm nm&&okL xs&&(op==[]&&nm==nm&&tx==[]&&v==0)&&(decide (0<=(n:Int))&&decide ((n:Int)<=4)))=R):
  Calls prog 96 #[.agg #[.int .i64 5, .string (str op), .string (str nm), .string (str tx), .int .i64 v, .slice A n c]] w fun e w'=>e= .returned (.bool R)/\Ext w w':=by
 have hne:w.heap.size≠w.heap.size+1:=by omega
 have HB:=hide ((Blk.new w 49 #[.int .i64 5, .string (str op), .string (str nm), .string (str tx), .int .i64 v, .slice A n c]).ext (Ext.alloc _ (.cells #[.int .i64 5, .string ⟨#[]⟩, .string (str nm), .string ⟨#[]⟩, .int .i64 0, .slice none 0 0] 49)));have HW:=hide (Blk.new2 w (.cells #[.int .i64 5, .string (str op), .string (str nm), .string (str tx), .int .i64 v, .slice A n c] 49) 49 #[.int .i64 5, .string ⟨#[]⟩, .string (str nm), .string ⟨#[]⟩, .int .i64 0, .slice none 0 0]);have HX:=hide ((Ext.alloc w (.cells #[.int .i64 5, .string (str op), .string (str nm), .string (str tx), .int .i64 v, .slice A n c] 49)).trans (Ext.alloc _ (.cells #[.int .i64 5, .string ⟨#[]⟩, .string (str nm), .string ⟨#[]⟩, .int .i64 0, .slice none 0 0] 49)));have HR:=hide (hRd.keep (.of_ext HX.out) (Q:=P) (fun _ hb _=>hb));have HI:=hide hI;clear hI hRd;have HC:=hide (risname_any nm hl);generalize isNm nm=b at*;have HQ:=hide hQ;clear hQ;go_enter func96,ntmps96;go_wp2_with (go_at_call 46;refine(HC.out _).mono ?_;rintro e w3 ⟨rfl,hE⟩;have HX3:=hide (HX.out.trans hE);have HB3:=hide (HB.out.ext hE);have HW3:=hide (HW.out.ext hE);have HR3:=hide (HR.out.keep (.of_ext hE) (Q:=P) (fun _ hb _=>hb));clear hE HC HX HB HW HR;have f3:=HB3.out.cell);exact rs_suf _ _ 5 v 0 0 4 op nm tx [] nm [] A n c b _ _ P xs HI.out HX3.out hne hn HB3.out HW3.out HR3.out R HQ.out _ (by assumption) _ _ _ _ _ _ _ _ _ _ _ _ _ _ _ _ _ _ _ _ _ _ _ _ _ _ _ _ _ _ _ _ _ _ _ _ _ _ _ _ _ _ _ _ _ _ _ _ _ _ _ _ _ _ _ _ _ _ _ _ _ _ _ _ _ _ _ _ _ _ _ _ _ _ _ _ _ _ _ _ _ _ _ _ _ _ _ _ _ _ _ _ _ _ _ _ _ _ _ _ _ _ _ _ _ _ _ _ _ _ _ _ _ _ _ _ _ _ _ _ _ _ _ _ _
theorem rs_6 (op nm tx:List UInt8) (v:Int) (w:World) (A:Option Addr) (n c:Nat) (hn:n<=1073741824) (P:Nat->Prop) (xs:List Ex) (hI:SndE xs) (hRd:RdE w P (.slice A n c) xs) (R:Bool)
  (hQ:((op==[45]||op==[33])&&okL xs&&(op==op&&nm==[]&&tx==[]&&v==0)&&(decide (1<=(n:Int))&&decide ((n:Int)<=1)))=R):
  Calls prog 96 #[.agg #[.int .i64 6, .string (str op), .string (str nm), .string (str tx), .int .i64 v, .slice A n c]] w fun e w'=>e= .returned (.bool R)/\Ext w w':=by
 have hne:w.heap.size≠w.heap.size+1:=by omega
 have HB:=hide ((Blk.new w 49 #[.int .i64 6, .string (str op), .string (str nm), .string (str tx), .int .i64 v, .slice A n c]).ext (Ext.alloc _ (.cells #[.int .i64 6, .string (str op), .string ⟨#[]⟩, .string ⟨#[]⟩, .int .i64 0, .slice none 0 0] 49)));have HW:=hide (Blk.new2 w (.cells #[.int .i64 6, .string (str op), .string (str nm), .string (str tx), .int .i64 v, .slice A n c] 49) 49 #[.int .i64 6, .string (str op), .string ⟨#[]⟩, .string ⟨#[]⟩, .int .i64 0, .slice none 0 0]);have HX:=hide ((Ext.alloc w (.cells #[.int .i64 6, .string (str op), .string (str nm), .string (str tx), .int .i64 v, .slice A n c] 49)).trans (Ext.alloc _ (.cells #[.int .i64 6, .string (str op), .string ⟨#[]⟩, .string ⟨#[]⟩, .int .i64 0, .slice none 0 0] 49)));have HR:=hide (hRd.keep (.of_ext HX.out) (Q:=P) (fun _ hb _=>hb));have HI:=hide hI;clear hI hRd
 cases h1:(op==[45])with
 |true=>
  rw[show(op==[45]||op==[33])=true by rw[h1];rfl]at hQ;have HQ:=hide hQ;clear hQ;go_enter func96,ntmps96;go_wp2_with fail;exact rs_suf _ _ 6 v 0 1 1 op nm tx op [] [] A n c true _ _ P xs HI.out HX.out hne hn HB.out HW.out HR.out R HQ.out _ (by assumption) _ _ _ _ _ _ _ _ _ _ _ _ _ _ _ _ _ _ _ _ _ _ _ _ _ _ _ _ _ _ _ _ _ _ _ _ _ _ _ _ _ _ _ _ _ _ _ _ _ _ _ _ _ _ _ _ _ _ _ _ _ _ _ _ _ _ _ _ _ _ _ _ _ _ _ _ _ _ _ _ _ _ _ _ _ _ _ _ _ _ _ _ _ _ _ _ _ _ _ _ _ _ _ _ _ _ _ _ _ _ _ _ _ _ _ _ _ _ _ _ _ _ _ _ _
 |false=>
  cases h2:(op==[33])with
  |true=>
   rw[show(op==[45]||op==[33])=true by rw[h1,h2];rfl]at hQ;have HQ:=hide hQ;clear hQ;go_enter func96,ntmps96;go_wp2_with fail;exact rs_suf _ _ 6 v 0 1 1 op nm tx op [] [] A n c true _ _ P xs HI.out HX.out hne hn HB.out HW.out HR.out R HQ.out _ (by assumption) _ _ _ _ _ _ _ _ _ _ _ _ _ _ _ _ _ _ _ _ _ _ _ _ _ _ _ _ _ _ _ _ _ _ _ _ _ _ _ _ _ _ _ _ _ _ _ _ _ _ _ _ _ _ _ _ _ _ _ _ _ _ _ _ _ _ _ _ _ _ _ _ _ _ _ _ _ _ _ _ _ _ _ _ _ _ _ _ _ _ _ _ _ _ _ _ _ _ _ _ _ _ _ _ _ _ _ _ _ _ _ _ _ _ _ _ _ _ _ _ _ _ _ _ _
  |false=>
   rw[show(op==[45]||op==[33])=false by rw[h1,h2];rfl]at hQ;have HQ:=hide hQ;clear hQ;go_enter func96,ntmps96;go_wp2_with fail;exact rs_suf _ _ 6 v 0 1 1 op nm tx op [] [] A n c false _ _ P xs HI.out HX.out hne hn HB.out HW.out HR.out R HQ.out _ (by assumption) _ _ _ _ _ _ _ _ _ _ _ _ _ _ _ _ _ _ _ _ _ _ _ _ _ _ _ _ _ _ _ _ _ _ _ _ _ _ _ _ _ _ _ _ _ _ _ _ _ _ _ _ _ _ _ _ _ _ _ _ _ _ _ _ _ _ _ _ _ _ _ _ _ _ _ _ _ _ _ _ _ _ _ _ _ _ _ _ _ _ _ _ _ _ _ _ _ _ _ _ _ _ _ _ _ _ _ _ _ _ _ _ _ _ _ _ _ _ _ _ _ _ _ _ _
theorem rs_7 (op nm tx:List UInt8) (v:Int) (w:World) (A:Option Addr) (n c:Nat) (hn:n<=1073741824) (P:Nat->Prop) (xs:List Ex) (hI:SndE xs) (hRd:RdE w P (.slice A n c) xs) (R:Bool)
  (hQ:(decide (0<lev op)&&okL xs&&(op==op&&nm==[]&&tx==[]&&v==0)&&(decide (2<=(n:Int))&&decide ((n:Int)<=2)))=R):
  Calls prog 96 #[.agg #[.int .i64 7, .string (str op), .string (str nm), .string (str tx), .int .i64 v, .slice A n c]] w fun e w'=>e= .returned (.bool R)/\Ext w w':=by
 have hne:w.heap.size≠w.heap.size+1:=by omega
 have HB:=hide ((Blk.new w 49 #[.int .i64 7, .string (str op), .string (str nm), .string (str tx), .int .i64 v, .slice A n c]).ext (Ext.alloc _ (.cells #[.int .i64 7, .string (str op), .string ⟨#[]⟩, .string ⟨#[]⟩, .int .i64 0, .slice none 0 0] 49)));have HW:=hide (Blk.new2 w (.cells #[.int .i64 7, .string (str op), .string (str nm), .string (str tx), .int .i64 v, .slice A n c] 49) 49 #[.int .i64 7, .string (str op), .string ⟨#[]⟩, .string ⟨#[]⟩, .int .i64 0, .slice none 0 0]);have HX:=hide ((Ext.alloc w (.cells #[.int .i64 7, .string (str op), .string (str nm), .string (str tx), .int .i64 v, .slice A n c] 49)).trans (Ext.alloc _ (.cells #[.int .i64 7, .string (str op), .string ⟨#[]⟩, .string ⟨#[]⟩, .int .i64 0, .slice none 0 0] 49)));have HR:=hide (hRd.keep (.of_ext HX.out) (Q:=P) (fun _ hb _=>hb));have HI:=hide hI;clear hI hRd;have HC:=hide (rprec_any op);have HQ:=hide hQ;clear hQ;generalize lev op=z at*;go_enter func96,ntmps96;go_wp2_with (go_at_call 23;refine(HC.out _).mono ?_;rintro e w3 ⟨rfl,rfl⟩;clear HC);exact rs_suf _ _ 7 v 0 2 2 op nm tx op [] [] A n c (decide (0<z)) _ _ P xs HI.out HX.out hne hn HB.out HW.out HR.out R HQ.out _ (by assumption) _ _ _ _ _ _ _ _ _ _ _ _ _ _ _ _ _ _ _ _ _ _ _ _ _ _ _ _ _ _ _ _ _ _ _ _ _ _ _ _ _ _ _ _ _ _ _ _ _ _ _ _ _ _ _ _ _ _ _ _ _ _ _ _ _ _ _ _ _ _ _ _ _ _ _ _ _ _ _ _ _ _ _ _ _ _ _ _ _ _ _ _ _ _ _ _ _ _ _ _ _ _ _ _ _ _ _ _ _ _ _ _ _ _ _ _ _ _ _ _ _ _ _ _ _
theorem rs_0 (k:Int) (hk: ∀i:Int,1<=i->i<=7->k≠i) (op nm tx:List UInt8) (v:Int) (w:World) (A:Option Addr) (n c:Nat):
  Calls prog 96 #[.agg #[.int .i64 k, .string (str op), .string (str nm), .string (str tx), .int .i64 v, .slice A n c]] w fun e w'=>e= .returned (.bool false)/\Ext w w':=by
 have e1:(k==1)=false:=beq_eq_false_iff_ne.2 (hk 1 (by decide) (by decide));have e2:(k==2)=false:=beq_eq_false_iff_ne.2 (hk 2 (by decide) (by decide));have e3:(k==3)=false:=beq_eq_false_iff_ne.2 (hk 3 (by decide) (by decide));have e4:(k==4)=false:=beq_eq_false_iff_ne.2 (hk 4 (by decide) (by decide));have e5:(k==5)=false:=beq_eq_false_iff_ne.2 (hk 5 (by decide) (by decide));have e6:(k==6)=false:=beq_eq_false_iff_ne.2 (hk 6 (by decide) (by decide));have e7:(k==7)=false:=beq_eq_false_iff_ne.2 (hk 7 (by decide) (by decide));have HE:=hide ((Ext.alloc w (.cells #[.int .i64 k, .string (str op), .string (str nm), .string (str tx), .int .i64 v, .slice A n c] 49)).trans (Ext.alloc _ (.cells #[.int .i64 k, .string ⟨#[]⟩, .string ⟨#[]⟩, .string ⟨#[]⟩, .int .i64 0, .slice none 0 0] 49)));clear hk;go_enter func96,ntmps96;go_wp2_with fail;go_ret;exact⟨rfl,HE.out⟩
theorem rsound_any: ∀(m:Nat) (x:Ex),x.wt<=m->x.wt<=1073741824-> ∀(P:Nat->Prop) (w:World) (A:Option Addr) (n c:Nat),RdE w P (.slice A n c) x.args->
  Calls prog 96 #[.agg #[.int .i64 x.k, .string (str x.op), .string (str x.nm), .string (str x.tx), .int .i64 x.v, .slice A n c]] w fun e w'=>e= .returned (.bool x.ok)/\Ext w w'
 |0,x,hm,_,_,_,_,_,_,_=>absurd hm (by have:=x.wt_eq;omega)
 |m+1,x,hm,hx,P,w,A,n,c,hR=>by
  have hw:=x.wt_eq;have hnl:=wtL_length x.args;have hlen:=hR.len;have hI:SndE x.args:=fun y hy P2 w2 A2 n2 c2 hR2=>by
   have hyw:=wtL_mem hy;exact rsound_any m y (by omega) (by omega) P2 w2 A2 n2 c2 hR2
  have hn:n<=1073741824:=by omega
  obtain⟨k,op,nm,tx,v,xs⟩:=x;simp only[Ex.k,Ex.op,Ex.nm,Ex.tx,Ex.v,Ex.args]at*;rw[Ex.ok,<-hlen];have s0:=rsn0 n;have s1:=rsn1 n;have s2:=rsn2 n;have s4:=rsn4 n;by_cases h1:k=1
  ·subst h1;refine rs_1 op nm tx v w A n c hn P xs hI hR _ ?_;rw[if_pos rfl,s0];simp only[beq_self_eq_true,Bool.true_and,Bool.and_true]
   ac_rfl
  by_cases h2:k=2
  ·subst h2;refine rs_2 op nm tx v w A n c hn P xs hI hR (by omega) _ ?_;rw[if_neg h1,if_pos rfl,s0];simp only[beq_self_eq_true,Bool.true_and,Bool.and_true]
   ac_rfl
  by_cases h3:k=3
  ·subst h3;refine rs_3 op nm tx v w A n c hn P xs hI hR (by omega) _ ?_;rw[if_neg h1,if_neg h2,if_pos rfl,s0];simp only[beq_self_eq_true,Bool.true_and,Bool.and_true]
   ac_rfl
  by_cases h4:k=4
  ·subst h4;refine rs_4 op nm tx v w A n c hn P xs hI hR (by omega) _ ?_;rw[if_neg h1,if_neg h2,if_neg h3,if_pos rfl,s1];simp only[beq_self_eq_true,Bool.true_and,Bool.and_true]
   ac_rfl
  by_cases h5:k=5
  ·subst h5;refine rs_5 op nm tx v w A n c hn P xs hI hR (by omega) _ ?_;rw[if_neg h1,if_neg h2,if_neg h3,if_neg h4,if_pos rfl,s4];simp only[beq_self_eq_true,Bool.true_and,Bool.and_true]
   ac_rfl
  by_cases h6:k=6
  ·subst h6;refine rs_6 op nm tx v w A n c hn P xs hI hR _ ?_;rw[if_neg h1,if_neg h2,if_neg h3,if_neg h4,if_neg h5,if_pos rfl,s1];simp only[beq_self_eq_true,Bool.true_and,Bool.and_true]
   ac_rfl
  by_cases h7:k=7
  ·subst h7;refine rs_7 op nm tx v w A n c hn P xs hI hR _ ?_;rw[if_neg h1,if_neg h2,if_neg h3,if_neg h4,if_neg h5,if_neg h6,if_pos rfl,s2];simp only[beq_self_eq_true,Bool.true_and,Bool.and_true]
   ac_rfl
  rw[if_neg h1,if_neg h2,if_neg h3,if_neg h4,if_neg h5,if_neg h6,if_neg h7];exact rs_0 k (fun i hi hj=>by omega) op nm tx v w A n c
end Go.Proofs.YtelplgkppalmfaaGreatDoor
namespace Go.Proofs.YtelplgkppalmfaaGreatDoor
open Go.Proofs.Tryz
open Go.RowKit
theorem enc_dig (d:Nat) (h:d<10):Utf8.encode (48+(d:Int))=str [UInt8.ofNat (48+d)]:=by
 have hc:d=0\/d=1\/d=2\/d=3\/d=4\/d=5\/d=6\/d=7\/d=8\/d=9:=by omega
 rcases hc with rfl|rfl|rfl|rfl|rfl|rfl|rfl|rfl|rfl|rfl<;>rfl
theorem rdigits_any: ∀(k n:Nat) (w:World),n<10^(k+1)->n<=2147483647->Calls prog 56 #[.int .i64 (n:Int)] w fun e w'=>e= .returned (.string (str (decL n)))/\w=w':=by
 intro k
 induction k with
 |zero=>
  intro n w hn hm;have hn:n<10:=by simpa using hn
  have hn':(n:Int)<10:=by omega
  have he:=enc_dig n hn;have HD:=hide (show decL n=[UInt8.ofNat (48+n)] by rw[decL,if_pos hn]);generalize UInt8.ofNat (48+n)=y at*;go_enter func56,ntmps56;go_wp2_with fail;go_ret;exact⟨by rw[HD.out];rfl,rfl⟩
 |succ k ih=>
  intro n w hn hm;by_cases hn10:n<10
  ·have hn':(n:Int)<10:=by omega
   have he:=enc_dig n hn10;have HD:=hide (show decL n=[UInt8.ofNat (48+n)] by rw[decL,if_pos hn10]);generalize UInt8.ofNat (48+n)=y at*;clear ih;go_enter func56,ntmps56;go_wp2_with fail;go_ret;exact⟨by rw[HD.out];rfl,rfl⟩
  ·have hn': ¬(n:Int)<10:=by omega
   have HI:=hide (ih (n/10) w (by rw[Nat.pow_succ]at hn;omega) (by omega));have hq:((n/10:Nat):Int)=(n:Int)/10:=by omega
   rw[hq]at HI;have he:=enc_dig (n%10) (Nat.mod_lt _ (by omega));have hr:((n%10:Nat):Int)=(n:Int)%10:=by omega
   rw[hr]at he;have HD:=hide (show decL n=decL (n/10)++[UInt8.ofNat (48+n%10)] by rw[decL,if_neg hn10]);have hlen:=decL_length 9 (n/10) (by omega);generalize decL (n/10)=x at*;generalize UInt8.ofNat (48+n%10)=y at*;have hsx:(str x).size=x.length:=str_size x;have hsy:(str [y]).size=1:=rfl;have hxy:str x++str [y]=str (x++[y]):=str_app x [y];clear ih hq hr;go_enter func56,ntmps56;go_wp2_with (go_at_call 56;refine HI.out.mono ?_;rintro e w' ⟨rfl,rfl⟩);go_ret;exact⟨by rw[HD.out];rfl,rfl⟩
end Go.Proofs.YtelplgkppalmfaaGreatDoor
