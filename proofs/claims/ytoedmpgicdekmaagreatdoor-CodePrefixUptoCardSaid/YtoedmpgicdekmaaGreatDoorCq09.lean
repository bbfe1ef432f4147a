/-
  Parts of the proof: VaH PrA.
-/
import Derived.Test.YtoedmpgicdekmaaGreatDoorCq00
import Derived.Test.YtoedmpgicdekmaaGreatDoorCq08
import Derived.Shelf.Strings.Builder1
set_option maxRecDepth 100000
set_option maxHeartbeats 8000000
set_option linter.unusedVariables false
set_option linter.unusedSimpArgs false
set_option linter.defProp false
set_option linter.unusedSectionVars false
namespace Go.Proofs.YtoedmpgicdekmaaGreatDoor
open Go.Proofs.Tryz
section
open Go.RowKit
def CZ (w:World) (A:Option Addr) (n c:Nat) (r:Bool):Prop:= ∀w',au w w'->Calls prog 113 #[.slice A n c, .func (Fn.func 114) #[] #[]] w' fun e w''=>e= .returned (.bool (!r))/\au w' w''
def CY (w:World) (B C:Option Addr) (nb cb nl cl:Nat) (r:Bool):Prop:= ∀w' g,au w w'->aP w' g 78 #[.slice B nb cb, .slice C nl cl]->
 Calls prog 112 #[.slice (some ⟨g,0,none⟩) 2 2] w' fun e w''=> ∃D k,e= .returned (.slice D (nb+nl) k)/\au w' w''/\ ∀w3,au w'' w3->
  Calls prog 116 #[.slice D (nb+nl) k, .func (Fn.func 117) #[] #[]] w3 fun e w4=>e= .returned (.bool (!r))/\au w3 w4
theorem FJ (nm:List UInt8) (w:World) (A B C:Option Addr) (n c nb cb nl cl:Nat) (hn:n+nb+nl<=1073741824) (hl:nm.length<=1073741824) (r r2:Bool) (hC:CZ w A n c r) (hS:CY w B C nb cb nl cl r2):
  Calls prog 61 #[.agg #[.int .i64 1, .string (an nm), .slice A n c, .slice B nb cb, .slice C nl cl]] w fun e w'=>e= .returned (.bool ((dV nm&&decide (n<=1)&&nb==0&&nl==0)&&r&&r2))/\au w w':=by
 have hz1:(n:Int)<=1073741824:=by omega
 have hz2:(nb:Int)<=1073741824:=by omega
 have hz3:(nl:Int)<=1073741824:=by omega
 have HB:=G (aw w 147 #[.int .i64 1, .string (an nm), .slice A n c, .slice B nb cb, .slice C nl cl]);have HE0:=G (aa w (.cells #[.int .i64 1, .string (an nm), .slice A n c, .slice B nb cb, .slice C nl cl] 147));have HC:=G hC;have HS:=G hS;have HI:=G (df nm hl);generalize hR:(_&& _&& _:Bool)=R;have HR:=G hR;clear hC hS hR;generalize dV nm=b at*;go_enter func61,ntmps61;go_wp2_with fail;refine cG 11 3 [(2,fun v=>v= .bool b,fun _ _=>True)] [] [3,4,5,6,7,8,9,10] mixed (by kernel_rfl) (by kernel_rfl) (by kernel_rfl) (by rfl) ⟨fun _ _ _ _ _=>trivial,trivial⟩ (fun i hi=>by simp at hi) ?_;repeat (refine sx ?_ (fun w1 hU=> ?_) ?_;rotate_left;(focus have f1:=(HB.out.ext hU.un).cell;clear hU;go_simp<;>with_reducible rfl);simp only[bH,bG,bF,bE,bD])
 refine so (fun w6 hU hp K hK=> ?_) ?_
 ·clear hp hU;go_simp;refine(HI.out w6).mono ?_;rintro e w7 ⟨rfl,rfl⟩;exact hK _ _ (aG _) rfl trivial
 rintro _ rfl;simp only[bH,bG,bF,bE,bD];repeat (refine sx ?_ (fun w1 hU=> ?_) ?_;rotate_left;(focus have f1:=(HB.out.ext hU.un).cell;clear hU;go_simp<;>with_reducible rfl);simp only[bH,bG,bF,bE,bD])
 intro w2 hw2 hp hpair;clear hp hpair;simp only[ac,aq];refine aH (by rfl) (by simp) (fun K hK=> ?_);go_simp;refine hK _ _ hw2 ?_;clear hK;refine aH (by rfl) (by simp) (fun K hK=> ?_);go_simp;refine hK _ _ hw2 ?_;clear hK;refine aH (by rfl) (by simp) (fun K hK=> ?_);go_simp;refine hK _ _ hw2 ?_;clear hK;refine b_ ?_;have HB2:=G (HB.out.ext hw2.un);have HX2:=G (HE0.out.trans hw2.un);have hbc:=HB2.out.cell;clear hw2 HB HE0 HI
 cases b with
 |false=>
  have e0:=G (show R=false from by rw[<-HR.out];rfl);go_wp2_with fail;go_ret;exact⟨by rw[e0.out];rfl,HX2.out⟩
 |true=>
  by_cases h1:n<=1
  rotate_left
  ·have h1i: ¬(n:Int)<=1:=by omega
   have e0:=G (show R=false from by rw[<-HR.out];simp[h1]);go_wp2_with fail;go_ret;exact⟨by rw[e0.out];rfl,HX2.out⟩
  ·have h1i:(n:Int)<=1:=by omega
   generalize hxnb:decide (0<nb)=xnb at*
   cases xnb with
   |true=>
    have hnbn: ¬nb=0:=by have:=of_decide_eq_true hxnb;omega
    have e0:=G (show R=false from by rw[<-HR.out];simp[h1,hnbn]);go_wp2_with fail;go_ret;exact⟨by rw[e0.out];rfl,HX2.out⟩
   |false=>
    obtain rfl:nb=0:=by have:=of_decide_eq_false hxnb;omega
    clear hxnb;generalize hxnl:decide (0<nl)=xnl at*
    cases xnl with
    |true=>
     have hnln: ¬nl=0:=by have:=of_decide_eq_true hxnl;omega
     have e0:=G (show R=false from by rw[<-HR.out];simp[h1,hnln]);go_wp2_with fail;go_ret;exact⟨by rw[e0.out];rfl,HX2.out⟩
    |false=>
     obtain rfl:nl=0:=by have:=of_decide_eq_false hxnl;omega
     clear hxnl
     cases r with
     |false=>
      have e0:=G (show R=false from by rw[<-HR.out];simp);go_wp2_with (go_at_call 113;refine(HC.out _ HX2.out).mono ?_;rintro e w4 ⟨rfl,hE⟩;have HY:=G (HX2.out.trans hE);clear hE);go_ret;exact⟨by rw[e0.out];rfl,HY.out⟩
     |true=>
      have e0:=G (show R=r2 from by rw[<-HR.out];simp[h1]);go_wp2_with (first|(go_at_call 113;refine(HC.out _ HX2.out).mono ?_;rintro e w4 ⟨rfl,hE⟩;have HY:=G (HX2.out.trans hE);have hb4:=(HB2.out.ext hE).cell;clear hE HC)|(go_at_call 112;refine(HS.out _ _ (HY.out.alloc' _) (aw w4 _ _)).mono ?_;rintro e w5 ⟨D,k5,rfl,hE5,hK5⟩;have HY5:=G ((HY.out.alloc' _).trans hE5);have HK5:=G (hK5 w5 (aG _));clear hE5 hK5)|(go_at_call 116;refine HK5.out.mono ?_;rintro e w6 ⟨rfl,hE6⟩;have HY6:=G (HY5.out.trans hE6);clear hE6));go_ret;exact⟨by rw[e0.out];rfl,HY6.out⟩
theorem FI (nm:List UInt8) (w:World) (A B C:Option Addr) (n c nb cb nl cl:Nat) (hn:n+nb+nl<=1073741824) (hl:nm.length<=1073741824) (r r2:Bool) (hC:CZ w A n c r) (hS:CY w B C nb cb nl cl r2):
  Calls prog 61 #[.agg #[.int .i64 2, .string (an nm), .slice A n c, .slice B nb cb, .slice C nl cl]] w fun e w'=>e= .returned (.bool ((dV nm&&n==1&&nb==0&&nl==0)&&r&&r2))/\au w w':=by
 have hz1:(n:Int)<=1073741824:=by omega
 have hz2:(nb:Int)<=1073741824:=by omega
 have hz3:(nl:Int)<=1073741824:=by omega
 have HB:=G (aw w 147 #[.int .i64 2, .string (an nm), .slice A n c, .slice B nb cb, .slice C nl cl]);have HE0:=G (aa w (.cells #[.int .i64 2, .string (an nm), .slice A n c, .slice B nb cb, .slice C nl cl] 147));have HC:=G hC;have HS:=G hS;have HI:=G (df nm hl);generalize hR:(_&& _&& _:Bool)=R;have HR:=G hR;clear hC hS hR;generalize dV nm=b at*;go_enter func61,ntmps61;go_wp2_with fail;refine cG 11 3 [(2,fun v=>v= .bool b,fun _ _=>True)] [] [3,4,5,6,7,8,9,10] mixed (by kernel_rfl) (by kernel_rfl) (by kernel_rfl) (by rfl) ⟨fun _ _ _ _ _=>trivial,trivial⟩ (fun i hi=>by simp at hi) ?_;repeat (refine sx ?_ (fun w1 hU=> ?_) ?_;rotate_left;(focus have f1:=(HB.out.ext hU.un).cell;clear hU;go_simp<;>with_reducible rfl);simp only[bH,bG,bF,bE,bD])
 refine so (fun w6 hU hp K hK=> ?_) ?_
 ·clear hp hU;go_simp;refine(HI.out w6).mono ?_;rintro e w7 ⟨rfl,rfl⟩;exact hK _ _ (aG _) rfl trivial
 rintro _ rfl;simp only[bH,bG,bF,bE,bD];repeat (refine sx ?_ (fun w1 hU=> ?_) ?_;rotate_left;(focus have f1:=(HB.out.ext hU.un).cell;clear hU;go_simp<;>with_reducible rfl);simp only[bH,bG,bF,bE,bD])
 intro w2 hw2 hp hpair;clear hp hpair;simp only[ac,aq];refine aH (by rfl) (by simp) (fun K hK=> ?_);go_simp;refine hK _ _ hw2 ?_;clear hK;refine aH (by rfl) (by simp) (fun K hK=> ?_);go_simp;refine hK _ _ hw2 ?_;clear hK;refine aH (by rfl) (by simp) (fun K hK=> ?_);go_simp;refine hK _ _ hw2 ?_;clear hK;refine b_ ?_;have HB2:=G (HB.out.ext hw2.un);have HX2:=G (HE0.out.trans hw2.un);have hbc:=HB2.out.cell;clear hw2 HB HE0 HI
 cases b with
 |false=>
  have e0:=G (show R=false from by rw[<-HR.out];rfl);go_wp2_with fail;go_ret;exact⟨by rw[e0.out];rfl,HX2.out⟩
 |true=>
  by_cases h1:n=1
  rotate_left
  ·have h1i:((n:Int)==1)=false:=by rw[beq_eq_false_iff_ne];omega
   have e0:=G (show R=false from by rw[<-HR.out];simp[h1]);go_wp2_with fail;go_ret;exact⟨by rw[e0.out];rfl,HX2.out⟩
  ·subst h1;generalize hxnb:decide (0<nb)=xnb at*
   cases xnb with
   |true=>
    have hnbn: ¬nb=0:=by have:=of_decide_eq_true hxnb;omega
    have e0:=G (show R=false from by rw[<-HR.out];simp[hnbn]);go_wp2_with fail;go_ret;exact⟨by rw[e0.out];rfl,HX2.out⟩
   |false=>
    obtain rfl:nb=0:=by have:=of_decide_eq_false hxnb;omega
    clear hxnb;generalize hxnl:decide (0<nl)=xnl at*
    cases xnl with
    |true=>
     have hnln: ¬nl=0:=by have:=of_decide_eq_true hxnl;omega
     have e0:=G (show R=false from by rw[<-HR.out];simp[hnln]);go_wp2_with fail;go_ret;exact⟨by rw[e0.out];rfl,HX2.out⟩
    |false=>
     obtain rfl:nl=0:=by have:=of_decide_eq_false hxnl;omega
     clear hxnl
     cases r with
     |false=>
      have e0:=G (show R=false from by rw[<-HR.out];simp);go_wp2_with (go_at_call 113;refine(HC.out _ HX2.out).mono ?_;rintro e w4 ⟨rfl,hE⟩;have HY:=G (HX2.out.trans hE);clear hE);go_ret;exact⟨by rw[e0.out];rfl,HY.out⟩
     |true=>
      have e0:=G (show R=r2 from by rw[<-HR.out];simp[]);go_wp2_with (first|(go_at_call 113;refine(HC.out _ HX2.out).mono ?_;rintro e w4 ⟨rfl,hE⟩;have HY:=G (HX2.out.trans hE);have hb4:=(HB2.out.ext hE).cell;clear hE HC)|(go_at_call 112;refine(HS.out _ _ (HY.out.alloc' _) (aw w4 _ _)).mono ?_;rintro e w5 ⟨D,k5,rfl,hE5,hK5⟩;have HY5:=G ((HY.out.alloc' _).trans hE5);have HK5:=G (hK5 w5 (aG _));clear hE5 hK5)|(go_at_call 116;refine HK5.out.mono ?_;rintro e w6 ⟨rfl,hE6⟩;have HY6:=G (HY5.out.trans hE6);clear hE6));go_ret;exact⟨by rw[e0.out];rfl,HY6.out⟩
theorem FH (nm:List UInt8) (w:World) (A B C:Option Addr) (n c nb cb nl cl:Nat) (hn:n+nb+nl<=1073741824) (hl:nm.length<=1073741824) (r r2:Bool) (hC:CZ w A n c r) (hS:CY w B C nb cb nl cl r2):
  Calls prog 61 #[.agg #[.int .i64 3, .string (an nm), .slice A n c, .slice B nb cb, .slice C nl cl]] w fun e w'=>e= .returned (.bool ((dV nm&&n==2&&nb==0&&nl==0)&&r&&r2))/\au w w':=by
 have hz1:(n:Int)<=1073741824:=by omega
 have hz2:(nb:Int)<=1073741824:=by omega
 have hz3:(nl:Int)<=1073741824:=by omega
 have HB:=G (aw w 147 #[.int .i64 3, .string (an nm), .slice A n c, .slice B nb cb, .slice C nl cl]);have HE0:=G (aa w (.cells #[.int .i64 3, .string (an nm), .slice A n c, .slice B nb cb, .slice C nl cl] 147));have HC:=G hC;have HS:=G hS;have HI:=G (df nm hl);generalize hR:(_&& _&& _:Bool)=R;have HR:=G hR;clear hC hS hR;generalize dV nm=b at*;go_enter func61,ntmps61;go_wp2_with fail;refine cG 11 3 [(2,fun v=>v= .bool b,fun _ _=>True)] [] [3,4,5,6,7,8,9,10] mixed (by kernel_rfl) (by kernel_rfl) (by kernel_rfl) (by rfl) ⟨fun _ _ _ _ _=>trivial,trivial⟩ (fun i hi=>by simp at hi) ?_;repeat (refine sx ?_ (fun w1 hU=> ?_) ?_;rotate_left;(focus have f1:=(HB.out.ext hU.un).cell;clear hU;go_simp<;>with_reducible rfl);simp only[bH,bG,bF,bE,bD])
 refine so (fun w6 hU hp K hK=> ?_) ?_
 ·clear hp hU;go_simp;refine(HI.out w6).mono ?_;rintro e w7 ⟨rfl,rfl⟩;exact hK _ _ (aG _) rfl trivial
 rintro _ rfl;simp only[bH,bG,bF,bE,bD];repeat (refine sx ?_ (fun w1 hU=> ?_) ?_;rotate_left;(focus have f1:=(HB.out.ext hU.un).cell;clear hU;go_simp<;>with_reducible rfl);simp only[bH,bG,bF,bE,bD])
 intro w2 hw2 hp hpair;clear hp hpair;simp only[ac,aq];refine aH (by rfl) (by simp) (fun K hK=> ?_);go_simp;refine hK _ _ hw2 ?_;clear hK;refine aH (by rfl) (by simp) (fun K hK=> ?_);go_simp;refine hK _ _ hw2 ?_;clear hK;refine aH (by rfl) (by simp) (fun K hK=> ?_);go_simp;refine hK _ _ hw2 ?_;clear hK;refine b_ ?_;have HB2:=G (HB.out.ext hw2.un);have HX2:=G (HE0.out.trans hw2.un);have hbc:=HB2.out.cell;clear hw2 HB HE0 HI
 cases b with
 |false=>
  have e0:=G (show R=false from by rw[<-HR.out];rfl);go_wp2_with fail;go_ret;exact⟨by rw[e0.out];rfl,HX2.out⟩
 |true=>
  by_cases h2:n=2
  rotate_left
  ·have h2i:((n:Int)==2)=false:=by rw[beq_eq_false_iff_ne];omega
   have e0:=G (show R=false from by rw[<-HR.out];simp[h2]);go_wp2_with fail;go_ret;exact⟨by rw[e0.out];rfl,HX2.out⟩
  ·subst h2;generalize hxnb:decide (0<nb)=xnb at*
   cases xnb with
   |true=>
    have hnbn: ¬nb=0:=by have:=of_decide_eq_true hxnb;omega
    have e0:=G (show R=false from by rw[<-HR.out];simp[hnbn]);go_wp2_with fail;go_ret;exact⟨by rw[e0.out];rfl,HX2.out⟩
   |false=>
    obtain rfl:nb=0:=by have:=of_decide_eq_false hxnb;omega
    clear hxnb;generalize hxnl:decide (0<nl)=xnl at*
    cases xnl with
    |true=>
     have hnln: ¬nl=0:=by have:=of_decide_eq_true hxnl;omega
     have e0:=G (show R=false from by rw[<-HR.out];simp[hnln]);go_wp2_with fail;go_ret;exact⟨by rw[e0.out];rfl,HX2.out⟩
    |false=>
     obtain rfl:nl=0:=by have:=of_decide_eq_false hxnl;omega
     clear hxnl
     cases r with
     |false=>
      have e0:=G (show R=false from by rw[<-HR.out];simp);go_wp2_with (go_at_call 113;refine(HC.out _ HX2.out).mono ?_;rintro e w4 ⟨rfl,hE⟩;have HY:=G (HX2.out.trans hE);clear hE);go_ret;exact⟨by rw[e0.out];rfl,HY.out⟩
     |true=>
      have e0:=G (show R=r2 from by rw[<-HR.out];simp[]);go_wp2_with (first|(go_at_call 113;refine(HC.out _ HX2.out).mono ?_;rintro e w4 ⟨rfl,hE⟩;have HY:=G (HX2.out.trans hE);have hb4:=(HB2.out.ext hE).cell;clear hE HC)|(go_at_call 112;refine(HS.out _ _ (HY.out.alloc' _) (aw w4 _ _)).mono ?_;rintro e w5 ⟨D,k5,rfl,hE5,hK5⟩;have HY5:=G ((HY.out.alloc' _).trans hE5);have HK5:=G (hK5 w5 (aG _));clear hE5 hK5)|(go_at_call 116;refine HK5.out.mono ?_;rintro e w6 ⟨rfl,hE6⟩;have HY6:=G (HY5.out.trans hE6);clear hE6));go_ret;exact⟨by rw[e0.out];rfl,HY6.out⟩
theorem FG (nm:List UInt8) (w:World) (A B C:Option Addr) (n c nb cb nl cl:Nat) (hn:n+nb+nl<=1073741824) (hl:nm.length<=1073741824) (r r2:Bool) (hC:CZ w A n c r) (hS:CY w B C nb cb nl cl r2):
  Calls prog 61 #[.agg #[.int .i64 4, .string (an nm), .slice A n c, .slice B nb cb, .slice C nl cl]] w fun e w'=>e= .returned (.bool ((nm==[]&&n==1)&&r&&r2))/\au w w':=by
 have hz1:(n:Int)<=1073741824:=by omega
 have hz2:(nb:Int)<=1073741824:=by omega
 have hz3:(nl:Int)<=1073741824:=by omega
 have HB:=G (aw w 147 #[.int .i64 4, .string (an nm), .slice A n c, .slice B nb cb, .slice C nl cl]);have HE0:=G (aa w (.cells #[.int .i64 4, .string (an nm), .slice A n c, .slice B nb cb, .slice C nl cl] 147));have HC:=G hC;have HS:=G hS;have HI:=G (df nm hl);generalize hR:(_&& _&& _:Bool)=R;have HR:=G hR;clear hC hS hR;generalize dV nm=b at*;go_enter func61,ntmps61;go_wp2_with fail;refine cG 11 3 [(2,fun v=>v= .bool b,fun _ _=>True)] [] [3,4,5,6,7,8,9,10] mixed (by kernel_rfl) (by kernel_rfl) (by kernel_rfl) (by rfl) ⟨fun _ _ _ _ _=>trivial,trivial⟩ (fun i hi=>by simp at hi) ?_;repeat (refine sx ?_ (fun w1 hU=> ?_) ?_;rotate_left;(focus have f1:=(HB.out.ext hU.un).cell;clear hU;go_simp<;>with_reducible rfl);simp only[bH,bG,bF,bE,bD])
 refine so (fun w6 hU hp K hK=> ?_) ?_
 ·clear hp hU;go_simp;refine(HI.out w6).mono ?_;rintro e w7 ⟨rfl,rfl⟩;exact hK _ _ (aG _) rfl trivial
 rintro _ rfl;simp only[bH,bG,bF,bE,bD];repeat (refine sx ?_ (fun w1 hU=> ?_) ?_;rotate_left;(focus have f1:=(HB.out.ext hU.un).cell;clear hU;go_simp<;>with_reducible rfl);simp only[bH,bG,bF,bE,bD])
 intro w2 hw2 hp hpair;clear hp hpair;simp only[ac,aq];refine aH (by rfl) (by simp) (fun K hK=> ?_);go_simp;refine hK _ _ hw2 ?_;clear hK;refine aH (by rfl) (by simp) (fun K hK=> ?_);go_simp;refine hK _ _ hw2 ?_;clear hK;refine aH (by rfl) (by simp) (fun K hK=> ?_);go_simp;refine hK _ _ hw2 ?_;clear hK;refine b_ ?_;have HB2:=G (HB.out.ext hw2.un);have HX2:=G (HE0.out.trans hw2.un);have hbc:=HB2.out.cell;clear hw2 HB HE0 HI
 cases hnm:(nm==[])with
 |false=>
  have e0:=G (show R=false from by rw[<-HR.out];simp[hnm]);go_wp2_with fail;go_ret;exact⟨by rw[e0.out];rfl,HX2.out⟩
 |true=>
  by_cases h1:n=1
  rotate_left
  ·have h1i:((n:Int)==1)=false:=by rw[beq_eq_false_iff_ne];omega
   have e0:=G (show R=false from by rw[<-HR.out];simp[hnm,h1]);go_wp2_with fail;go_ret;exact⟨by rw[e0.out];rfl,HX2.out⟩
  ·subst h1
   cases r with
   |false=>
    have e0:=G (show R=false from by rw[<-HR.out];simp);go_wp2_with (go_at_call 113;refine(HC.out _ HX2.out).mono ?_;rintro e w4 ⟨rfl,hE⟩;have HY:=G (HX2.out.trans hE);clear hE);go_ret;exact⟨by rw[e0.out];rfl,HY.out⟩
   |true=>
    have e0:=G (show R=r2 from by rw[<-HR.out];simp[hnm]);go_wp2_with (first|(go_at_call 113;refine(HC.out _ HX2.out).mono ?_;rintro e w4 ⟨rfl,hE⟩;have HY:=G (HX2.out.trans hE);have hb4:=(HB2.out.ext hE).cell;clear hE HC)|(go_at_call 112;refine(HS.out _ _ (HY.out.alloc' _) (aw w4 _ _)).mono ?_;rintro e w5 ⟨D,k5,rfl,hE5,hK5⟩;have HY5:=G ((HY.out.alloc' _).trans hE5);have HK5:=G (hK5 w5 (aG _));clear hE5 hK5)|(go_at_call 116;refine HK5.out.mono ?_;rintro e w6 ⟨rfl,hE6⟩;have HY6:=G (HY5.out.trans hE6);clear hE6));go_ret;exact⟨by rw[e0.out];rfl,HY6.out⟩
theorem FF (nm:List UInt8) (w:World) (A B C:Option Addr) (n c nb cb nl cl:Nat) (hn:n+nb+nl<=1073741824) (hl:nm.length<=1073741824) (r r2:Bool) (hC:CZ w A n c r) (hS:CY w B C nb cb nl cl r2):
  Calls prog 61 #[.agg #[.int .i64 5, .string (an nm), .slice A n c, .slice B nb cb, .slice C nl cl]] w fun e w'=>e= .returned (.bool ((nm==[]&&n==1&&nl==0)&&r&&r2))/\au w w':=by
 have hz1:(n:Int)<=1073741824:=by omega
 have hz2:(nb:Int)<=1073741824:=by omega
 have hz3:(nl:Int)<=1073741824:=by omega
 have HB:=G (aw w 147 #[.int .i64 5, .string (an nm), .slice A n c, .slice B nb cb, .slice C nl cl]);have HE0:=G (aa w (.cells #[.int .i64 5, .string (an nm), .slice A n c, .slice B nb cb, .slice C nl cl] 147));have HC:=G hC;have HS:=G hS;have HI:=G (df nm hl);generalize hR:(_&& _&& _:Bool)=R;have HR:=G hR;clear hC hS hR;generalize dV nm=b at*;go_enter func61,ntmps61;go_wp2_with fail;refine cG 11 3 [(2,fun v=>v= .bool b,fun _ _=>True)] [] [3,4,5,6,7,8,9,10] mixed (by kernel_rfl) (by kernel_rfl) (by kernel_rfl) (by rfl) ⟨fun _ _ _ _ _=>trivial,trivial⟩ (fun i hi=>by simp at hi) ?_;repeat (refine sx ?_ (fun w1 hU=> ?_) ?_;rotate_left;(focus have f1:=(HB.out.ext hU.un).cell;clear hU;go_simp<;>with_reducible rfl);simp only[bH,bG,bF,bE,bD])
 refine so (fun w6 hU hp K hK=> ?_) ?_
 ·clear hp hU;go_simp;refine(HI.out w6).mono ?_;rintro e w7 ⟨rfl,rfl⟩;exact hK _ _ (aG _) rfl trivial
 rintro _ rfl;simp only[bH,bG,bF,bE,bD];repeat (refine sx ?_ (fun w1 hU=> ?_) ?_;rotate_left;(focus have f1:=(HB.out.ext hU.un).cell;clear hU;go_simp<;>with_reducible rfl);simp only[bH,bG,bF,bE,bD])
 intro w2 hw2 hp hpair;clear hp hpair;simp only[ac,aq];refine aH (by rfl) (by simp) (fun K hK=> ?_);go_simp;refine hK _ _ hw2 ?_;clear hK;refine aH (by rfl) (by simp) (fun K hK=> ?_);go_simp;refine hK _ _ hw2 ?_;clear hK;refine aH (by rfl) (by simp) (fun K hK=> ?_);go_simp;refine hK _ _ hw2 ?_;clear hK;refine b_ ?_;have HB2:=G (HB.out.ext hw2.un);have HX2:=G (HE0.out.trans hw2.un);have hbc:=HB2.out.cell;clear hw2 HB HE0 HI
 cases hnm:(nm==[])with
 |false=>
  have e0:=G (show R=false from by rw[<-HR.out];simp[hnm]);go_wp2_with fail;go_ret;exact⟨by rw[e0.out];rfl,HX2.out⟩
 |true=>
  by_cases h1:n=1
  rotate_left
  ·have h1i:((n:Int)==1)=false:=by rw[beq_eq_false_iff_ne];omega
   have e0:=G (show R=false from by rw[<-HR.out];simp[hnm,h1]);go_wp2_with fail;go_ret;exact⟨by rw[e0.out];rfl,HX2.out⟩
  ·subst h1;generalize hxnl:decide (0<nl)=xnl at*
   cases xnl with
   |true=>
    have hnln: ¬nl=0:=by have:=of_decide_eq_true hxnl;omega
    have e0:=G (show R=false from by rw[<-HR.out];simp[hnm,hnln]);go_wp2_with fail;go_ret;exact⟨by rw[e0.out];rfl,HX2.out⟩
   |false=>
    obtain rfl:nl=0:=by have:=of_decide_eq_false hxnl;omega
    clear hxnl
    cases r with
    |false=>
     have e0:=G (show R=false from by rw[<-HR.out];simp);go_wp2_with (go_at_call 113;refine(HC.out _ HX2.out).mono ?_;rintro e w4 ⟨rfl,hE⟩;have HY:=G (HX2.out.trans hE);clear hE);go_ret;exact⟨by rw[e0.out];rfl,HY.out⟩
    |true=>
     have e0:=G (show R=r2 from by rw[<-HR.out];simp[hnm]);go_wp2_with (first|(go_at_call 113;refine(HC.out _ HX2.out).mono ?_;rintro e w4 ⟨rfl,hE⟩;have HY:=G (HX2.out.trans hE);have hb4:=(HB2.out.ext hE).cell;clear hE HC)|(go_at_call 112;refine(HS.out _ _ (HY.out.alloc' _) (aw w4 _ _)).mono ?_;rintro e w5 ⟨D,k5,rfl,hE5,hK5⟩;have HY5:=G ((HY.out.alloc' _).trans hE5);have HK5:=G (hK5 w5 (aG _));clear hE5 hK5)|(go_at_call 116;refine HK5.out.mono ?_;rintro e w6 ⟨rfl,hE6⟩;have HY6:=G (HY5.out.trans hE6);clear hE6));go_ret;exact⟨by rw[e0.out];rfl,HY6.out⟩
theorem FE (nm:List UInt8) (w:World) (A B C:Option Addr) (n c nb cb nl cl:Nat) (hn:n+nb+nl<=1073741824) (hl:nm.length<=1073741824) (r r2:Bool) (hC:CZ w A n c r) (hS:CY w B C nb cb nl cl r2):
  Calls prog 61 #[.agg #[.int .i64 6, .string (an nm), .slice A n c, .slice B nb cb, .slice C nl cl]] w fun e w'=>e= .returned (.bool ((nm==[]&&decide (n<=1)&&nb==0&&nl==0)&&r&&r2))/\au w w':=by
 have hz1:(n:Int)<=1073741824:=by omega
 have hz2:(nb:Int)<=1073741824:=by omega
 have hz3:(nl:Int)<=1073741824:=by omega
 have HB:=G (aw w 147 #[.int .i64 6, .string (an nm), .slice A n c, .slice B nb cb, .slice C nl cl]);have HE0:=G (aa w (.cells #[.int .i64 6, .string (an nm), .slice A n c, .slice B nb cb, .slice C nl cl] 147));have HC:=G hC;have HS:=G hS;have HI:=G (df nm hl);generalize hR:(_&& _&& _:Bool)=R;have HR:=G hR;clear hC hS hR;generalize dV nm=b at*;go_enter func61,ntmps61;go_wp2_with fail;refine cG 11 3 [(2,fun v=>v= .bool b,fun _ _=>True)] [] [3,4,5,6,7,8,9,10] mixed (by kernel_rfl) (by kernel_rfl) (by kernel_rfl) (by rfl) ⟨fun _ _ _ _ _=>trivial,trivial⟩ (fun i hi=>by simp at hi) ?_;repeat (refine sx ?_ (fun w1 hU=> ?_) ?_;rotate_left;(focus have f1:=(HB.out.ext hU.un).cell;clear hU;go_simp<;>with_reducible rfl);simp only[bH,bG,bF,bE,bD])
 refine so (fun w6 hU hp K hK=> ?_) ?_
 ·clear hp hU;go_simp;refine(HI.out w6).mono ?_;rintro e w7 ⟨rfl,rfl⟩;exact hK _ _ (aG _) rfl trivial
 rintro _ rfl;simp only[bH,bG,bF,bE,bD];repeat (refine sx ?_ (fun w1 hU=> ?_) ?_;rotate_left;(focus have f1:=(HB.out.ext hU.un).cell;clear hU;go_simp<;>with_reducible rfl);simp only[bH,bG,bF,bE,bD])
 intro w2 hw2 hp hpair;clear hp hpair;simp only[ac,aq];refine aH (by rfl) (by simp) (fun K hK=> ?_);go_simp;refine hK _ _ hw2 ?_;clear hK;refine aH (by rfl) (by simp) (fun K hK=> ?_);go_simp;refine hK _ _ hw2 ?_;clear hK;refine aH (by rfl) (by simp) (fun K hK=> ?_);go_simp;refine hK _ _ hw2 ?_;clear hK;refine b_ ?_;have HB2:=G (HB.out.ext hw2.un);have HX2:=G (HE0.out.trans hw2.un);have hbc:=HB2.out.cell;clear hw2 HB HE0 HI
 cases hnm:(nm==[])with
 |false=>
  have e0:=G (show R=false from by rw[<-HR.out];simp[hnm]);go_wp2_with fail;go_ret;exact⟨by rw[e0.out];rfl,HX2.out⟩
 |true=>
  by_cases h1:n<=1
  rotate_left
  ·have h1i: ¬(n:Int)<=1:=by omega
   have e0:=G (show R=false from by rw[<-HR.out];simp[hnm,h1]);go_wp2_with fail;go_ret;exact⟨by rw[e0.out];rfl,HX2.out⟩
  ·have h1i:(n:Int)<=1:=by omega
   generalize hxnb:decide (0<nb)=xnb at*
   cases xnb with
   |true=>
    have hnbn: ¬nb=0:=by have:=of_decide_eq_true hxnb;omega
    have e0:=G (show R=false from by rw[<-HR.out];simp[hnm,h1,hnbn]);go_wp2_with fail;go_ret;exact⟨by rw[e0.out];rfl,HX2.out⟩
   |false=>
    obtain rfl:nb=0:=by have:=of_decide_eq_false hxnb;omega
    clear hxnb;generalize hxnl:decide (0<nl)=xnl at*
    cases xnl with
    |true=>
     have hnln: ¬nl=0:=by have:=of_decide_eq_true hxnl;omega
     have e0:=G (show R=false from by rw[<-HR.out];simp[hnm,h1,hnln]);go_wp2_with fail;go_ret;exact⟨by rw[e0.out];rfl,HX2.out⟩
    |false=>
     obtain rfl:nl=0:=by have:=of_decide_eq_false hxnl;omega
     clear hxnl
     cases r with
     |false=>
      have e0:=G (show R=false from by rw[<-HR.out];simp);go_wp2_with (go_at_call 113;refine(HC.out _ HX2.out).mono ?_;rintro e w4 ⟨rfl,hE⟩;have HY:=G (HX2.out.trans hE);clear hE);go_ret;exact⟨by rw[e0.out];rfl,HY.out⟩
     |true=>
      have e0:=G (show R=r2 from by rw[<-HR.out];simp[hnm,h1]);go_wp2_with (first|(go_at_call 113;refine(HC.out _ HX2.out).mono ?_;rintro e w4 ⟨rfl,hE⟩;have HY:=G (HX2.out.trans hE);have hb4:=(HB2.out.ext hE).cell;clear hE HC)|(go_at_call 112;refine(HS.out _ _ (HY.out.alloc' _) (aw w4 _ _)).mono ?_;rintro e w5 ⟨D,k5,rfl,hE5,hK5⟩;have HY5:=G ((HY.out.alloc' _).trans hE5);have HK5:=G (hK5 w5 (aG _));clear hE5 hK5)|(go_at_call 116;refine HK5.out.mono ?_;rintro e w6 ⟨rfl,hE6⟩;have HY6:=G (HY5.out.trans hE6);clear hE6));go_ret;exact⟨by rw[e0.out];rfl,HY6.out⟩
theorem FD (nm:List UInt8) (w:World) (A B C:Option Addr) (n c nb cb nl cl:Nat) (hn:n+nb+nl<=1073741824) (hl:nm.length<=1073741824) (r r2:Bool) (hC:CZ w A n c r) (hS:CY w B C nb cb nl cl r2) (k0:Int) (hk:n=1-> ∃b o,A=some ⟨b,o,none⟩/\b<w.heap.size/\w.cell? ⟨b,o,none⟩=some (.int .i64 k0)):
  Calls prog 61 #[.agg #[.int .i64 7, .string (an nm), .slice A n c, .slice B nb cb, .slice C nl cl]] w fun e w'=>e= .returned (.bool ((nm==[]&&n==1&&k0==5&&nb==0&&nl==0)&&r&&r2))/\au w w':=by
 have hz1:(n:Int)<=1073741824:=by omega
 have hz2:(nb:Int)<=1073741824:=by omega
 have hz3:(nl:Int)<=1073741824:=by omega
 have HB:=G (aw w 147 #[.int .i64 7, .string (an nm), .slice A n c, .slice B nb cb, .slice C nl cl]);have HE0:=G (aa w (.cells #[.int .i64 7, .string (an nm), .slice A n c, .slice B nb cb, .slice C nl cl] 147));have HC:=G hC;have HS:=G hS;have HK:=G hk;clear hk;have HI:=G (df nm hl);generalize hR:(_&& _&& _:Bool)=R;have HR:=G hR;clear hC hS hR;generalize dV nm=b at*;go_enter func61,ntmps61;go_wp2_with fail;refine cG 11 3 [(2,fun v=>v= .bool b,fun _ _=>True)] [] [3,4,5,6,7,8,9,10] mixed (by kernel_rfl) (by kernel_rfl) (by kernel_rfl) (by rfl) ⟨fun _ _ _ _ _=>trivial,trivial⟩ (fun i hi=>by simp at hi) ?_;repeat (refine sx ?_ (fun w1 hU=> ?_) ?_;rotate_left;(focus have f1:=(HB.out.ext hU.un).cell;clear hU;go_simp<;>with_reducible rfl);simp only[bH,bG,bF,bE,bD])
 refine so (fun w6 hU hp K hK=> ?_) ?_
 ·clear hp hU;go_simp;refine(HI.out w6).mono ?_;rintro e w7 ⟨rfl,rfl⟩;exact hK _ _ (aG _) rfl trivial
 rintro _ rfl;simp only[bH,bG,bF,bE,bD];repeat (refine sx ?_ (fun w1 hU=> ?_) ?_;rotate_left;(focus have f1:=(HB.out.ext hU.un).cell;clear hU;go_simp<;>with_reducible rfl);simp only[bH,bG,bF,bE,bD])
 intro w2 hw2 hp hpair;clear hp hpair;simp only[ac,aq];refine aH (by rfl) (by simp) (fun K hK=> ?_);go_simp;refine hK _ _ hw2 ?_;clear hK;refine aH (by rfl) (by simp) (fun K hK=> ?_);go_simp;refine hK _ _ hw2 ?_;clear hK;refine aH (by rfl) (by simp) (fun K hK=> ?_);go_simp;refine hK _ _ hw2 ?_;clear hK;refine b_ ?_;have HB2:=G (HB.out.ext hw2.un);have HX2:=G (HE0.out.trans hw2.un);have hbc:=HB2.out.cell;clear hw2 HB HE0 HI
 cases hnm:(nm==[])with
 |false=>
  have e0:=G (show R=false from by rw[<-HR.out];simp[hnm]);go_wp2_with fail;go_ret;exact⟨by rw[e0.out];rfl,HX2.out⟩
 |true=>
  by_cases h1:n=1
  rotate_left
  ·have h1i:((n:Int)==1)=false:=by rw[beq_eq_false_iff_ne];omega
   have e0:=G (show R=false from by rw[<-HR.out];simp[hnm,h1]);go_wp2_with fail;go_ret;exact⟨by rw[e0.out];rfl,HX2.out⟩
  ·subst h1;obtain⟨b0,o0,rfl,hb0,hk0⟩:=HK.out rfl;have hk1:=(HX2.out.cell b0 _ hb0).trans hk0
   cases hk:(k0==5)with
   |false=>
    have e0:=G (show R=false from by rw[<-HR.out];simp[hnm,hk]);go_wp2_with fail;go_ret;exact⟨by rw[e0.out];rfl,HX2.out⟩
   |true=>
    generalize hxnb:decide (0<nb)=xnb at*
    cases xnb with
    |true=>
     have hnbn: ¬nb=0:=by have:=of_decide_eq_true hxnb;omega
     have e0:=G (show R=false from by rw[<-HR.out];simp[hnm,hk,hnbn]);go_wp2_with fail;go_ret;exact⟨by rw[e0.out];rfl,HX2.out⟩
    |false=>
     obtain rfl:nb=0:=by have:=of_decide_eq_false hxnb;omega
     clear hxnb;generalize hxnl:decide (0<nl)=xnl at*
     cases xnl with
     |true=>
      have hnln: ¬nl=0:=by have:=of_decide_eq_true hxnl;omega
      have e0:=G (show R=false from by rw[<-HR.out];simp[hnm,hk,hnln]);go_wp2_with fail;go_ret;exact⟨by rw[e0.out];rfl,HX2.out⟩
     |false=>
      obtain rfl:nl=0:=by have:=of_decide_eq_false hxnl;omega
      clear hxnl
      cases r with
      |false=>
       have e0:=G (show R=false from by rw[<-HR.out];simp);go_wp2_with (go_at_call 113;refine(HC.out _ HX2.out).mono ?_;rintro e w4 ⟨rfl,hE⟩;have HY:=G (HX2.out.trans hE);clear hE);go_ret;exact⟨by rw[e0.out];rfl,HY.out⟩
      |true=>
       have e0:=G (show R=r2 from by rw[<-HR.out];simp[hnm,hk]);go_wp2_with (first|(go_at_call 113;refine(HC.out _ HX2.out).mono ?_;rintro e w4 ⟨rfl,hE⟩;have HY:=G (HX2.out.trans hE);have hb4:=(HB2.out.ext hE).cell;clear hE HC)|(go_at_call 112;refine(HS.out _ _ (HY.out.alloc' _) (aw w4 _ _)).mono ?_;rintro e w5 ⟨D,k5,rfl,hE5,hK5⟩;have HY5:=G ((HY.out.alloc' _).trans hE5);have HK5:=G (hK5 w5 (aG _));clear hE5 hK5)|(go_at_call 116;refine HK5.out.mono ?_;rintro e w6 ⟨rfl,hE6⟩;have HY6:=G (HY5.out.trans hE6);clear hE6));go_ret;exact⟨by rw[e0.out];rfl,HY6.out⟩
theorem FK (k:Int) (hk: ∀i:Int,1<=i->i<=7->k≠i) (nm:List UInt8) (w:World) (A B C:Option Addr) (n c nb cb nl cl:Nat) (hn:n+nb+nl<=1073741824) (hl:nm.length<=1073741824):
  Calls prog 61 #[.agg #[.int .i64 k, .string (an nm), .slice A n c, .slice B nb cb, .slice C nl cl]] w fun e w'=>e= .returned (.bool false)/\au w w':=by
 have HI:=G (df nm hl);generalize dV nm=b at*;have e1:(k==1)=false:=beq_eq_false_iff_ne.2 (hk 1 (by decide) (by decide));have e2:(k==2)=false:=beq_eq_false_iff_ne.2 (hk 2 (by decide) (by decide));have e3:(k==3)=false:=beq_eq_false_iff_ne.2 (hk 3 (by decide) (by decide));have e4:(k==4)=false:=beq_eq_false_iff_ne.2 (hk 4 (by decide) (by decide));have e5:(k==5)=false:=beq_eq_false_iff_ne.2 (hk 5 (by decide) (by decide));have e6:(k==6)=false:=beq_eq_false_iff_ne.2 (hk 6 (by decide) (by decide));have e7:(k==7)=false:=beq_eq_false_iff_ne.2 (hk 7 (by decide) (by decide));have hz1:(n:Int)<=1073741824:=by omega
 have hz2:(nb:Int)<=1073741824:=by omega
 have hz3:(nl:Int)<=1073741824:=by omega
 have HB:=G (aw w 147 #[.int .i64 k, .string (an nm), .slice A n c, .slice B nb cb, .slice C nl cl]);have HE0:=G (aa w (.cells #[.int .i64 k, .string (an nm), .slice A n c, .slice B nb cb, .slice C nl cl] 147));clear hk;go_enter func61,ntmps61;go_wp2_with fail;refine cG 11 3 [(2,fun v=>v= .bool b,fun _ _=>True)] [] [3,4,5,6,7,8,9,10] mixed (by kernel_rfl) (by kernel_rfl) (by kernel_rfl) (by rfl) ⟨fun _ _ _ _ _=>trivial,trivial⟩ (fun i hi=>by simp at hi) ?_;repeat (refine sx ?_ (fun w1 hU=> ?_) ?_;rotate_left;(focus have f1:=(HB.out.ext hU.un).cell;clear hU;go_simp<;>with_reducible rfl);simp only[bH,bG,bF,bE,bD])
 refine so (fun w6 hU hp K hK=> ?_) ?_
 ·clear hp hU;go_simp;refine(HI.out w6).mono ?_;rintro e w7 ⟨rfl,rfl⟩;exact hK _ _ (aG _) rfl trivial
 rintro _ rfl;simp only[bH,bG,bF,bE,bD];repeat (refine sx ?_ (fun w1 hU=> ?_) ?_;rotate_left;(focus have f1:=(HB.out.ext hU.un).cell;clear hU;go_simp<;>with_reducible rfl);simp only[bH,bG,bF,bE,bD])
 intro w2 hw2 hp hpair;clear hp hpair;simp only[ac,aq];refine aH (by rfl) (by simp) (fun K hK=> ?_);go_simp;refine hK _ _ hw2 ?_;clear hK;refine aH (by rfl) (by simp) (fun K hK=> ?_);go_simp;refine hK _ _ hw2 ?_;clear hK;refine aH (by rfl) (by simp) (fun K hK=> ?_);go_simp;refine hK _ _ hw2 ?_;clear hK;refine b_ ?_;have HB2:=G (HB.out.ext hw2.un);have HX2:=G (HE0.out.trans hw2.un);have hbc:=HB2.out.cell;clear hw2 HB HE0 HI;go_wp2_with fail;go_ret;exact⟨rfl,HX2.out⟩
theorem uV: ∀l:List St,l.any (fun y=> !y.ok)= !pT l
 | []=>rfl
 |x::r=>by simp only[gz,pT,uV r,Bool.not_and]
theorem Bm (a b:List St):pT (a++b)=(pT a&&pT b):=by rw[jw,jw,jw,gP]
theorem vM (y:St) (w':World) (B B' B'':Option Addr) (d d' d'':Nat) (h: ∀w,au w' w->Calls prog 61 #[.agg #[.int .i64 y.k, .string (an y.nm), .slice B y.ex.length d, .slice B' y.body.length d', .slice B'' y.els.length d'']] w fun e w''=>e= .returned (.bool y.ok)/\au w w''):
  Calls prog 117 #[.agg #[.int .i64 y.k, .string (an y.nm), .slice B y.ex.length d, .slice B' y.body.length d', .slice B'' y.els.length d'']] w' fun e w''=>e= .returned (.bool (!y.ok))/\au w' w'':=by
 have HH:=G h;have HE:=G (aa w' (.cells #[.int .i64 y.k, .string (an y.nm), .slice B y.ex.length d, .slice B' y.body.length d', .slice B'' y.els.length d''] 147));clear h;generalize y.ex.length=n at*;generalize y.body.length=nb at*;generalize y.els.length=nl at*;go_enter func117,ntmps117;go_wp2_with (refine(HH.out _ HE.out).mono ?_;rintro e w3 ⟨rfl,hE⟩;have HY:=G (HE.out.trans hE);clear hE);go_ret;exact⟨rfl,HY.out⟩
theorem nP: ∀(m:Nat) (x:St),x.wt<=m->x.wt<=1073741824-> ∀(P:Nat->Prop) (w:World) (A B C:Option Addr) (n c nb cb nl cl:Nat),et w P (.slice A n c) x.ex->dS w P (.slice B nb cb) x.body->dS w P (.slice C nl cl) x.els->
  Calls prog 61 #[.agg #[.int .i64 x.k, .string (an x.nm), .slice A n c, .slice B nb cb, .slice C nl cl]] w fun e w'=>e= .returned (.bool x.ok)/\au w w'
 |0,x,hm,_,_,_,_,_,_,_,_,_,_,_,_,_,_,_=>absurd hm (by have:=x.wt_eq;omega)
 |m+1,x,hm,hx,P,w,A,B,C,n,c,nb,cb,nl,cl,hR,hRb,hRl=>by
  have hw:=x.wt_eq;have hlE:=hR.len;have hlB:=hRb.len;have hlL:=hRl.len;have hnE:=dI x.ex;have hnB:=eo x.body;have hnL:=eo x.els;have hC:CZ w A n c (xy x.ex):=fun w' hE=>by
   refine(wZ (fun y=> !y.ok) x.ex P w' A n c (hR.keep (.of_ext hE) (fun _ hb _=>hb)) (by omega) (fun y hy w2 B d hR2=> ?_)).mono ?_
   ·have hyw:=dO hy;exact pE y w2 B d (fun w3 hE3=>nY _ y (ah _) (by omega) P w3 B _ d (hR2.keep (.of_ext hE3) (fun _ hb _=>hb))) _ (.inr rfl)
   ·rintro e w2 ⟨rfl,h2⟩;exact⟨by rw[qI],h2⟩
  have hS:CY w B C nb cb nl cl (pT x.body&&pT x.els):=fun w' g hE hB=>by
   refine(oJ P w' g B C nb nl cb cl x.body x.els hB (hRb.keep (.of_ext hE) (fun _ hb _=>hb)) (hRl.keep (.of_ext hE) (fun _ hb _=>hb)) (by omega)).mono ?_;rintro e w2 ⟨⟨D,k,rfl,hRc⟩,hE2⟩;refine⟨D,k,rfl,hE2,fun w3 hE3=> ?_⟩;refine(zP (fun y=> !y.ok) (x.body++x.els) _ w3 D (nb+nl) k (hRc.keep (.of_ext hE3) (fun _ hb _=>hb)) (by simp only[ab];omega) (fun y hy w4 B1 B2 B3 d1 d2 d3 hR4=> ?_)).mono ?_
   ·have hyw:y.wt<=m/\y.wt<=1073741824:=by
     rcases List.mem_append.1 hy with h|h
     ·have:=co h;omega
     ·have:=co h;omega
    exact vM y w4 B1 B2 B3 d1 d2 d3 (fun w5 hE5=>nP m y hyw.1 hyw.2 _ w5 B1 B2 B3 _ d1 _ d2 _ d3 (hR4.1.keep (.of_ext hE5) (fun _ hb _=>hb)) (hR4.2.1.keep (.of_ext hE5) (fun _ hb _=>hb)) (hR4.2.2.keep (.of_ext hE5) (fun _ hb _=>hb)))
   ·rintro e w4 ⟨rfl,h2⟩;exact⟨by rw[uV,Bm],h2⟩
  have hn:n+nb+nl<=1073741824:=by omega
  have hl:x.nm.length<=1073741824:=by omega
  obtain⟨k,nm,xs,bd,el⟩:=x;simp only[St.k,St.nm,St.ex,St.body,St.els]at*;have fin: ∀R,R=St.ok (.mk k nm xs bd el)->Calls prog 61 #[.agg #[.int .i64 k, .string (an nm), .slice A n c, .slice B nb cb, .slice C nl cl]] w (fun e w'=>e= .returned (.bool R)/\au w w')->Calls prog 61 #[.agg #[.int .i64 k, .string (an nm), .slice A n c, .slice B nb cb, .slice C nl cl]] w fun e w'=>e= .returned (.bool (St.ok (.mk k nm xs bd el)))/\au w w':=fun R hR h=>by rw[<-hR];exact h
  by_cases h1:k=1
  ·subst h1;exact fin _ (by rw[St.ok,if_pos rfl,<-hlE,<-hlB,<-hlL]) (FJ nm w A B C n c nb cb nl cl hn hl _ _ hC hS)
  by_cases h2:k=2
  ·subst h2;exact fin _ (by rw[St.ok,if_neg h1,if_pos rfl,<-hlE,<-hlB,<-hlL]) (FI nm w A B C n c nb cb nl cl hn hl _ _ hC hS)
  by_cases h3:k=3
  ·subst h3;exact fin _ (by rw[St.ok,if_neg h1,if_neg h2,if_pos rfl,<-hlE,<-hlB,<-hlL]) (FH nm w A B C n c nb cb nl cl hn hl _ _ hC hS)
  by_cases h4:k=4
  ·subst h4;exact fin _ (by rw[St.ok,if_neg h1,if_neg h2,if_neg h3,if_pos rfl,<-hlE]) (FG nm w A B C n c nb cb nl cl hn hl _ _ hC hS)
  by_cases h5:k=5
  ·subst h5;exact fin _ (by rw[St.ok,if_neg h1,if_neg h2,if_neg h3,if_neg h4,if_pos rfl,<-hlE,<-hlL]) (FF nm w A B C n c nb cb nl cl hn hl _ _ hC hS)
  by_cases h6:k=6
  ·subst h6;exact fin _ (by rw[St.ok,if_neg h1,if_neg h2,if_neg h3,if_neg h4,if_neg h5,if_pos rfl,<-hlE,<-hlB,<-hlL]) (FE nm w A B C n c nb cb nl cl hn hl _ _ hC hS)
  by_cases h7:k=7
  ·subst h7;refine fin _ ?_ (FD nm w A B C n c nb cb nl cl hn hl _ _ hC hS ((xs.head?.map Ex.k).getD 0) fun h=> ?_)
   ·rw[St.ok,if_neg h1,if_neg h2,if_neg h3,if_neg h4,if_neg h5,if_neg h6,if_pos rfl,<-hlE,<-hlB,<-hlL]
    cases xs with
    |nil=>simp only[ag]at hlE;subst hlE;simp
    |cons y r=>simp
   ·obtain⟨b,o,a,rfl,hb,_,h0,_⟩:=hR.at_ 0 (by omega);refine⟨b,o,rfl,hb,?_⟩
    cases xs with
    |nil=>simp only[ag]at hlE;omega
    |cons y r=>simpa using h0
  ·refine fin _ ?_ (FK k (fun i hi hj=>by omega) nm w A B C n c nb cb nl cl hn hl);rw[St.ok,if_neg h1,if_neg h2,if_neg h3,if_neg h4,if_neg h5,if_neg h6,if_neg h7];rfl
end
section
open Go.RowKit
def Bu (w:World) (b:Nat) (l:List UInt8):Prop:=
 ∃p v,aP w b 217 #[p,v]/\w.ownsRow (b+1) 5 1 v l.length (Lib.byteCells l)/\(l=[]->v= .slice none 0 0)/\(p= .pointer none\/p= .pointer (some ⟨b,0,none⟩))
theorem Bu.lt {w:World} {b:Nat} {l:List UInt8} (h:Bu w b l):b<w.heap.size:=let⟨_,_,h,_⟩:=h;h.lt
theorem Bu.new (w:World):Bu (w.alloc (.cells #[.pointer none, .slice none 0 0] 217)) w.heap.size []:=⟨_,_,aw w _ _,World.ownsRow_nil _ _ _ 1,fun _=>rfl, .inl rfl⟩
theorem Bu.ext {w w':World} {b:Nat} {l:List UInt8} (h:Bu w b l) (hE:au w w'):Bu w' b l:=by
 obtain⟨p,v,hb,ho,hn,hp⟩:=h;exact⟨p,v,hb.ext hE,World.ownsRow.kept ho (hE.grownBy none) (by cases v.ownBlock<;>simp),hn,hp⟩
theorem rn {b:Nat} {w w':World} (hE:au w w') (hb:b<=w.heap.size):Below b w w':=RowKit.Below.mono hE hb
structure FB (b:Nat) (w w':World):Prop where
 below:Below b w w'
 keep: ∀k t cs,k≠b->t≠5->aP w k t cs->aP w' k t cs
theorem FB.refl (b:Nat) (w:World):FB b w w:=⟨Below.refl _ _,fun _ _ _ _ _ h=>h⟩
theorem FB.trans {b:Nat} {w w' w'':World} (h:FB b w w') (k:FB b w' w''):FB b w w'':=⟨Below.trans h.below k.below,fun i t cs h1 h2 h3=>k.keep i t cs h1 h2 (h.keep i t cs h1 h2 h3)⟩
theorem FB.of_ext {b:Nat} {w w':World} (h:au w w') (hb:b<=w.heap.size):FB b w w':=⟨rn h hb,fun _ _ _ _ _ k=>k.ext h⟩
theorem FB.set {b i:Nat} {v:Value} (w:World):FB b w (w.setCell ⟨b,i,none⟩ v):=⟨(Below.refl b w).setCell (p:=⟨b,i,none⟩) (ah _) _,fun k t cs h _ hb=>hb.far (p:=⟨b,i,none⟩) h v⟩
theorem FB.keepP {b:Nat} {w w':World} (h:FB b w w') {P:Nat->Prop} (hP: ∀k,P k->k<b):dm P w w':=⟨h.below.size,fun k hk hl=>h.below.block k (hP k hk)⟩
structure Fg (b:Nat) (v:Value) (w w':World):Prop where
 blk:aP w' b 217 #[.pointer (some ⟨b,0,none⟩),v]
 below:FB b w w'
 size:w'.heap.size=w.heap.size
 own: ∀n xs,w.ownsRow (b+1) 5 1 v n xs->w'.ownsRow (b+1) 5 1 v n xs
theorem Fg.set {b:Nat} {p v:Value} {w:World} (hb:aP w b 217 #[p,v]):Fg b v w (w.setCell ⟨b,0,none⟩ (.pointer (some ⟨b,0,none⟩))):=by
 refine⟨by have:=hb.set 0 (.pointer (some ⟨b,0,none⟩));simpa using this,FB.set w,by simp[World.setCell],fun n xs h=>World.ownsRow.kept h (gy w b 0 _) ?_⟩
 cases hv:v.ownBlock with
 |none=>exact .inl rfl
 |some k=>exact .inr fun e=>by have:=(World.ownsRow.lt h k hv).1;injection e with e;omega
theorem t8 (b:Nat) (p v:Value) (w:World) (hb:aP w b 217 #[p,v]) (hp:p= .pointer none\/p= .pointer (some ⟨b,0,none⟩)):
  Calls prog 170 #[.pointer (some ⟨b,0,none⟩)] w fun e w'=>e= .returned (.tuple #[])/\Fg b v w w':=by
 have hbc:=hb.cell;have hbf:=hb.frozen;have HB:=G hb;obtain⟨j,hj,hjs⟩:=Option.map_eq_some_iff.1 (show(prog.info? 215).map (·.size)=some 2 from by kernel_rfl);rcases hp with rfl|rfl
 ·have HS:=G (Fg.set hb);have hsh:w.shape? b=some (217,2):=by unfold aP at hb;simp[World.shape?,hb]
  clear hb;go_enter func170,ntmps170;go_wp2;rw[Lib.run_to_unsafe w ⟨b,0,none⟩ underlying213 underlying288 hj (by rw[hjs];decide) hsh (Nat.zero_lt_succ 1)];simp only[Result.andThen];rw[Oper.upon_value];go_wp2;rw[run_callFunc_extern func211 (by kernel_rfl) (by kernel_rfl) (by kernel_rfl) (e:=Extern.AbiNoEscape.same) (by kernel_rfl)];rw[Lib.run_noEscape];simp only[Result.andThen];rw[Oper.upon_value];go_wp2;rw[Lib.run_from_unsafe w ⟨b,0,none⟩ underlying288 underlying213 hj hsh (by kernel_rfl)];simp only[Result.andThen];rw[Oper.upon_value];go_wp2
  go_end0
  exact⟨rfl,HS.out⟩
 ·clear hb;go_enter func170,ntmps170;go_wp2;rw[Lib.run_neq_ptr_same w _ underlying213 hj];go_wp2
  go_end0
  exact⟨rfl,HB.out,FB.refl _ _,rfl,fun _ _ h=>h⟩
theorem Ba {w w1 w2:World} {b n:Nat} {v:Value} {xs:List Value} (h:Fg b v w w1) (ho:w.ownsRow (b+1) 5 1 v n xs) (hg:w1.grownBy w2 v.ownBlock):aP w2 b 217 #[.pointer (some ⟨b,0,none⟩),v]:=
 h.blk.grown hg fun e=>by have:=(World.ownsRow.lt ho b e.symm).1;omega
theorem yV {w:World} {base n k:Nat} {e:TypeId} {v:Value} {xs:List Value} (h:w.ownsRow base e k v n xs): ∃a m c,v= .slice a m c:=by
 rcases h.2 with⟨hv,_⟩|⟨g,cap,cur,hv,_⟩
 ·exact⟨_,_,_,hv⟩
 ·exact⟨_,_,_,hv⟩
theorem py (l s:List UInt8):Lib.byteCells (l++s)=Lib.byteCells l++Lib.strCells (an s):=by simp[Lib.byteCells,Lib.strCells,an]
theorem cK (b:Nat) (l s:List UInt8) (w:World) (h:Bu w b l) (hl:l.length+s.length<=1000000000):
  Calls prog 118 #[.pointer (some ⟨b,0,none⟩), .string (an s)] w fun e w'=>e= .returned (.tuple #[.int .i64 s.length, .nilIface])/\Bu w' b (l++s)/\FB b w w':=by
 obtain⟨i0,hi,hz0,hz1,hz2⟩:=info_parts (show(prog.info? 5).map (fun i=>(i.zero,i.size,i.bytes))=some (some (.int .u8 0),1,1)from by kernel_rfl);obtain⟨p,v,hb,ho,hn,hp⟩:=h;have HP:=G (t8 b p v w hb hp);have HO:=G ho;have HN:=G hn;have hsz:(an s).size=s.length:=aU s;have hlt:=hb.lt;clear hb ho hn hp;go_enter func118,ntmps118;go_wp2_with (go_at_call 170;refine HP.out.mono ?_);rintro e w1 ⟨rfl,hc⟩;have HC:=G hc;have c0:=hc.blk.cell 0;have c1:=hc.blk.cell 1;simp only[d_,cA,cO]at c0 c1;have hown:=hc.own _ _ HO.out;have hzz:=hc.size;clear hc HP;go_wp2_with (at_builtin;refine Lib.wpList_append_own_string _ rfl _ _ 36 9 rfl (b+1) 5 i0 underlying36 underlying9 hi hz0 hz1 hz2 _ _ _ rfl hown (an s) rfl ?c3 ?c4 ?c5 ?_)
 case c3=>rw[hsz];unfold maxLen;omega
 case c4=>rw[hsz];omega
 case c5=>omega
 intro v' w2 hown' hgrow hnil;have HO2:=G hown';have HG2:=G hgrow;have HNl:=G hnil;have hb2:=Ba HC.out HO.out hgrow;have d0:=hb2.cell 0;have d1:=hb2.cell 1;have f1:=hb2.frozen 1;simp only[d_,cA,cO]at d0 d1;have HB2:=G hb2;have hft:=yV hown';clear hown' hgrow hnil hb2 c0 c1;obtain⟨ao,n',cap,rfl⟩:=hft;go_wp2;go_ret2;have hlw:=hlt;refine⟨rfl,?_,?_⟩
 ·refine⟨_,_,?_,World.ownsRow.kept (show w2.ownsRow (b+1) 5 1 (.slice ao n' cap) (l++s).length (Lib.byteCells (l++s))from ?_) (gy w2 b 1 _) ?_,fun e=> ?_, .inr rfl⟩
  ·have:=HB2.out.set 1 (.slice ao n' cap);simpa using this
  ·have:=HO2.out;rw[ab,py];first|exact this|(rw[hsz]at this;exact this)
  ·cases hv:Value.ownBlock (.slice ao n' cap)with
   |none=>exact .inl rfl
   |some k=>exact .inr fun e=>by have:=(World.ownsRow.lt HO2.out k hv).1;injection e with e;omega
  ·have h1:=List.append_eq_nil_iff.1 e;exact HNl.out.2 ⟨HN.out h1.1,by have:=h1.2;simp[this]⟩
 ·refine HC.out.below.trans (FB.trans ⟨?_,fun k t cs hk ht hb=>hb.grown HG2.out fun e=> ?_⟩ (FB.set w2))
  ·exact(Below.refl b w1).grown HG2.out (by have:=HC.out.size;omega) (fun k hk=>by have:=(World.ownsRow.lt HO.out k hk).1;omega)
  ·rcases(HC.out.own _ _ HO.out).2 with⟨rfl,_⟩|⟨g,cap,cur,rfl,_,hg,_⟩
   ·cases e
   ·have e:k=g:=ai e;subst e;have:some (Obj.cells cs t (0,0))=some (Obj.cells cur 5 (0,0)):=hb.symm.trans hg;injection this with this;injection this with _ this _;exact ht this
theorem yH (b:Nat) (l:List UInt8) (w:World) (h:Bu w b l) (hl:l.length<=1000000000):
  Calls prog 122 #[.pointer (some ⟨b,0,none⟩)] w fun e w'=>e= .returned (.string (an l))/\Below b w w':=by
 obtain⟨p,v,hbk,hown,hn,hp⟩:=h;by_cases h0:l=[]
 ·subst h0;obtain rfl:=hn rfl;have hUS: ∀(W:World) (q:Option Addr),(Builtin.unsafeString_ #[268,3] 9 #[.pointer q, .int .i64 0]).run prog W= .ok (.string .empty) W:=fun W q=>Lib.run_unsafeString_none W _ _ _ q;have c1:w.drew.cell? ⟨b,1,none⟩=some (.slice none 0 0):=hbk.cell 1;have hSD:(Builtin.unsafeSliceData_ #[36] 268 #[.slice none 0 0]).run prog w.drew= .ok (.pointer none) w.drew:=rfl;clear hbk hown hn hp;have hmx:=mixed;go_enter func122,ntmps122;go_wp2
  go_region_o
  all_goals (go_wp2;go_ret;exact⟨rfl,Below.drew (Below.refl b w)⟩)
 ·have hl0:l.length≠0:=by simpa using h0
  have hlt:=hbk.lt;obtain⟨g,cap,cur,rfl,hbg,hg,hnc,hcm,hcs,htake⟩: ∃g cap cur,v= .slice (some ⟨g,0,none⟩) l.length cap/\b+1<=g/\w.heap[g]? =some (.cells cur 5 (0,0))/\l.length<=cap/\cap<=maxLen/\cur.size=cap*1/\cur.toList.take (l.length*1)=Lib.byteCells l:=by
   rcases hown.2 with⟨_,hz⟩|⟨g,cap,cur,hv,r⟩
   ·exact absurd hz hl0
   ·exact⟨g,cap,cur,hv,r⟩
  have c1:w.drew.cell? ⟨b,1,none⟩=some (.slice (some ⟨g,0,none⟩) l.length cap):=hbk.cell 1;have hSD:(Builtin.unsafeSliceData_ #[36] 268 #[.slice (some ⟨g,0,none⟩) l.length cap]).run prog w.drew= .ok (.pointer (some ⟨g,0,none⟩)) w.drew:=
   Lib.run_unsafeSliceData_row _ _ _ _ _ _ (by omega)
  have hUS:(Builtin.unsafeString_ #[268,3] 9 #[.pointer (some ⟨g,0,none⟩), .int .i64 l.length]).run prog w.drew= .ok (.string ⟨l.toArray⟩) (w.drew.freeze ⟨g,0,none⟩ l.length):=by
   refine Lib.run_unsafeString_row w.drew 268 3 9 5 underlying268 (by kernel_rfl) g cur.size (by have hg':w.drew.heap[g]? =some (.cells cur 5 (0,0)):=hg;simp[World.shape?,hg']) l h0 (by omega) (by unfold maxLen at hcm;omega) ?_;intro j x hx;have:=hown.cells (g:=g) rfl j (.int .u8 x.toNat) (by simp[Lib.byteCells,hx]);exact this
  clear hbk hown hn hp;have hmx:=mixed;go_enter func122,ntmps122;go_wp2
  go_region_o
  all_goals (go_wp2;go_ret;exact⟨rfl,Lib.below_freeze (Below.drew (Below.refl b w)) (p:=⟨g,0,none⟩) (by show b<=g;omega) _⟩)
def aQ:=@FB.of_ext
end
end Go.Proofs.YtoedmpgicdekmaaGreatDoor
