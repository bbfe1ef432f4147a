/-
  Parts of the proof: VrD VaLexZf.
-/
import Derived.Test.YtddomeddabfinaaGreatDoorTu00
import Derived.Test.YtddomeddabfinaaGreatDoorTu45
import Derived.Test.YtddomeddabfinaaGreatDoorTu04
import Derived.Test.YtddomeddabfinaaGreatDoorTu05
import Derived.Test.YtddomeddabfinaaGreatDoorTu07
import Derived.Test.YtddomeddabfinaaGreatDoorTu08
import Derived.Test.YtddomeddabfinaaGreatDoorTu12
set_option maxRecDepth 100000
set_option maxHeartbeats 8000000
set_option linter.unusedVariables false
set_option linter.unusedSimpArgs false
set_option linter.unusedSectionVars false
namespace Go.Proofs.YtddomeddabfinaaGreatDoor
open Go.Proofs.Tryz
section
open Go.RowKit
theorem BB (n:Nat):(decide (0<=(n:Int))&&decide ((n:Int)<=0))=(n==0):=by rw[cF];simp
theorem BA (n:Nat):(decide (1<=(n:Int))&&decide ((n:Int)<=1))=(n==1):=by rw[cF];simp;omega
theorem Bz (n:Nat):(decide (2<=(n:Int))&&decide ((n:Int)<=2))=(n==2):=by rw[cF];simp;omega
theorem Bx (n:Nat):(decide (0<=(n:Int))&&decide ((n:Int)<=4))=decide (n<=4):=by rw[cF];simp;omega
theorem BI (op nm tx:List UInt8) (v:Int) (w:World) (A:Option Addr) (n c:Nat) (hn:n<=1073741824) (P:Nat->Prop) (xs:List Ex) (hI:jk xs) (hRd:b8 w P (.slice A n c) xs) (R:Bool)
  (hQ:((decide (0<=v)&&decide (v<=2147483647))&&gK xs&&(op==[]&&nm==[]&&tx==[]&&v==v)&&(decide (0<=(n:Int))&&decide ((n:Int)<=0)))=R):
  Calls prog 125 #[.agg #[.int .i64 1, .string (ag op), .string (ag nm), .string (ag tx), .int .i64 v, .slice A n c]] w fun e w'=>e= .returned (.bool R)/\au w w':=by
 have hne:w.heap.size≠w.heap.size+1:=by omega
 have HB:=G ((ax w 75 #[.int .i64 1, .string (ag op), .string (ag nm), .string (ag tx), .int .i64 v, .slice A n c]).ext (O _ (.cells #[.int .i64 1, .string ⟨#[]⟩, .string ⟨#[]⟩, .string ⟨#[]⟩, .int .i64 v, .slice none 0 0] 75)));have HW:=G (iK w (.cells #[.int .i64 1, .string (ag op), .string (ag nm), .string (ag tx), .int .i64 v, .slice A n c] 75) 75 #[.int .i64 1, .string ⟨#[]⟩, .string ⟨#[]⟩, .string ⟨#[]⟩, .int .i64 v, .slice none 0 0]);have HX:=G ((O w (.cells #[.int .i64 1, .string (ag op), .string (ag nm), .string (ag tx), .int .i64 v, .slice A n c] 75)).trans (O _ (.cells #[.int .i64 1, .string ⟨#[]⟩, .string ⟨#[]⟩, .string ⟨#[]⟩, .int .i64 v, .slice none 0 0] 75)));have HR:=G (hRd.keep (.of_ext HX.out) (Q:=P) (fun _ hb _=>hb));have HI:=G hI;clear hI hRd;by_cases h1:0<=v
 ·by_cases h2:v<=2147483647
  ·rw[show(decide (0<=v)&&decide (v<=2147483647))=true by simp[h1,h2]]at hQ;have HQ:=G hQ;clear hQ;go_enter func125,ntmps125;go_wp2_with fail;exact gG _ _ 1 v v 0 0 op nm tx [] [] [] A n c true _ _ P xs HI.out HX.out hne hn HB.out HW.out HR.out R HQ.out _ (by assumption) _ _ _ _ _ _ _ _ _ _ _ _ _ _ _ _ _ _ _ _ _ _ _ _ _ _ _ _ _ _ _ _ _ _ _ _ _ _ _ _ _ _ _ _ _ _ _ _ _ _ _ _ _ _ _ _ _ _ _ _ _ _ _ _ _ _ _ _ _ _ _ _ _ _ _ _ _ _ _ _ _ _ _ _ _ _ _ _ _ _ _ _ _ _ _ _ _ _ _ _ _ _ _ _ _ _ _ _ _ _ _ _ _ _ _ _ _ _ _ _ _ _ _ _ _
  ·rw[show(decide (0<=v)&&decide (v<=2147483647))=false by simp[h1,h2]]at hQ;have HQ:=G hQ;clear hQ;go_enter func125,ntmps125;go_wp2_with fail;exact gG _ _ 1 v v 0 0 op nm tx [] [] [] A n c false _ _ P xs HI.out HX.out hne hn HB.out HW.out HR.out R HQ.out _ (by assumption) _ _ _ _ _ _ _ _ _ _ _ _ _ _ _ _ _ _ _ _ _ _ _ _ _ _ _ _ _ _ _ _ _ _ _ _ _ _ _ _ _ _ _ _ _ _ _ _ _ _ _ _ _ _ _ _ _ _ _ _ _ _ _ _ _ _ _ _ _ _ _ _ _ _ _ _ _ _ _ _ _ _ _ _ _ _ _ _ _ _ _ _ _ _ _ _ _ _ _ _ _ _ _ _ _ _ _ _ _ _ _ _ _ _ _ _ _ _ _ _ _ _ _ _ _
 ·rw[show(decide (0<=v)&&decide (v<=2147483647))=false by simp[h1]]at hQ;have HQ:=G hQ;clear hQ;go_enter func125,ntmps125;go_wp2_with fail;exact gG _ _ 1 v v 0 0 op nm tx [] [] [] A n c false _ _ P xs HI.out HX.out hne hn HB.out HW.out HR.out R HQ.out _ (by assumption) _ _ _ _ _ _ _ _ _ _ _ _ _ _ _ _ _ _ _ _ _ _ _ _ _ _ _ _ _ _ _ _ _ _ _ _ _ _ _ _ _ _ _ _ _ _ _ _ _ _ _ _ _ _ _ _ _ _ _ _ _ _ _ _ _ _ _ _ _ _ _ _ _ _ _ _ _ _ _ _ _ _ _ _ _ _ _ _ _ _ _ _ _ _ _ _ _ _ _ _ _ _ _ _ _ _ _ _ _ _ _ _ _ _ _ _ _ _ _ _ _ _ _ _ _
theorem BH (op nm tx:List UInt8) (v:Int) (w:World) (A:Option Addr) (n c:Nat) (hn:n<=1073741824) (P:Nat->Prop) (xs:List Ex) (hI:jk xs) (hRd:b8 w P (.slice A n c) xs) (hl:tx.length<=1073741824) (R:Bool)
  (hQ:(kh tx&&gK xs&&(op==[]&&nm==[]&&tx==tx&&v==0)&&(decide (0<=(n:Int))&&decide ((n:Int)<=0)))=R):
  Calls prog 125 #[.agg #[.int .i64 2, .string (ag op), .string (ag nm), .string (ag tx), .int .i64 v, .slice A n c]] w fun e w'=>e= .returned (.bool R)/\au w w':=by
 have hne:w.heap.size≠w.heap.size+1:=by omega
 have HB:=G ((ax w 75 #[.int .i64 2, .string (ag op), .string (ag nm), .string (ag tx), .int .i64 v, .slice A n c]).ext (O _ (.cells #[.int .i64 2, .string ⟨#[]⟩, .string ⟨#[]⟩, .string (ag tx), .int .i64 0, .slice none 0 0] 75)));have HW:=G (iK w (.cells #[.int .i64 2, .string (ag op), .string (ag nm), .string (ag tx), .int .i64 v, .slice A n c] 75) 75 #[.int .i64 2, .string ⟨#[]⟩, .string ⟨#[]⟩, .string (ag tx), .int .i64 0, .slice none 0 0]);have HX:=G ((O w (.cells #[.int .i64 2, .string (ag op), .string (ag nm), .string (ag tx), .int .i64 v, .slice A n c] 75)).trans (O _ (.cells #[.int .i64 2, .string ⟨#[]⟩, .string ⟨#[]⟩, .string (ag tx), .int .i64 0, .slice none 0 0] 75)));have HR:=G (hRd.keep (.of_ext HX.out) (Q:=P) (fun _ hb _=>hb));have HI:=G hI;clear hI hRd;have HC:=G (ox tx hl);generalize kh tx=b at*;have HQ:=G hQ;clear hQ;go_enter func125,ntmps125;go_wp2_with (go_at_call 159;refine(HC.out _).mono ?_;rintro e w3 ⟨rfl,hE⟩;have HX3:=G (HX.out.trans hE);have HB3:=G (HB.out.ext hE);have HW3:=G (HW.out.ext hE);have HR3:=G (HR.out.keep (.of_ext hE) (Q:=P) (fun _ hb _=>hb));clear hE HC HX HB HW HR;have f3:=HB3.out.cell);exact gG _ _ 2 v 0 0 0 op nm tx [] [] tx A n c b _ _ P xs HI.out HX3.out hne hn HB3.out HW3.out HR3.out R HQ.out _ (by assumption) _ _ _ _ _ _ _ _ _ _ _ _ _ _ _ _ _ _ _ _ _ _ _ _ _ _ _ _ _ _ _ _ _ _ _ _ _ _ _ _ _ _ _ _ _ _ _ _ _ _ _ _ _ _ _ _ _ _ _ _ _ _ _ _ _ _ _ _ _ _ _ _ _ _ _ _ _ _ _ _ _ _ _ _ _ _ _ _ _ _ _ _ _ _ _ _ _ _ _ _ _ _ _ _ _ _ _ _ _ _ _ _ _ _ _ _ _ _ _ _ _ _ _ _ _
theorem BG (op nm tx:List UInt8) (v:Int) (w:World) (A:Option Addr) (n c:Nat) (hn:n<=1073741824) (P:Nat->Prop) (xs:List Ex) (hI:jk xs) (hRd:b8 w P (.slice A n c) xs) (hl:nm.length<=1073741824) (R:Bool)
  (hQ:(bV nm&&gK xs&&(op==[]&&nm==nm&&tx==[]&&v==0)&&(decide (0<=(n:Int))&&decide ((n:Int)<=0)))=R):
  Calls prog 125 #[.agg #[.int .i64 3, .string (ag op), .string (ag nm), .string (ag tx), .int .i64 v, .slice A n c]] w fun e w'=>e= .returned (.bool R)/\au w w':=by
 have hne:w.heap.size≠w.heap.size+1:=by omega
 have HB:=G ((ax w 75 #[.int .i64 3, .string (ag op), .string (ag nm), .string (ag tx), .int .i64 v, .slice A n c]).ext (O _ (.cells #[.int .i64 3, .string ⟨#[]⟩, .string (ag nm), .string ⟨#[]⟩, .int .i64 0, .slice none 0 0] 75)));have HW:=G (iK w (.cells #[.int .i64 3, .string (ag op), .string (ag nm), .string (ag tx), .int .i64 v, .slice A n c] 75) 75 #[.int .i64 3, .string ⟨#[]⟩, .string (ag nm), .string ⟨#[]⟩, .int .i64 0, .slice none 0 0]);have HX:=G ((O w (.cells #[.int .i64 3, .string (ag op), .string (ag nm), .string (ag tx), .int .i64 v, .slice A n c] 75)).trans (O _ (.cells #[.int .i64 3, .string ⟨#[]⟩, .string (ag nm), .string ⟨#[]⟩, .int .i64 0, .slice none 0 0] 75)));have HR:=G (hRd.keep (.of_ext HX.out) (Q:=P) (fun _ hb _=>hb));have HI:=G hI;clear hI hRd;have HC:=G (dT nm hl);generalize bV nm=b at*;have HQ:=G hQ;clear hQ;go_enter func125,ntmps125;go_wp2_with (go_at_call 77;refine(HC.out _).mono ?_;rintro e w3 ⟨rfl,hE⟩;have HX3:=G (HX.out.trans hE);have HB3:=G (HB.out.ext hE);have HW3:=G (HW.out.ext hE);have HR3:=G (HR.out.keep (.of_ext hE) (Q:=P) (fun _ hb _=>hb));clear hE HC HX HB HW HR;have f3:=HB3.out.cell);exact gG _ _ 3 v 0 0 0 op nm tx [] nm [] A n c b _ _ P xs HI.out HX3.out hne hn HB3.out HW3.out HR3.out R HQ.out _ (by assumption) _ _ _ _ _ _ _ _ _ _ _ _ _ _ _ _ _ _ _ _ _ _ _ _ _ _ _ _ _ _ _ _ _ _ _ _ _ _ _ _ _ _ _ _ _ _ _ _ _ _ _ _ _ _ _ _ _ _ _ _ _ _ _ _ _ _ _ _ _ _ _ _ _ _ _ _ _ _ _ _ _ _ _ _ _ _ _ _ _ _ _ _ _ _ _ _ _ _ _ _ _ _ _ _ _ _ _ _ _ _ _ _ _ _ _ _ _ _ _ _ _ _ _ _ _
theorem BF (op nm tx:List UInt8) (v:Int) (w:World) (A:Option Addr) (n c:Nat) (hn:n<=1073741824) (P:Nat->Prop) (xs:List Ex) (hI:jk xs) (hRd:b8 w P (.slice A n c) xs) (hl:nm.length<=1073741824) (R:Bool)
  (hQ:(bV nm&&gK xs&&(op==[]&&nm==nm&&tx==[]&&v==0)&&(decide (1<=(n:Int))&&decide ((n:Int)<=1)))=R):
  Calls prog 125 #[.agg #[.int .i64 4, .string (ag op), .string (ag nm), .string (ag tx), .int .i64 v, .slice A n c]] w fun e w'=>e= .returned (.bool R)/\au w w':=by
 have hne:w.heap.size≠w.heap.size+1:=by omega
 have HB:=G ((ax w 75 #[.int .i64 4, .string (ag op), .string (ag nm), .string (ag tx), .int .i64 v, .slice A n c]).ext (O _ (.cells #[.int .i64 4, .string ⟨#[]⟩, .string (ag nm), .string ⟨#[]⟩, .int .i64 0, .slice none 0 0] 75)));have HW:=G (iK w (.cells #[.int .i64 4, .string (ag op), .string (ag nm), .string (ag tx), .int .i64 v, .slice A n c] 75) 75 #[.int .i64 4, .string ⟨#[]⟩, .string (ag nm), .string ⟨#[]⟩, .int .i64 0, .slice none 0 0]);have HX:=G ((O w (.cells #[.int .i64 4, .string (ag op), .string (ag nm), .string (ag tx), .int .i64 v, .slice A n c] 75)).trans (O _ (.cells #[.int .i64 4, .string ⟨#[]⟩, .string (ag nm), .string ⟨#[]⟩, .int .i64 0, .slice none 0 0] 75)));have HR:=G (hRd.keep (.of_ext HX.out) (Q:=P) (fun _ hb _=>hb));have HI:=G hI;clear hI hRd;have HC:=G (dT nm hl);generalize bV nm=b at*;have HQ:=G hQ;clear hQ;go_enter func125,ntmps125;go_wp2_with (go_at_call 77;refine(HC.out _).mono ?_;rintro e w3 ⟨rfl,hE⟩;have HX3:=G (HX.out.trans hE);have HB3:=G (HB.out.ext hE);have HW3:=G (HW.out.ext hE);have HR3:=G (HR.out.keep (.of_ext hE) (Q:=P) (fun _ hb _=>hb));clear hE HC HX HB HW HR;have f3:=HB3.out.cell);exact gG _ _ 4 v 0 1 1 op nm tx [] nm [] A n c b _ _ P xs HI.out HX3.out hne hn HB3.out HW3.out HR3.out R HQ.out _ (by assumption) _ _ _ _ _ _ _ _ _ _ _ _ _ _ _ _ _ _ _ _ _ _ _ _ _ _ _ _ _ _ _ _ _ _ _ _ _ _ _ _ _ _ _ _ _ _ _ _ _ _ _ _ _ _ _ _ _ _ _ _ _ _ _ _ _ _ _ _ _ _ _ _ _ _ _ _ _ _ _ _ _ _ _ _ _ _ _ _ _ _ _ _ _ _ _ _ _ _ _ _ _ _ _ _ _ _ _ _ _ _ _ _ _ _ _ _ _ _ _ _ _ _ _ _ _
theorem BE (op nm tx:List UInt8) (v:Int) (w:World) (A:Option Addr) (n c:Nat) (hn:n<=1073741824) (P:Nat->Prop) (xs:List Ex) (hI:jk xs) (hRd:b8 w P (.slice A n c) xs) (hl:nm.length<=1073741824) (R:Bool)
  (hQ:(bV nm&&gK xs&&(op==[]&&nm==nm&&tx==[]&&v==0)&&(decide (0<=(n:Int))&&decide ((n:Int)<=4)))=R):
  Calls prog 125 #[.agg #[.int .i64 5, .string (ag op), .string (ag nm), .string (ag tx), .int .i64 v, .slice A n c]] w fun e w'=>e= .returned (.bool R)/\au w w':=by
 have hne:w.heap.size≠w.heap.size+1:=by omega
 have HB:=G ((ax w 75 #[.int .i64 5, .string (ag op), .string (ag nm), .string (ag tx), .int .i64 v, .slice A n c]).ext (O _ (.cells #[.int .i64 5, .string ⟨#[]⟩, .string (ag nm), .string ⟨#[]⟩, .int .i64 0, .slice none 0 0] 75)));have HW:=G (iK w (.cells #[.int .i64 5, .string (ag op), .string (ag nm), .string (ag tx), .int .i64 v, .slice A n c] 75) 75 #[.int .i64 5, .string ⟨#[]⟩, .string (ag nm), .string ⟨#[]⟩, .int .i64 0, .slice none 0 0]);have HX:=G ((O w (.cells #[.int .i64 5, .string (ag op), .string (ag nm), .string (ag tx), .int .i64 v, .slice A n c] 75)).trans (O _ (.cells #[.int .i64 5, .string ⟨#[]⟩, .string (ag nm), .string ⟨#[]⟩, .int .i64 0, .slice none 0 0] 75)));have HR:=G (hRd.keep (.of_ext HX.out) (Q:=P) (fun _ hb _=>hb));have HI:=G hI;clear hI hRd;have HC:=G (dT nm hl);generalize bV nm=b at*;have HQ:=G hQ;clear hQ;go_enter func125,ntmps125;go_wp2_with (go_at_call 77;refine(HC.out _).mono ?_;rintro e w3 ⟨rfl,hE⟩;have HX3:=G (HX.out.trans hE);have HB3:=G (HB.out.ext hE);have HW3:=G (HW.out.ext hE);have HR3:=G (HR.out.keep (.of_ext hE) (Q:=P) (fun _ hb _=>hb));clear hE HC HX HB HW HR;have f3:=HB3.out.cell);exact gG _ _ 5 v 0 0 4 op nm tx [] nm [] A n c b _ _ P xs HI.out HX3.out hne hn HB3.out HW3.out HR3.out R HQ.out _ (by assumption) _ _ _ _ _ _ _ _ _ _ _ _ _ _ _ _ _ _ _ _ _ _ _ _ _ _ _ _ _ _ _ _ _ _ _ _ _ _ _ _ _ _ _ _ _ _ _ _ _ _ _ _ _ _ _ _ _ _ _ _ _ _ _ _ _ _ _ _ _ _ _ _ _ _ _ _ _ _ _ _ _ _ _ _ _ _ _ _ _ _ _ _ _ _ _ _ _ _ _ _ _ _ _ _ _ _ _ _ _ _ _ _ _ _ _ _ _ _ _ _ _ _ _ _ _
theorem BD (op nm tx:List UInt8) (v:Int) (w:World) (A:Option Addr) (n c:Nat) (hn:n<=1073741824) (P:Nat->Prop) (xs:List Ex) (hI:jk xs) (hRd:b8 w P (.slice A n c) xs) (R:Bool)
  (hQ:((op==[45]||op==[33])&&gK xs&&(op==op&&nm==[]&&tx==[]&&v==0)&&(decide (1<=(n:Int))&&decide ((n:Int)<=1)))=R):
  Calls prog 125 #[.agg #[.int .i64 6, .string (ag op), .string (ag nm), .string (ag tx), .int .i64 v, .slice A n c]] w fun e w'=>e= .returned (.bool R)/\au w w':=by
 have hne:w.heap.size≠w.heap.size+1:=by omega
 have HB:=G ((ax w 75 #[.int .i64 6, .string (ag op), .string (ag nm), .string (ag tx), .int .i64 v, .slice A n c]).ext (O _ (.cells #[.int .i64 6, .string (ag op), .string ⟨#[]⟩, .string ⟨#[]⟩, .int .i64 0, .slice none 0 0] 75)));have HW:=G (iK w (.cells #[.int .i64 6, .string (ag op), .string (ag nm), .string (ag tx), .int .i64 v, .slice A n c] 75) 75 #[.int .i64 6, .string (ag op), .string ⟨#[]⟩, .string ⟨#[]⟩, .int .i64 0, .slice none 0 0]);have HX:=G ((O w (.cells #[.int .i64 6, .string (ag op), .string (ag nm), .string (ag tx), .int .i64 v, .slice A n c] 75)).trans (O _ (.cells #[.int .i64 6, .string (ag op), .string ⟨#[]⟩, .string ⟨#[]⟩, .int .i64 0, .slice none 0 0] 75)));have HR:=G (hRd.keep (.of_ext HX.out) (Q:=P) (fun _ hb _=>hb));have HI:=G hI;clear hI hRd
 cases h1:(op==[45])with
 |true=>
  rw[show(op==[45]||op==[33])=true by rw[h1];rfl]at hQ;have HQ:=G hQ;clear hQ;go_enter func125,ntmps125;go_wp2_with fail;exact gG _ _ 6 v 0 1 1 op nm tx op [] [] A n c true _ _ P xs HI.out HX.out hne hn HB.out HW.out HR.out R HQ.out _ (by assumption) _ _ _ _ _ _ _ _ _ _ _ _ _ _ _ _ _ _ _ _ _ _ _ _ _ _ _ _ _ _ _ _ _ _ _ _ _ _ _ _ _ _ _ _ _ _ _ _ _ _ _ _ _ _ _ _ _ _ _ _ _ _ _ _ _ _ _ _ _ _ _ _ _ _ _ _ _ _ _ _ _ _ _ _ _ _ _ _ _ _ _ _ _ _ _ _ _ _ _ _ _ _ _ _ _ _ _ _ _ _ _ _ _ _ _ _ _ _ _ _ _ _ _ _ _
 |false=>
  cases h2:(op==[33])with
  |true=>
   rw[show(op==[45]||op==[33])=true by rw[h1,h2];rfl]at hQ;have HQ:=G hQ;clear hQ;go_enter func125,ntmps125;go_wp2_with fail;exact gG _ _ 6 v 0 1 1 op nm tx op [] [] A n c true _ _ P xs HI.out HX.out hne hn HB.out HW.out HR.out R HQ.out _ (by assumption) _ _ _ _ _ _ _ _ _ _ _ _ _ _ _ _ _ _ _ _ _ _ _ _ _ _ _ _ _ _ _ _ _ _ _ _ _ _ _ _ _ _ _ _ _ _ _ _ _ _ _ _ _ _ _ _ _ _ _ _ _ _ _ _ _ _ _ _ _ _ _ _ _ _ _ _ _ _ _ _ _ _ _ _ _ _ _ _ _ _ _ _ _ _ _ _ _ _ _ _ _ _ _ _ _ _ _ _ _ _ _ _ _ _ _ _ _ _ _ _ _ _ _ _ _
  |false=>
   rw[show(op==[45]||op==[33])=false by rw[h1,h2];rfl]at hQ;have HQ:=G hQ;clear hQ;go_enter func125,ntmps125;go_wp2_with fail;exact gG _ _ 6 v 0 1 1 op nm tx op [] [] A n c false _ _ P xs HI.out HX.out hne hn HB.out HW.out HR.out R HQ.out _ (by assumption) _ _ _ _ _ _ _ _ _ _ _ _ _ _ _ _ _ _ _ _ _ _ _ _ _ _ _ _ _ _ _ _ _ _ _ _ _ _ _ _ _ _ _ _ _ _ _ _ _ _ _ _ _ _ _ _ _ _ _ _ _ _ _ _ _ _ _ _ _ _ _ _ _ _ _ _ _ _ _ _ _ _ _ _ _ _ _ _ _ _ _ _ _ _ _ _ _ _ _ _ _ _ _ _ _ _ _ _ _ _ _ _ _ _ _ _ _ _ _ _ _ _ _ _ _
theorem BC (op nm tx:List UInt8) (v:Int) (w:World) (A:Option Addr) (n c:Nat) (hn:n<=1073741824) (P:Nat->Prop) (xs:List Ex) (hI:jk xs) (hRd:b8 w P (.slice A n c) xs) (R:Bool)
  (hQ:(decide (0<gL op)&&gK xs&&(op==op&&nm==[]&&tx==[]&&v==0)&&(decide (2<=(n:Int))&&decide ((n:Int)<=2)))=R):
  Calls prog 125 #[.agg #[.int .i64 7, .string (ag op), .string (ag nm), .string (ag tx), .int .i64 v, .slice A n c]] w fun e w'=>e= .returned (.bool R)/\au w w':=by
 have hne:w.heap.size≠w.heap.size+1:=by omega
 have HB:=G ((ax w 75 #[.int .i64 7, .string (ag op), .string (ag nm), .string (ag tx), .int .i64 v, .slice A n c]).ext (O _ (.cells #[.int .i64 7, .string (ag op), .string ⟨#[]⟩, .string ⟨#[]⟩, .int .i64 0, .slice none 0 0] 75)));have HW:=G (iK w (.cells #[.int .i64 7, .string (ag op), .string (ag nm), .string (ag tx), .int .i64 v, .slice A n c] 75) 75 #[.int .i64 7, .string (ag op), .string ⟨#[]⟩, .string ⟨#[]⟩, .int .i64 0, .slice none 0 0]);have HX:=G ((O w (.cells #[.int .i64 7, .string (ag op), .string (ag nm), .string (ag tx), .int .i64 v, .slice A n c] 75)).trans (O _ (.cells #[.int .i64 7, .string (ag op), .string ⟨#[]⟩, .string ⟨#[]⟩, .int .i64 0, .slice none 0 0] 75)));have HR:=G (hRd.keep (.of_ext HX.out) (Q:=P) (fun _ hb _=>hb));have HI:=G hI;clear hI hRd;have HC:=G (kY op);have HQ:=G hQ;clear hQ;generalize gL op=z at*;go_enter func125,ntmps125;go_wp2_with (go_at_call 160;refine(HC.out _).mono ?_;rintro e w3 ⟨rfl,rfl⟩;clear HC);exact gG _ _ 7 v 0 2 2 op nm tx op [] [] A n c (decide (0<z)) _ _ P xs HI.out HX.out hne hn HB.out HW.out HR.out R HQ.out _ (by assumption) _ _ _ _ _ _ _ _ _ _ _ _ _ _ _ _ _ _ _ _ _ _ _ _ _ _ _ _ _ _ _ _ _ _ _ _ _ _ _ _ _ _ _ _ _ _ _ _ _ _ _ _ _ _ _ _ _ _ _ _ _ _ _ _ _ _ _ _ _ _ _ _ _ _ _ _ _ _ _ _ _ _ _ _ _ _ _ _ _ _ _ _ _ _ _ _ _ _ _ _ _ _ _ _ _ _ _ _ _ _ _ _ _ _ _ _ _ _ _ _ _ _ _ _ _
theorem BJ (k:Int) (hk: ∀i:Int,1<=i->i<=7->k≠i) (op nm tx:List UInt8) (v:Int) (w:World) (A:Option Addr) (n c:Nat):
  Calls prog 125 #[.agg #[.int .i64 k, .string (ag op), .string (ag nm), .string (ag tx), .int .i64 v, .slice A n c]] w fun e w'=>e= .returned (.bool false)/\au w w':=by
 have e1:(k==1)=false:=beq_eq_false_iff_ne.2 (hk 1 (by decide) (by decide));have e2:(k==2)=false:=beq_eq_false_iff_ne.2 (hk 2 (by decide) (by decide));have e3:(k==3)=false:=beq_eq_false_iff_ne.2 (hk 3 (by decide) (by decide));have e4:(k==4)=false:=beq_eq_false_iff_ne.2 (hk 4 (by decide) (by decide));have e5:(k==5)=false:=beq_eq_false_iff_ne.2 (hk 5 (by decide) (by decide));have e6:(k==6)=false:=beq_eq_false_iff_ne.2 (hk 6 (by decide) (by decide));have e7:(k==7)=false:=beq_eq_false_iff_ne.2 (hk 7 (by decide) (by decide));have HE:=G ((O w (.cells #[.int .i64 k, .string (ag op), .string (ag nm), .string (ag tx), .int .i64 v, .slice A n c] 75)).trans (O _ (.cells #[.int .i64 k, .string ⟨#[]⟩, .string ⟨#[]⟩, .string ⟨#[]⟩, .int .i64 0, .slice none 0 0] 75)));clear hk;go_enter func125,ntmps125;go_wp2_with fail;go_ret;exact⟨rfl,HE.out⟩
theorem mi: ∀(m:Nat) (x:Ex),x.wt<=m->x.wt<=1073741824-> ∀(P:Nat->Prop) (w:World) (A:Option Addr) (n c:Nat),b8 w P (.slice A n c) x.args->
  Calls prog 125 #[.agg #[.int .i64 x.k, .string (ag x.op), .string (ag x.nm), .string (ag x.tx), .int .i64 x.v, .slice A n c]] w fun e w'=>e= .returned (.bool x.ok)/\au w w'
 |0,x,hm,_,_,_,_,_,_,_=>absurd hm (by have:=x.wt_eq;omega)
 |m+1,x,hm,hx,P,w,A,n,c,hR=>by
  have hw:=x.wt_eq;have hnl:=bF x.args;have hlen:=hR.len;have hI:jk x.args:=fun y hy P2 w2 A2 n2 c2 hR2=>by
   have hyw:=bX hy;exact mi m y (by omega) (by omega) P2 w2 A2 n2 c2 hR2
  have hn:n<=1073741824:=by omega
  obtain⟨k,op,nm,tx,v,xs⟩:=x;simp only[Ex.k,Ex.op,Ex.nm,Ex.tx,Ex.v,Ex.args]at*;rw[Ex.ok,<-hlen];have s0:=BB n;have s1:=BA n;have s2:=Bz n;have s4:=Bx n;by_cases h1:k=1
  ·subst h1;refine BI op nm tx v w A n c hn P xs hI hR _ ?_;rw[if_pos rfl,s0];simp only[beq_self_eq_true,cD,cg]
   ac_rfl
  by_cases h2:k=2
  ·subst h2;refine BH op nm tx v w A n c hn P xs hI hR (by omega) _ ?_;rw[if_neg h1,if_pos rfl,s0];simp only[beq_self_eq_true,cD,cg]
   ac_rfl
  by_cases h3:k=3
  ·subst h3;refine BG op nm tx v w A n c hn P xs hI hR (by omega) _ ?_;rw[if_neg h1,if_neg h2,if_pos rfl,s0];simp only[beq_self_eq_true,cD,cg]
   ac_rfl
  by_cases h4:k=4
  ·subst h4;refine BF op nm tx v w A n c hn P xs hI hR (by omega) _ ?_;rw[if_neg h1,if_neg h2,if_neg h3,if_pos rfl,s1];simp only[beq_self_eq_true,cD,cg]
   ac_rfl
  by_cases h5:k=5
  ·subst h5;refine BE op nm tx v w A n c hn P xs hI hR (by omega) _ ?_;rw[if_neg h1,if_neg h2,if_neg h3,if_neg h4,if_pos rfl,s4];simp only[beq_self_eq_true,cD,cg]
   ac_rfl
  by_cases h6:k=6
  ·subst h6;refine BD op nm tx v w A n c hn P xs hI hR _ ?_;rw[if_neg h1,if_neg h2,if_neg h3,if_neg h4,if_neg h5,if_pos rfl,s1];simp only[beq_self_eq_true,cD,cg]
   ac_rfl
  by_cases h7:k=7
  ·subst h7;refine BC op nm tx v w A n c hn P xs hI hR _ ?_;rw[if_neg h1,if_neg h2,if_neg h3,if_neg h4,if_neg h5,if_neg h6,if_pos rfl,s2];simp only[beq_self_eq_true,cD,cg]
   ac_rfl
  rw[if_neg h1,if_neg h2,if_neg h3,if_neg h4,if_neg h5,if_neg h6,if_neg h7];exact BJ k (fun i hi hj=>by omega) op nm tx v w A n c
end
section
open Go.RowKit
theorem oM (d:Nat) (h:d<10):Utf8.encode (48+(d:Int))=ag [UInt8.ofNat (48+d)]:=by
 have hc:d=0\/d=1\/d=2\/d=3\/d=4\/d=5\/d=6\/d=7\/d=8\/d=9:=by omega
 rcases hc with rfl|rfl|rfl|rfl|rfl|rfl|rfl|rfl|rfl|rfl<;>rfl
theorem lD: ∀(k n:Nat) (w:World),n<10^(k+1)->n<=2147483647->Calls prog 127 #[.int .i64 (n:Int)] w fun e w'=>e= .returned (.string (ag (eD n)))/\w=w':=by
 intro k
 induction k with
 |zero=>
  intro n w hn hm;have hn:n<10:=by simpa using hn
  have hn':(n:Int)<10:=by omega
  have he:=oM n hn;have HD:=G (show eD n=[UInt8.ofNat (48+n)] by rw[eD,if_pos hn]);generalize UInt8.ofNat (48+n)=y at*;go_enter func127,ntmps127;go_wp2_with fail;go_ret;exact⟨by rw[HD.out];rfl,rfl⟩
 |succ k ih=>
  intro n w hn hm;by_cases hn10:n<10
  ·have hn':(n:Int)<10:=by omega
   have he:=oM n hn10;have HD:=G (show eD n=[UInt8.ofNat (48+n)] by rw[eD,if_pos hn10]);generalize UInt8.ofNat (48+n)=y at*;clear ih;go_enter func127,ntmps127;go_wp2_with fail;go_ret;exact⟨by rw[HD.out];rfl,rfl⟩
  ·have hn': ¬(n:Int)<10:=by omega
   have HI:=G (ih (n/10) w (by rw[Nat.pow_succ]at hn;omega) (by omega));have hq:((n/10:Nat):Int)=(n:Int)/10:=by omega
   rw[hq]at HI;have he:=oM (n%10) (Nat.mod_lt _ (by omega));have hr:((n%10:Nat):Int)=(n:Int)%10:=by omega
   rw[hr]at he;have HD:=G (show eD n=eD (n/10)++[UInt8.ofNat (48+n%10)] by rw[eD,if_neg hn10]);have hlen:=jI 9 (n/10) (by omega);generalize eD (n/10)=x at*;generalize UInt8.ofNat (48+n%10)=y at*;have hsx:(ag x).size=x.length:=aL x;have hsy:(ag [y]).size=1:=rfl;have hxy:ag x++ag [y]=ag (x++[y]):=cd x [y];clear ih hq hr;go_enter func127,ntmps127;go_wp2_with (go_at_call 127;refine HI.out.mono ?_;rintro e w' ⟨rfl,rfl⟩);go_ret;exact⟨by rw[HD.out];rfl,rfl⟩
end
end Go.Proofs.YtddomeddabfinaaGreatDoor
