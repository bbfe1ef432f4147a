/- Parts of the proof. -/
import Derived.Test.YtoedmpgicdekmaaGreatDoorCl00
import Derived.Test.YtoedmpgicdekmaaGreatDoorCl09
import Derived.Shelf.Strings.Builder1
set_option maxRecDepth 100000
set_option maxHeartbeats 8000000
set_option linter.unusedVariables false
set_option linter.unusedSimpArgs false
set_option linter.defProp false
set_option linter.unusedSectionVars false
namespace Go.Proofs.YtoedmpgicdekmaaGreatDoor
open Go.Proofs.Tryz
section
open Go.RowKit
def Ft (w:World) (A:Option Addr) (n c:Nat) (r:Bool):Prop:= ∀w',au w w'->Calls prog 113 #[.slice A n c, .func (Fn.func 114) #[] #[]] w' λe w''=>e= .returned (.bool (!r))/\au w' w''
def Fs (w:World) (B C:Option Addr) (nb cb nl cl:Nat) (r:Bool):Prop:= ∀w' g,au w w'->aM w' g 78 #[.slice B nb cb, .slice C nl cl]->
 Calls prog 112 #[.slice (some ⟨g,0,none⟩) 2 2] w' λe w''=> ∃D k,e= .returned (.slice D (nb+nl) k)/\au w' w''/\ ∀w3,au w'' w3->
  Calls prog 116 #[.slice D (nb+nl) k, .func (Fn.func 117) #[] #[]] w3 λe w4=>e= .returned (.bool (!r))/\au w3 w4
theorem IZ (nm:List UInt8) (y:World) (M B C:Option Addr) (n c d I a H:Nat) (aT:n+d+a<=1073741824) (aD:nm.length<=1073741824) (r V:Bool) (an:Ft y M n c r) (ah:Fs y B C d I a H V):
  Calls prog 61 #[.agg #[.int .i64 1, .string (ak nm), .slice M n c, .slice B d I, .slice C a H]] y λe w'=>e= .returned (.bool ((eB nm&&decide (n<=1)&&d==0&&a==0)&&r&&V))/\au y w':=by
 have aS:(n:Int)<=1073741824:=Qa
 have aR:(d:Int)<=1073741824:=Qa
 have aQ:(a:Int)<=1073741824:=Qa
 have K:=G (aq y 147 #[.int .i64 1, .string (ak nm), .slice M n c, .slice B d I, .slice C a H]);have ap:=G (aa y (.cells #[.int .i64 1, .string (ak nm), .slice M n c, .slice B d I, .slice C a H] 147));have ad:=G an;have aK:=G ah;have ao:=G (dJ nm aD);generalize ai:(_&& _&& _:Bool)=R;have F:=G ai;clear an ah ai;generalize eB nm=b at*;go_enter func61,ntmps61;go_wp2_with fail;refine dA 11 3 [(2,λv=>v= .bool b,λ_ _=>True)] [] [3,4,5,6,7,8,9,10] mixed Qb Qb Qb Qf ⟨λ_ _ _ _ _=>trivial,trivial⟩ (λi aE=>by simp at aE) ?_;repeat (refine sx ?_ (λaz w=> ?_) ?_;rotate_left;(focus have aH:=(K.out.ext w.un).cell;clear w;go_simp<;>with_reducible rfl);simp only[bA,bx,bw,br,bo])
 refine so (λaf w ab ac o=> ?_) ?_
 ·clear ab w;go_simp;refine(ao.out af).mono ?_;rintro e aM ⟨rfl,rfl⟩;exact o _ _ (aG _) rfl trivial
 rintro _ rfl;simp only[bA,bx,bw,br,bo];repeat (refine sx ?_ (λaz w=> ?_) ?_;rotate_left;(focus have aH:=(K.out.ext w.un).cell;clear w;go_simp<;>with_reducible rfl);simp only[bA,bx,bw,br,bo])
 intro aN z ab aA;clear ab aA;simp only[ae,aw];refine aO Qf Qe (λac o=> ?_);go_simp;refine o _ _ z ?_;clear o;refine aO Qf Qe (λac o=> ?_);go_simp;refine o _ _ z ?_;clear o;refine aO Qf Qe (λac o=> ?_);go_simp;refine o _ _ z ?_;clear o;refine cL ?_;have ar:=G (K.out.ext z.un);have u:=G (ap.out.trans z.un);have aU:=ar.out.cell;clear z K ap ao
 cases b with
 |false=>
  have e0:=G (show R=false from by rw[<-F.out];rfl);go_wp2_with fail;go_ret;exact⟨by rw[e0.out];rfl,u.out⟩
 |true=>
  by_cases h1:n<=1
  rotate_left
  ·have aF: ¬(n:Int)<=1:=Qa
   have e0:=G (show R=false from by rw[<-F.out];simp[h1]);go_wp2_with fail;go_ret;exact⟨by rw[e0.out];rfl,u.out⟩
  ·have aF:(n:Int)<=1:=Qa
   generalize Z:decide (0<d)=ax at*
   cases ax with
   |true=>
    have aC: ¬d=0:=by have:=of_decide_eq_true Z;omega
    have e0:=G (show R=false from by rw[<-F.out];simp[h1,aC]);go_wp2_with fail;go_ret;exact⟨by rw[e0.out];rfl,u.out⟩
   |false=>
    obtain rfl:d=0:=by have:=of_decide_eq_false Z;omega
    clear Z;generalize X:decide (0<a)=av at*
    cases av with
    |true=>
     have aB: ¬a=0:=by have:=of_decide_eq_true X;omega
     have e0:=G (show R=false from by rw[<-F.out];simp[h1,aB]);go_wp2_with fail;go_ret;exact⟨by rw[e0.out];rfl,u.out⟩
    |false=>
     obtain rfl:a=0:=by have:=of_decide_eq_false X;omega
     clear X
     cases r with
     |false=>
      have e0:=G (show R=false from by rw[<-F.out];simp);go_wp2_with (go_at_call 113;refine(ad.out _ u.out).mono ?_;rintro e ag ⟨rfl,A⟩;have J:=G (u.out.trans A);clear A);go_ret;exact⟨by rw[e0.out];rfl,J.out⟩
     |true=>
      have e0:=G (show R=V from by rw[<-F.out];simp[h1]);go_wp2_with (first|(go_at_call 113;refine(ad.out _ u.out).mono ?_;rintro e ag ⟨rfl,A⟩;have J:=G (u.out.trans A);have aV:=(ar.out.ext A).cell;clear A ad)|(go_at_call 112;refine(aK.out _ _ (J.out.alloc' _) (aq ag _ _)).mono ?_;rintro e ay ⟨D,aP,rfl,am,aj⟩;have aJ:=G ((J.out.alloc' _).trans am);have aL:=G (aj ay (aG _));clear am aj)|(go_at_call 116;refine aL.out.mono ?_;rintro e af ⟨rfl,al⟩;have aI:=G (aJ.out.trans al);clear al));go_ret;exact⟨by rw[e0.out];rfl,aI.out⟩
theorem IY (nm:List UInt8) (y:World) (M B C:Option Addr) (n c d I a H:Nat) (aS:n+d+a<=1073741824) (aD:nm.length<=1073741824) (r V:Bool) (an:Ft y M n c r) (ah:Fs y B C d I a H V):
  Calls prog 61 #[.agg #[.int .i64 2, .string (ak nm), .slice M n c, .slice B d I, .slice C a H]] y λe w'=>e= .returned (.bool ((eB nm&&n==1&&d==0&&a==0)&&r&&V))/\au y w':=by
 have aR:(n:Int)<=1073741824:=Qa
 have aQ:(d:Int)<=1073741824:=Qa
 have aP:(a:Int)<=1073741824:=Qa
 have K:=G (aq y 147 #[.int .i64 2, .string (ak nm), .slice M n c, .slice B d I, .slice C a H]);have ap:=G (aa y (.cells #[.int .i64 2, .string (ak nm), .slice M n c, .slice B d I, .slice C a H] 147));have ad:=G an;have aJ:=G ah;have ao:=G (dJ nm aD);generalize ai:(_&& _&& _:Bool)=R;have F:=G ai;clear an ah ai;generalize eB nm=b at*;go_enter func61,ntmps61;go_wp2_with fail;refine dA 11 3 [(2,λv=>v= .bool b,λ_ _=>True)] [] [3,4,5,6,7,8,9,10] mixed Qb Qb Qb Qf ⟨λ_ _ _ _ _=>trivial,trivial⟩ (λi aE=>by simp at aE) ?_;repeat (refine sx ?_ (λaz w=> ?_) ?_;rotate_left;(focus have aF:=(K.out.ext w.un).cell;clear w;go_simp<;>with_reducible rfl);simp only[bA,bx,bw,br,bo])
 refine so (λaf w ab ac o=> ?_) ?_
 ·clear ab w;go_simp;refine(ao.out af).mono ?_;rintro e aL ⟨rfl,rfl⟩;exact o _ _ (aG _) rfl trivial
 rintro _ rfl;simp only[bA,bx,bw,br,bo];repeat (refine sx ?_ (λaz w=> ?_) ?_;rotate_left;(focus have aF:=(K.out.ext w.un).cell;clear w;go_simp<;>with_reducible rfl);simp only[bA,bx,bw,br,bo])
 intro aM z ab aA;clear ab aA;simp only[ae,aw];refine aO Qf Qe (λac o=> ?_);go_simp;refine o _ _ z ?_;clear o;refine aO Qf Qe (λac o=> ?_);go_simp;refine o _ _ z ?_;clear o;refine aO Qf Qe (λac o=> ?_);go_simp;refine o _ _ z ?_;clear o;refine cL ?_;have ar:=G (K.out.ext z.un);have u:=G (ap.out.trans z.un);have aT:=ar.out.cell;clear z K ap ao
 cases b with
 |false=>
  have e0:=G (show R=false from by rw[<-F.out];rfl);go_wp2_with fail;go_ret;exact⟨by rw[e0.out];rfl,u.out⟩
 |true=>
  by_cases h1:n=1
  rotate_left
  ·have aV:((n:Int)==1)=false:=by rw[Qn];omega
   have e0:=G (show R=false from by rw[<-F.out];simp[h1]);go_wp2_with fail;go_ret;exact⟨by rw[e0.out];rfl,u.out⟩
  ·subst h1;generalize Z:decide (0<d)=ax at*
   cases ax with
   |true=>
    have aC: ¬d=0:=by have:=of_decide_eq_true Z;omega
    have e0:=G (show R=false from by rw[<-F.out];simp[aC]);go_wp2_with fail;go_ret;exact⟨by rw[e0.out];rfl,u.out⟩
   |false=>
    obtain rfl:d=0:=by have:=of_decide_eq_false Z;omega
    clear Z;generalize X:decide (0<a)=av at*
    cases av with
    |true=>
     have aB: ¬a=0:=by have:=of_decide_eq_true X;omega
     have e0:=G (show R=false from by rw[<-F.out];simp[aB]);go_wp2_with fail;go_ret;exact⟨by rw[e0.out];rfl,u.out⟩
    |false=>
     obtain rfl:a=0:=by have:=of_decide_eq_false X;omega
     clear X
     cases r with
     |false=>
      have e0:=G (show R=false from by rw[<-F.out];simp);go_wp2_with (go_at_call 113;refine(ad.out _ u.out).mono ?_;rintro e ag ⟨rfl,A⟩;have J:=G (u.out.trans A);clear A);go_ret;exact⟨by rw[e0.out];rfl,J.out⟩
     |true=>
      have e0:=G (show R=V from by rw[<-F.out];simp[]);go_wp2_with (first|(go_at_call 113;refine(ad.out _ u.out).mono ?_;rintro e ag ⟨rfl,A⟩;have J:=G (u.out.trans A);have aU:=(ar.out.ext A).cell;clear A ad)|(go_at_call 112;refine(aJ.out _ _ (J.out.alloc' _) (aq ag _ _)).mono ?_;rintro e ay ⟨D,aN,rfl,am,aj⟩;have aI:=G ((J.out.alloc' _).trans am);have aK:=G (aj ay (aG _));clear am aj)|(go_at_call 116;refine aK.out.mono ?_;rintro e af ⟨rfl,al⟩;have aH:=G (aI.out.trans al);clear al));go_ret;exact⟨by rw[e0.out];rfl,aH.out⟩
theorem IX (nm:List UInt8) (y:World) (M B C:Option Addr) (n c d I a H:Nat) (aS:n+d+a<=1073741824) (aD:nm.length<=1073741824) (r V:Bool) (an:Ft y M n c r) (ah:Fs y B C d I a H V):
  Calls prog 61 #[.agg #[.int .i64 3, .string (ak nm), .slice M n c, .slice B d I, .slice C a H]] y λe w'=>e= .returned (.bool ((eB nm&&n==2&&d==0&&a==0)&&r&&V))/\au y w':=by
 have aR:(n:Int)<=1073741824:=Qa
 have aQ:(d:Int)<=1073741824:=Qa
 have aP:(a:Int)<=1073741824:=Qa
 have K:=G (aq y 147 #[.int .i64 3, .string (ak nm), .slice M n c, .slice B d I, .slice C a H]);have ap:=G (aa y (.cells #[.int .i64 3, .string (ak nm), .slice M n c, .slice B d I, .slice C a H] 147));have ad:=G an;have aJ:=G ah;have ao:=G (dJ nm aD);generalize ai:(_&& _&& _:Bool)=R;have F:=G ai;clear an ah ai;generalize eB nm=b at*;go_enter func61,ntmps61;go_wp2_with fail;refine dA 11 3 [(2,λv=>v= .bool b,λ_ _=>True)] [] [3,4,5,6,7,8,9,10] mixed Qb Qb Qb Qf ⟨λ_ _ _ _ _=>trivial,trivial⟩ (λi aE=>by simp at aE) ?_;repeat (refine sx ?_ (λaz w=> ?_) ?_;rotate_left;(focus have aF:=(K.out.ext w.un).cell;clear w;go_simp<;>with_reducible rfl);simp only[bA,bx,bw,br,bo])
 refine so (λaf w ab ac o=> ?_) ?_
 ·clear ab w;go_simp;refine(ao.out af).mono ?_;rintro e aL ⟨rfl,rfl⟩;exact o _ _ (aG _) rfl trivial
 rintro _ rfl;simp only[bA,bx,bw,br,bo];repeat (refine sx ?_ (λaz w=> ?_) ?_;rotate_left;(focus have aF:=(K.out.ext w.un).cell;clear w;go_simp<;>with_reducible rfl);simp only[bA,bx,bw,br,bo])
 intro aM z ab aA;clear ab aA;simp only[ae,aw];refine aO Qf Qe (λac o=> ?_);go_simp;refine o _ _ z ?_;clear o;refine aO Qf Qe (λac o=> ?_);go_simp;refine o _ _ z ?_;clear o;refine aO Qf Qe (λac o=> ?_);go_simp;refine o _ _ z ?_;clear o;refine cL ?_;have ar:=G (K.out.ext z.un);have u:=G (ap.out.trans z.un);have aT:=ar.out.cell;clear z K ap ao
 cases b with
 |false=>
  have e0:=G (show R=false from by rw[<-F.out];rfl);go_wp2_with fail;go_ret;exact⟨by rw[e0.out];rfl,u.out⟩
 |true=>
  by_cases h2:n=2
  rotate_left
  ·have aV:((n:Int)==2)=false:=by rw[Qn];omega
   have e0:=G (show R=false from by rw[<-F.out];simp[h2]);go_wp2_with fail;go_ret;exact⟨by rw[e0.out];rfl,u.out⟩
  ·subst h2;generalize Z:decide (0<d)=ax at*
   cases ax with
   |true=>
    have aC: ¬d=0:=by have:=of_decide_eq_true Z;omega
    have e0:=G (show R=false from by rw[<-F.out];simp[aC]);go_wp2_with fail;go_ret;exact⟨by rw[e0.out];rfl,u.out⟩
   |false=>
    obtain rfl:d=0:=by have:=of_decide_eq_false Z;omega
    clear Z;generalize X:decide (0<a)=av at*
    cases av with
    |true=>
     have aB: ¬a=0:=by have:=of_decide_eq_true X;omega
     have e0:=G (show R=false from by rw[<-F.out];simp[aB]);go_wp2_with fail;go_ret;exact⟨by rw[e0.out];rfl,u.out⟩
    |false=>
     obtain rfl:a=0:=by have:=of_decide_eq_false X;omega
     clear X
     cases r with
     |false=>
      have e0:=G (show R=false from by rw[<-F.out];simp);go_wp2_with (go_at_call 113;refine(ad.out _ u.out).mono ?_;rintro e ag ⟨rfl,A⟩;have J:=G (u.out.trans A);clear A);go_ret;exact⟨by rw[e0.out];rfl,J.out⟩
     |true=>
      have e0:=G (show R=V from by rw[<-F.out];simp[]);go_wp2_with (first|(go_at_call 113;refine(ad.out _ u.out).mono ?_;rintro e ag ⟨rfl,A⟩;have J:=G (u.out.trans A);have aU:=(ar.out.ext A).cell;clear A ad)|(go_at_call 112;refine(aJ.out _ _ (J.out.alloc' _) (aq ag _ _)).mono ?_;rintro e ay ⟨D,aN,rfl,am,aj⟩;have aI:=G ((J.out.alloc' _).trans am);have aK:=G (aj ay (aG _));clear am aj)|(go_at_call 116;refine aK.out.mono ?_;rintro e af ⟨rfl,al⟩;have aH:=G (aI.out.trans al);clear al));go_ret;exact⟨by rw[e0.out];rfl,aH.out⟩
theorem IW (nm:List UInt8) (o:World) (M B C:Option Addr) (n c w H u F:Nat) (aL:n+w+u<=1073741824) (ax:nm.length<=1073741824) (r V:Bool) (al:Ft o M n c r) (af:Fs o B C w H u F V):
  Calls prog 61 #[.agg #[.int .i64 4, .string (ak nm), .slice M n c, .slice B w H, .slice C u F]] o λe w'=>e= .returned (.bool ((nm==[]&&n==1)&&r&&V))/\au o w':=by
 have aK:(n:Int)<=1073741824:=Qa
 have aJ:(w:Int)<=1073741824:=Qa
 have aI:(u:Int)<=1073741824:=Qa
 have K:=G (aq o 147 #[.int .i64 4, .string (ak nm), .slice M n c, .slice B w H, .slice C u F]);have an:=G (aa o (.cells #[.int .i64 4, .string (ak nm), .slice M n c, .slice B w H, .slice C u F] 147));have ab:=G al;have aC:=G af;have am:=G (dJ nm ax);generalize ag:(_&& _&& _:Bool)=R;have J:=G ag;clear al af ag;generalize eB nm=b at*;go_enter func61,ntmps61;go_wp2_with fail;refine dA 11 3 [(2,λv=>v= .bool b,λ_ _=>True)] [] [3,4,5,6,7,8,9,10] mixed Qb Qb Qb Qf ⟨λ_ _ _ _ _=>trivial,trivial⟩ (λi ay=>by simp at ay) ?_;repeat (refine sx ?_ (λar d=> ?_) ?_;rotate_left;(focus have az:=(K.out.ext d.un).cell;clear d;go_simp<;>with_reducible rfl);simp only[bA,bx,bw,br,bo])
 refine so (λac d X Z a=> ?_) ?_
 ·clear X d;go_simp;refine(am.out ac).mono ?_;rintro e aE ⟨rfl,rfl⟩;exact a _ _ (aG _) rfl trivial
 rintro _ rfl;simp only[bA,bx,bw,br,bo];repeat (refine sx ?_ (λar d=> ?_) ?_;rotate_left;(focus have az:=(K.out.ext d.un).cell;clear d;go_simp<;>with_reducible rfl);simp only[bA,bx,bw,br,bo])
 intro aF y X av;clear X av;simp only[ae,aw];refine aO Qf Qe (λZ a=> ?_);go_simp;refine a _ _ y ?_;clear a;refine aO Qf Qe (λZ a=> ?_);go_simp;refine a _ _ y ?_;clear a;refine aO Qf Qe (λZ a=> ?_);go_simp;refine a _ _ y ?_;clear a;refine cL ?_;have ao:=G (K.out.ext y.un);have A:=G (an.out.trans y.un);have aM:=ao.out.cell;clear y K an am
 cases hnm:(nm==[])with
 |false=>
  have e0:=G (show R=false from by rw[<-J.out];simp[hnm]);go_wp2_with fail;go_ret;exact⟨by rw[e0.out];rfl,A.out⟩
 |true=>
  by_cases h1:n=1
  rotate_left
  ·have aP:((n:Int)==1)=false:=by rw[Qn];omega
   have e0:=G (show R=false from by rw[<-J.out];simp[hnm,h1]);go_wp2_with fail;go_ret;exact⟨by rw[e0.out];rfl,A.out⟩
  ·subst h1
   cases r with
   |false=>
    have e0:=G (show R=false from by rw[<-J.out];simp);go_wp2_with (go_at_call 113;refine(ab.out _ A.out).mono ?_;rintro e ad ⟨rfl,z⟩;have I:=G (A.out.trans z);clear z);go_ret;exact⟨by rw[e0.out];rfl,I.out⟩
   |true=>
    have e0:=G (show R=V from by rw[<-J.out];simp[hnm]);go_wp2_with (first|(go_at_call 113;refine(ab.out _ A.out).mono ?_;rintro e ad ⟨rfl,z⟩;have I:=G (A.out.trans z);have aN:=(ao.out.ext z).cell;clear z ab)|(go_at_call 112;refine(aC.out _ _ (I.out.alloc' _) (aq ad _ _)).mono ?_;rintro e ap ⟨D,aH,rfl,aj,ah⟩;have aB:=G ((I.out.alloc' _).trans aj);have aD:=G (ah ap (aG _));clear aj ah)|(go_at_call 116;refine aD.out.mono ?_;rintro e ac ⟨rfl,ai⟩;have aA:=G (aB.out.trans ai);clear ai));go_ret;exact⟨by rw[e0.out];rfl,aA.out⟩
theorem IV (nm:List UInt8) (w:World) (M B C:Option Addr) (n c y I a H:Nat) (aP:n+y+a<=1073741824) (aA:nm.length<=1073741824) (r V:Bool) (am:Ft w M n c r) (ag:Fs w B C y I a H V):
  Calls prog 61 #[.agg #[.int .i64 5, .string (ak nm), .slice M n c, .slice B y I, .slice C a H]] w λe w'=>e= .returned (.bool ((nm==[]&&n==1&&a==0)&&r&&V))/\au w w':=by
 have aN:(n:Int)<=1073741824:=Qa
 have aM:(y:Int)<=1073741824:=Qa
 have aL:(a:Int)<=1073741824:=Qa
 have K:=G (aq w 147 #[.int .i64 5, .string (ak nm), .slice M n c, .slice B y I, .slice C a H]);have ao:=G (aa w (.cells #[.int .i64 5, .string (ak nm), .slice M n c, .slice B y I, .slice C a H] 147));have ac:=G am;have aF:=G ag;have an:=G (dJ nm aA);generalize ah:(_&& _&& _:Bool)=R;have F:=G ah;clear am ag ah;generalize eB nm=b at*;go_enter func61,ntmps61;go_wp2_with fail;refine dA 11 3 [(2,λv=>v= .bool b,λ_ _=>True)] [] [3,4,5,6,7,8,9,10] mixed Qb Qb Qb Qf ⟨λ_ _ _ _ _=>trivial,trivial⟩ (λi aB=>by simp at aB) ?_;repeat (refine sx ?_ (λax o=> ?_) ?_;rotate_left;(focus have aC:=(K.out.ext o.un).cell;clear o;go_simp<;>with_reducible rfl);simp only[bA,bx,bw,br,bo])
 refine so (λad o Z ab d=> ?_) ?_
 ·clear Z o;go_simp;refine(an.out ad).mono ?_;rintro e aI ⟨rfl,rfl⟩;exact d _ _ (aG _) rfl trivial
 rintro _ rfl;simp only[bA,bx,bw,br,bo];repeat (refine sx ?_ (λax o=> ?_) ?_;rotate_left;(focus have aC:=(K.out.ext o.un).cell;clear o;go_simp<;>with_reducible rfl);simp only[bA,bx,bw,br,bo])
 intro aJ z Z ay;clear Z ay;simp only[ae,aw];refine aO Qf Qe (λab d=> ?_);go_simp;refine d _ _ z ?_;clear d;refine aO Qf Qe (λab d=> ?_);go_simp;refine d _ _ z ?_;clear d;refine aO Qf Qe (λab d=> ?_);go_simp;refine d _ _ z ?_;clear d;refine cL ?_;have ap:=G (K.out.ext z.un);have u:=G (ao.out.trans z.un);have aQ:=ap.out.cell;clear z K ao an
 cases hnm:(nm==[])with
 |false=>
  have e0:=G (show R=false from by rw[<-F.out];simp[hnm]);go_wp2_with fail;go_ret;exact⟨by rw[e0.out];rfl,u.out⟩
 |true=>
  by_cases h1:n=1
  rotate_left
  ·have aS:((n:Int)==1)=false:=by rw[Qn];omega
   have e0:=G (show R=false from by rw[<-F.out];simp[hnm,h1]);go_wp2_with fail;go_ret;exact⟨by rw[e0.out];rfl,u.out⟩
  ·subst h1;generalize X:decide (0<a)=ar at*
   cases ar with
   |true=>
    have az: ¬a=0:=by have:=of_decide_eq_true X;omega
    have e0:=G (show R=false from by rw[<-F.out];simp[hnm,az]);go_wp2_with fail;go_ret;exact⟨by rw[e0.out];rfl,u.out⟩
   |false=>
    obtain rfl:a=0:=by have:=of_decide_eq_false X;omega
    clear X
    cases r with
    |false=>
     have e0:=G (show R=false from by rw[<-F.out];simp);go_wp2_with (go_at_call 113;refine(ac.out _ u.out).mono ?_;rintro e af ⟨rfl,A⟩;have J:=G (u.out.trans A);clear A);go_ret;exact⟨by rw[e0.out];rfl,J.out⟩
    |true=>
     have e0:=G (show R=V from by rw[<-F.out];simp[hnm]);go_wp2_with (first|(go_at_call 113;refine(ac.out _ u.out).mono ?_;rintro e af ⟨rfl,A⟩;have J:=G (u.out.trans A);have aR:=(ap.out.ext A).cell;clear A ac)|(go_at_call 112;refine(aF.out _ _ (J.out.alloc' _) (aq af _ _)).mono ?_;rintro e av ⟨D,aK,rfl,al,ai⟩;have aE:=G ((J.out.alloc' _).trans al);have aH:=G (ai av (aG _));clear al ai)|(go_at_call 116;refine aH.out.mono ?_;rintro e ad ⟨rfl,aj⟩;have aD:=G (aE.out.trans aj);clear aj));go_ret;exact⟨by rw[e0.out];rfl,aD.out⟩
theorem IU (nm:List UInt8) (y:World) (M B C:Option Addr) (n c d I a H:Nat) (aT:n+d+a<=1073741824) (aD:nm.length<=1073741824) (r V:Bool) (an:Ft y M n c r) (ah:Fs y B C d I a H V):
  Calls prog 61 #[.agg #[.int .i64 6, .string (ak nm), .slice M n c, .slice B d I, .slice C a H]] y λe w'=>e= .returned (.bool ((nm==[]&&decide (n<=1)&&d==0&&a==0)&&r&&V))/\au y w':=by
 have aS:(n:Int)<=1073741824:=Qa
 have aR:(d:Int)<=1073741824:=Qa
 have aQ:(a:Int)<=1073741824:=Qa
 have K:=G (aq y 147 #[.int .i64 6, .string (ak nm), .slice M n c, .slice B d I, .slice C a H]);have ap:=G (aa y (.cells #[.int .i64 6, .string (ak nm), .slice M n c, .slice B d I, .slice C a H] 147));have ad:=G an;have aK:=G ah;have ao:=G (dJ nm aD);generalize ai:(_&& _&& _:Bool)=R;have F:=G ai;clear an ah ai;generalize eB nm=b at*;go_enter func61,ntmps61;go_wp2_with fail;refine dA 11 3 [(2,λv=>v= .bool b,λ_ _=>True)] [] [3,4,5,6,7,8,9,10] mixed Qb Qb Qb Qf ⟨λ_ _ _ _ _=>trivial,trivial⟩ (λi aE=>by simp at aE) ?_;repeat (refine sx ?_ (λaz w=> ?_) ?_;rotate_left;(focus have aH:=(K.out.ext w.un).cell;clear w;go_simp<;>with_reducible rfl);simp only[bA,bx,bw,br,bo])
 refine so (λaf w ab ac o=> ?_) ?_
 ·clear ab w;go_simp;refine(ao.out af).mono ?_;rintro e aM ⟨rfl,rfl⟩;exact o _ _ (aG _) rfl trivial
 rintro _ rfl;simp only[bA,bx,bw,br,bo];repeat (refine sx ?_ (λaz w=> ?_) ?_;rotate_left;(focus have aH:=(K.out.ext w.un).cell;clear w;go_simp<;>with_reducible rfl);simp only[bA,bx,bw,br,bo])
 intro aN z ab aA;clear ab aA;simp only[ae,aw];refine aO Qf Qe (λac o=> ?_);go_simp;refine o _ _ z ?_;clear o;refine aO Qf Qe (λac o=> ?_);go_simp;refine o _ _ z ?_;clear o;refine aO Qf Qe (λac o=> ?_);go_simp;refine o _ _ z ?_;clear o;refine cL ?_;have ar:=G (K.out.ext z.un);have u:=G (ap.out.trans z.un);have aU:=ar.out.cell;clear z K ap ao
 cases hnm:(nm==[])with
 |false=>
  have e0:=G (show R=false from by rw[<-F.out];simp[hnm]);go_wp2_with fail;go_ret;exact⟨by rw[e0.out];rfl,u.out⟩
 |true=>
  by_cases h1:n<=1
  rotate_left
  ·have aF: ¬(n:Int)<=1:=Qa
   have e0:=G (show R=false from by rw[<-F.out];simp[hnm,h1]);go_wp2_with fail;go_ret;exact⟨by rw[e0.out];rfl,u.out⟩
  ·have aF:(n:Int)<=1:=Qa
   generalize Z:decide (0<d)=ax at*
   cases ax with
   |true=>
    have aC: ¬d=0:=by have:=of_decide_eq_true Z;omega
    have e0:=G (show R=false from by rw[<-F.out];simp[hnm,h1,aC]);go_wp2_with fail;go_ret;exact⟨by rw[e0.out];rfl,u.out⟩
   |false=>
    obtain rfl:d=0:=by have:=of_decide_eq_false Z;omega
    clear Z;generalize X:decide (0<a)=av at*
    cases av with
    |true=>
     have aB: ¬a=0:=by have:=of_decide_eq_true X;omega
     have e0:=G (show R=false from by rw[<-F.out];simp[hnm,h1,aB]);go_wp2_with fail;go_ret;exact⟨by rw[e0.out];rfl,u.out⟩
    |false=>
     obtain rfl:a=0:=by have:=of_decide_eq_false X;omega
     clear X
     cases r with
     |false=>
      have e0:=G (show R=false from by rw[<-F.out];simp);go_wp2_with (go_at_call 113;refine(ad.out _ u.out).mono ?_;rintro e ag ⟨rfl,A⟩;have J:=G (u.out.trans A);clear A);go_ret;exact⟨by rw[e0.out];rfl,J.out⟩
     |true=>
      have e0:=G (show R=V from by rw[<-F.out];simp[hnm,h1]);go_wp2_with (first|(go_at_call 113;refine(ad.out _ u.out).mono ?_;rintro e ag ⟨rfl,A⟩;have J:=G (u.out.trans A);have aV:=(ar.out.ext A).cell;clear A ad)|(go_at_call 112;refine(aK.out _ _ (J.out.alloc' _) (aq ag _ _)).mono ?_;rintro e ay ⟨D,aP,rfl,am,aj⟩;have aJ:=G ((J.out.alloc' _).trans am);have aL:=G (aj ay (aG _));clear am aj)|(go_at_call 116;refine aL.out.mono ?_;rintro e af ⟨rfl,al⟩;have aI:=G (aJ.out.trans al);clear al));go_ret;exact⟨by rw[e0.out];rfl,aI.out⟩
theorem IT (nm:List UInt8) (w:World) (I B C:Option Addr) (n c d K a J:Nat) (aZ:n+d+a<=1073741824) (aH:nm.length<=1073741824) (r X:Bool) (ar:Ft w I n c r) (al:Fs w B C d K a J X) (Z:Int) (y:n=1-> ∃b aj,I=some ⟨b,aj,none⟩/\b<w.heap.size/\w.cell? ⟨b,aj,none⟩=some (.int .i64 Z)):
  Calls prog 61 #[.agg #[.int .i64 7, .string (ak nm), .slice I n c, .slice B d K, .slice C a J]] w λe w'=>e= .returned (.bool ((nm==[]&&n==1&&Z==5&&d==0&&a==0)&&r&&X))/\au w w':=by
 have aY:(n:Int)<=1073741824:=Qa
 have aX:(d:Int)<=1073741824:=Qa
 have aW:(a:Int)<=1073741824:=Qa
 have V:=G (aq w 147 #[.int .i64 7, .string (ak nm), .slice I n c, .slice B d K, .slice C a J]);have ax:=G (aa w (.cells #[.int .i64 7, .string (ak nm), .slice I n c, .slice B d K, .slice C a J] 147));have ag:=G ar;have aP:=G al;have aR:=G y;clear y;have av:=G (dJ nm aH);generalize am:(_&& _&& _:Bool)=R;have A:=G am;clear ar al am;generalize eB nm=b at*;go_enter func61,ntmps61;go_wp2_with fail;refine dA 11 3 [(2,λv=>v= .bool b,λ_ _=>True)] [] [3,4,5,6,7,8,9,10] mixed Qb Qb Qb Qf ⟨λ_ _ _ _ _=>trivial,trivial⟩ (λi aJ=>by simp at aJ) ?_;repeat (refine sx ?_ (λaC z=> ?_) ?_;rotate_left;(focus have aL:=(V.out.ext z.un).cell;clear z;go_simp<;>with_reducible rfl);simp only[bA,bx,bw,br,bo])
 refine so (λah z ad af o=> ?_) ?_
 ·clear ad z;go_simp;refine(av.out ah).mono ?_;rintro e aS ⟨rfl,rfl⟩;exact o _ _ (aG _) rfl trivial
 rintro _ rfl;simp only[bA,bx,bw,br,bo];repeat (refine sx ?_ (λaC z=> ?_) ?_;rotate_left;(focus have aL:=(V.out.ext z.un).cell;clear z;go_simp<;>with_reducible rfl);simp only[bA,bx,bw,br,bo])
 intro aT F ad aD;clear ad aD;simp only[ae,aw];refine aO Qf Qe (λaf o=> ?_);go_simp;refine o _ _ F ?_;clear o;refine aO Qf Qe (λaf o=> ?_);go_simp;refine o _ _ F ?_;clear o;refine aO Qf Qe (λaf o=> ?_);go_simp;refine o _ _ F ?_;clear o;refine cL ?_;have ay:=G (V.out.ext F.un);have u:=G (ax.out.trans F.un);have a2:=ay.out.cell;clear F V ax av
 cases hnm:(nm==[])with
 |false=>
  have e0:=G (show R=false from by rw[<-A.out];simp[hnm]);go_wp2_with fail;go_ret;exact⟨by rw[e0.out];rfl,u.out⟩
 |true=>
  by_cases h1:n=1
  rotate_left
  ·have a4:((n:Int)==1)=false:=by rw[Qn];omega
   have e0:=G (show R=false from by rw[<-A.out];simp[hnm,h1]);go_wp2_with fail;go_ret;exact⟨by rw[e0.out];rfl,u.out⟩
  ·subst h1;obtain⟨b0,aU,rfl,aK,aI⟩:=aR.out rfl;have a1:=(u.out.cell b0 _ aK).trans aI
   cases y:(Z==5)with
   |false=>
    have e0:=G (show R=false from by rw[<-A.out];simp[hnm,y]);go_wp2_with fail;go_ret;exact⟨by rw[e0.out];rfl,u.out⟩
   |true=>
    generalize ac:decide (0<d)=aA at*
    cases aA with
    |true=>
     have aF: ¬d=0:=by have:=of_decide_eq_true ac;omega
     have e0:=G (show R=false from by rw[<-A.out];simp[hnm,y,aF]);go_wp2_with fail;go_ret;exact⟨by rw[e0.out];rfl,u.out⟩
    |false=>
     obtain rfl:d=0:=by have:=of_decide_eq_false ac;omega
     clear ac;generalize ab:decide (0<a)=az at*
     cases az with
     |true=>
      have aE: ¬a=0:=by have:=of_decide_eq_true ab;omega
      have e0:=G (show R=false from by rw[<-A.out];simp[hnm,y,aE]);go_wp2_with fail;go_ret;exact⟨by rw[e0.out];rfl,u.out⟩
     |false=>
      obtain rfl:a=0:=by have:=of_decide_eq_false ab;omega
      clear ab
      cases r with
      |false=>
       have e0:=G (show R=false from by rw[<-A.out];simp);go_wp2_with (go_at_call 113;refine(ag.out _ u.out).mono ?_;rintro e ai ⟨rfl,H⟩;have M:=G (u.out.trans H);clear H);go_ret;exact⟨by rw[e0.out];rfl,M.out⟩
      |true=>
       have e0:=G (show R=X from by rw[<-A.out];simp[hnm,y]);go_wp2_with (first|(go_at_call 113;refine(ag.out _ u.out).mono ?_;rintro e ai ⟨rfl,H⟩;have M:=G (u.out.trans H);have a3:=(ay.out.ext H).cell;clear H ag)|(go_at_call 112;refine(aP.out _ _ (M.out.alloc' _) (aq ai _ _)).mono ?_;rintro e aB ⟨D,aV,rfl,ap,an⟩;have aN:=G ((M.out.alloc' _).trans ap);have aQ:=G (an aB (aG _));clear ap an)|(go_at_call 116;refine aQ.out.mono ?_;rintro e ah ⟨rfl,ao⟩;have aM:=G (aN.out.trans ao);clear ao));go_ret;exact⟨by rw[e0.out];rfl,aM.out⟩
theorem I0 (k:Int) (d: ∀i:Int,1<=i->i<=7->k≠i) (nm:List UInt8) (z:World) (K B C:Option Addr) (n c y I w H:Nat) (an:n+y+w<=1073741824) (ab:nm.length<=1073741824):
  Calls prog 61 #[.agg #[.int .i64 k, .string (ak nm), .slice K n c, .slice B y I, .slice C w H]] z λe w'=>e= .returned (.bool false)/\au z w':=by
 have M:=G (dJ nm ab);generalize eB nm=b at*;have aA:(k==1)=false:=Qn.2 (d 1 Qd Qd);have az:(k==2)=false:=Qn.2 (d 2 Qd Qd);have ay:(k==3)=false:=Qn.2 (d 3 Qd Qd);have ax:(k==4)=false:=Qn.2 (d 4 Qd Qd);have av:(k==5)=false:=Qn.2 (d 5 Qd Qd);have ar:(k==6)=false:=Qn.2 (d 6 Qd Qd);have ap:(k==7)=false:=Qn.2 (d 7 Qd Qd);have am:(n:Int)<=1073741824:=Qa
 have al:(y:Int)<=1073741824:=Qa
 have aj:(w:Int)<=1073741824:=Qa
 have A:=G (aq z 147 #[.int .i64 k, .string (ak nm), .slice K n c, .slice B y I, .slice C w H]);have R:=G (aa z (.cells #[.int .i64 k, .string (ak nm), .slice K n c, .slice B y I, .slice C w H] 147));clear d;go_enter func61,ntmps61;go_wp2_with fail;refine dA 11 3 [(2,λv=>v= .bool b,λ_ _=>True)] [] [3,4,5,6,7,8,9,10] mixed Qb Qb Qb Qf ⟨λ_ _ _ _ _=>trivial,trivial⟩ (λi ac=>by simp at ac) ?_;repeat (refine sx ?_ (λX o=> ?_) ?_;rotate_left;(focus have ad:=(A.out.ext o.un).cell;clear o;go_simp<;>with_reducible rfl);simp only[bA,bx,bw,br,bo])
 refine so (λV o F J a=> ?_) ?_
 ·clear F o;go_simp;refine(M.out V).mono ?_;rintro e ah ⟨rfl,rfl⟩;exact a _ _ (aG _) rfl trivial
 rintro _ rfl;simp only[bA,bx,bw,br,bo];repeat (refine sx ?_ (λX o=> ?_) ?_;rotate_left;(focus have ad:=(A.out.ext o.un).cell;clear o;go_simp<;>with_reducible rfl);simp only[bA,bx,bw,br,bo])
 intro ai u F Z;clear F Z;simp only[ae,aw];refine aO Qf Qe (λJ a=> ?_);go_simp;refine a _ _ u ?_;clear a;refine aO Qf Qe (λJ a=> ?_);go_simp;refine a _ _ u ?_;clear a;refine aO Qf Qe (λJ a=> ?_);go_simp;refine a _ _ u ?_;clear a;refine cL ?_;have ag:=G (A.out.ext u.un);have af:=G (R.out.trans u.un);have ao:=ag.out.cell;clear u A R M;go_wp2_with fail;go_ret;exact⟨rfl,af.out⟩
theorem xy: ∀l:List St,l.any (λa=> !a.ok)= !rD l
 | []=>rfl
 |x::r=>by simp only[iu,rD,xy r,Bool.not_and]
theorem Du (a b:List St):rD (a++b)=(rD a&&rD b):=by rw[kH,kH,kH,iU]
theorem x8 (a:St) (w':World) (B A z:Option Addr) (y w u:Nat) (H: ∀o,au w' o->Calls prog 61 #[.agg #[.int .i64 a.k, .string (ak a.nm), .slice B a.ex.length y, .slice A a.body.length w, .slice z a.els.length u]] o λe d=>e= .returned (.bool a.ok)/\au o d):
  Calls prog 117 #[.agg #[.int .i64 a.k, .string (ak a.nm), .slice B a.ex.length y, .slice A a.body.length w, .slice z a.els.length u]] w' λe d=>e= .returned (.bool (!a.ok))/\au w' d:=by
 have K:=G H;have I:=G (aa w' (.cells #[.int .i64 a.k, .string (ak a.nm), .slice B a.ex.length y, .slice A a.body.length w, .slice z a.els.length u] 147));clear H;generalize a.ex.length=n at*;generalize a.body.length=V at*;generalize a.els.length=R at*;go_enter func117,ntmps117;go_wp2_with (refine(K.out _ I.out).mono ?_;rintro e M ⟨rfl,F⟩;have J:=G (I.out.trans F);clear F);go_ret;exact⟨rfl,J.out⟩
theorem pY: ∀(m:Nat) (x:St),x.wt<=m->x.wt<=1073741824-> ∀(P:Nat->Prop) (a:World) (y B C:Option Addr) (n c h w d u:Nat),dL a P (.slice y n c) x.ex->ed a P (.slice B h w) x.body->ed a P (.slice C d u) x.els->
  Calls prog 61 #[.agg #[.int .i64 x.k, .string (ak x.nm), .slice y n c, .slice B h w, .slice C d u]] a λe w'=>e= .returned (.bool x.ok)/\au a w'
 |0,x,hm,_,_,_,_,_,_,_,_,_,_,_,_,_,_,_=>absurd hm (by have:=x.wt_eq;omega)
 |m+1,x,hm,hx,P,a,y,B,C,n,c,h,w,d,u,X,hRb,hRl=>by
  have aG:=x.wt_eq;have F:=X.len;have V:=hRb.len;have M:=hRl.len;have aI:=eg x.ex;have aJ:=fd x.body;have aH:=fd x.els;have K:Ft a y n c (zD x.ex):=λw' Z=>by
   refine(zg (λz=> !z.ok) x.ex P w' y n c (X.keep (.of_ext Z) (λ_ o _=>o)) Qa (λz ae ab B ar aC=> ?_)).mono ?_
   ·have ad:=em ae;exact rp z ab B ar (λaa aj=>qa _ z (ah _) Qa P aa B _ ar (aC.keep (.of_ext aj) (λ_ o _=>o))) _ (.inr rfl)
   ·rintro e ab ⟨rfl,A⟩;exact⟨by rw[sM],A⟩
  have J:Fs a B C h w d u (rD x.body&&rD x.els):=λw' g Z aE=>by
   refine(qB P w' g B C h d w u x.body x.els aE (hRb.keep (.of_ext Z) (λ_ o _=>o)) (hRl.keep (.of_ext Z) (λ_ o _=>o)) Qa).mono ?_;rintro e ab ⟨⟨D,k,rfl,aB⟩,aD⟩;refine⟨D,k,rfl,aD,λaa aj=> ?_⟩;refine(BU (λz=> !z.ok) (x.body++x.els) _ aa D (h+d) k (aB.keep (.of_ext aj) (λ_ o _=>o)) (by simp only[ac];omega) (λz ae am ay ax aw aq ap ao af=> ?_)).mono ?_
   ·have ad:z.wt<=m/\z.wt<=1073741824:=by
     rcases List.mem_append.1 ae with R|R
     ·have:=cI R;omega
     ·have:=cI R;omega
    exact x8 z am ay ax aw aq ap ao (λaz ag=>pY m z ad.1 ad.2 _ az ay ax aw _ aq _ ap _ ao (af.1.keep (.of_ext ag) (λ_ o _=>o)) (af.2.1.keep (.of_ext ag) (λ_ o _=>o)) (af.2.2.keep (.of_ext ag) (λ_ o _=>o)))
   ·rintro e am ⟨rfl,A⟩;exact⟨by rw[xy,Du],A⟩
  have G:n+h+d<=1073741824:=Qa
  have H:x.nm.length<=1073741824:=Qa
  obtain⟨k,nm,xs,av,an⟩:=x;simp only[St.k,St.nm,St.ex,St.body,St.els]at*;have I: ∀al,al=St.ok (.mk k nm xs av an)->Calls prog 61 #[.agg #[.int .i64 k, .string (ak nm), .slice y n c, .slice B h w, .slice C d u]] a (λe w'=>e= .returned (.bool al)/\au a w')->Calls prog 61 #[.agg #[.int .i64 k, .string (ak nm), .slice y n c, .slice B h w, .slice C d u]] a λe w'=>e= .returned (.bool (St.ok (.mk k nm xs av an)))/\au a w':=λal X R=>by rw[<-X];exact R
  by_cases h1:k=1
  ·subst h1;exact I _ (by rw[St.ok,if_pos rfl,<-F,<-V,<-M]) (IZ nm a y B C n c h w d u G H _ _ K J)
  by_cases A:k=2
  ·subst A;exact I _ (by rw[St.ok,if_neg h1,if_pos rfl,<-F,<-V,<-M]) (IY nm a y B C n c h w d u G H _ _ K J)
  by_cases h3:k=3
  ·subst h3;exact I _ (by rw[St.ok,if_neg h1,if_neg A,if_pos rfl,<-F,<-V,<-M]) (IX nm a y B C n c h w d u G H _ _ K J)
  by_cases h4:k=4
  ·subst h4;exact I _ (by rw[St.ok,if_neg h1,if_neg A,if_neg h3,if_pos rfl,<-F]) (IW nm a y B C n c h w d u G H _ _ K J)
  by_cases h5:k=5
  ·subst h5;exact I _ (by rw[St.ok,if_neg h1,if_neg A,if_neg h3,if_neg h4,if_pos rfl,<-F,<-M]) (IV nm a y B C n c h w d u G H _ _ K J)
  by_cases h6:k=6
  ·subst h6;exact I _ (by rw[St.ok,if_neg h1,if_neg A,if_neg h3,if_neg h4,if_neg h5,if_pos rfl,<-F,<-V,<-M]) (IU nm a y B C n c h w d u G H _ _ K J)
  by_cases h7:k=7
  ·subst h7;refine I _ ?_ (IT nm a y B C n c h w d u G H _ _ K J ((xs.head?.map Ex.k).getD 0) λR=> ?_)
   ·rw[St.ok,if_neg h1,if_neg A,if_neg h3,if_neg h4,if_neg h5,if_neg h6,if_pos rfl,<-F,<-V,<-M]
    cases xs with
    |nil=>simp only[ai]at F;subst F;simp
    |cons z r=>simp
   ·obtain⟨b,aA,aM,rfl,o,_,aF,_⟩:=X.at_ 0 Qa;refine⟨b,aA,rfl,o,?_⟩
    cases xs with
    |nil=>simp only[ai]at F;omega
    |cons z r=>simpa using aF
  ·refine I _ ?_ (I0 k (λi aL aK=>by omega) nm a y B C n c h w d u G H);rw[St.ok,if_neg h1,if_neg A,if_neg h3,if_neg h4,if_neg h5,if_neg h6,if_neg h7];rfl
def Bu (w:World) (b:Nat) (l:List UInt8):Prop:=
 ∃p v,aM w b 217 #[p,v]/\w.ownsRow (b+1) 5 1 v l.length (Lib.byteCells l)/\(l=[]->v= .slice none 0 0)/\(p= .pointer none\/p= .pointer (some ⟨b,0,none⟩))
theorem Bu.lt {d:World} {b:Nat} {l:List UInt8} (a:Bu d b l):b<d.heap.size:=let⟨_,_,a,_⟩:=a;a.lt
theorem Bu.new (a:World):Bu (a.alloc (.cells #[.pointer none, .slice none 0 0] 217)) a.heap.size []:=⟨_,_,aq a _ _,World.ownsRow_nil _ _ _ 1,λ_=>rfl, .inl rfl⟩
theorem Bu.ext {a w':World} {b:Nat} {l:List UInt8} (y:Bu a b l) (d:au a w'):Bu w' b l:=by
 obtain⟨p,v,w,o,u,h⟩:=y;exact⟨p,v,w.ext d,World.ownsRow.kept o (d.grownBy none) (by cases v.ownBlock<;>simp),u,h⟩
theorem tz {b:Nat} {a w':World} (h:au a w') (d:b<=a.heap.size):Below b a w':=RowKit.Below.mono h d
structure FB (b:Nat) (w w':World):Prop where
 below:Below b w w'
 keep: ∀k t cs,k≠b->t≠5->aM w k t cs->aM w' k t cs
theorem FB.refl (b:Nat) (a:World):FB b a a:=⟨Below.refl _ _,λ_ _ _ _ _ d=>d⟩
theorem FB.trans {b:Nat} {d w' a:World} (u:FB b d w') (k:FB b w' a):FB b d a:=⟨Below.trans u.below k.below,λi t w o h y=>k.keep i t w o h (u.keep i t w o h y)⟩
theorem FB.of_ext {b:Nat} {a w':World} (d:au a w') (h:b<=a.heap.size):FB b a w':=⟨tz d h,λ_ _ _ _ _ k=>k.ext d⟩
theorem FB.set {b i:Nat} {v:Value} (a:World):FB b a (a.setCell ⟨b,i,none⟩ v):=⟨(Below.refl b a).setCell (p:=⟨b,i,none⟩) (ah _) _,λk t o h _ d=>d.far (p:=⟨b,i,none⟩) h v⟩
theorem FB.keepP {b:Nat} {a w':World} (d:FB b a w') {P:Nat->Prop} (o: ∀k,P k->k<b):dE P a w':=⟨d.below.size,λk h u=>d.below.block k (o k h)⟩
structure IB (b:Nat) (v:Value) (w w':World):Prop where
 blk:aM w' b 217 #[.pointer (some ⟨b,0,none⟩),v]
 below:FB b w w'
 size:w'.heap.size=w.heap.size
 own: ∀n xs,w.ownsRow (b+1) 5 1 v n xs->w'.ownsRow (b+1) 5 1 v n xs
theorem IB.set {b:Nat} {p v:Value} {a:World} (h:aM a b 217 #[p,v]):IB b v a (a.setCell ⟨b,0,none⟩ (.pointer (some ⟨b,0,none⟩))):=by
 refine⟨by have:=h.set 0 (.pointer (some ⟨b,0,none⟩));simpa using this,FB.set a,by simp[World.setCell],λn xs d=>World.ownsRow.kept d (fu a b 0 _) ?_⟩
 cases hv:v.ownBlock with
 |none=>exact .inl rfl
 |some k=>exact .inr λe=>by have:=(World.ownsRow.lt d k hv).1;injection e with e;omega
theorem wf (b:Nat) (p v:Value) (d:World) (a:aM d b 217 #[p,v]) (w:p= .pointer none\/p= .pointer (some ⟨b,0,none⟩)):
  Calls prog 170 #[.pointer (some ⟨b,0,none⟩)] d λe w'=>e= .returned (.tuple #[])/\IB b v d w':=by
 have I:=a.cell;have H:=a.frozen;have F:=G a;obtain⟨j,o,y⟩:=Option.map_eq_some_iff.1 (show(prog.info? 215).map (·.size)=some 2 from by kernel_rfl);rcases w with rfl|rfl
 ·have A:=G (IB.set a);have u:d.shape? b=some (217,2):=by unfold aM at a;simp[World.shape?,a]
  clear a;go_enter func170,ntmps170;go_wp2;rw[Lib.run_to_unsafe d ⟨b,0,none⟩ underlying213 underlying288 o (by rw[y];decide) u (Nat.zero_lt_succ 1)];simp only[Result.andThen];rw[Oper.upon_value];go_wp2;rw[run_callFunc_extern func211 Qb Qb Qb (e:=Extern.AbiNoEscape.same) Qb];rw[Lib.run_noEscape];simp only[Result.andThen];rw[Oper.upon_value];go_wp2;rw[Lib.run_from_unsafe d ⟨b,0,none⟩ underlying288 underlying213 o u Qb];simp only[Result.andThen];rw[Oper.upon_value];go_wp2
  go_end0
  exact⟨rfl,A.out⟩
 ·clear a;go_enter func170,ntmps170;go_wp2;rw[Lib.run_neq_ptr_same d _ underlying213 o];go_wp2
  go_end0
  exact⟨rfl,F.out,FB.refl _ _,rfl,λ_ _ z=>z⟩
theorem Dk {h d a:World} {b n:Nat} {v:Value} {xs:List Value} (w:IB b v h d) (o:h.ownsRow (b+1) 5 1 v n xs) (u:d.grownBy a v.ownBlock):aM a b 217 #[.pointer (some ⟨b,0,none⟩),v]:=
 w.blk.grown u λe=>by have:=(World.ownsRow.lt o b e.symm).1;omega
theorem AX {d:World} {base n k:Nat} {e:TypeId} {v:Value} {xs:List Value} (h:d.ownsRow base e k v n xs): ∃o m c,v= .slice o m c:=by
 rcases h.2 with⟨a,_⟩|⟨g,cap,cur,a,_⟩
 ·exact⟨_,_,_,a⟩
 ·exact⟨_,_,_,a⟩
theorem rk (l s:List UInt8):Lib.byteCells (l++s)=Lib.byteCells l++Lib.strCells (ak s):=by simp[Lib.byteCells,Lib.strCells,ak]
theorem cY (b:Nat) (l s:List UInt8) (u:World) (au:Bu u b l) (aD:l.length+s.length<=1000000000):
  Calls prog 118 #[.pointer (some ⟨b,0,none⟩), .string (ak s)] u λe w'=>e= .returned (.tuple #[.int .i64 s.length, .nilIface])/\Bu w' b (l++s)/\FB b u w':=by
 obtain⟨ai,aq,am,al,aj⟩:=info_parts (show(prog.info? 5).map (λi=>(i.zero,i.size,i.bytes))=some (some (.int .u8 0),1,1)from by kernel_rfl);obtain⟨p,v,d,R,X,M⟩:=au;have ae:=G (wf b p v u d M);have y:=G R;have az:=G X;have H:(ak s).size=s.length:=a7 s;have ap:=d.lt;clear d R X M;go_enter func118,ntmps118;go_wp2_with (go_at_call 170;refine ae.out.mono ?_);rintro e ah ⟨rfl,a⟩;have z:=G a;have ad:=a.blk.cell 0;have c1:=a.blk.cell 1;simp only[eL,cK,dg]at ad c1;have ao:=a.own _ _ y.out;have aB:=a.size;clear a ae;go_wp2_with (at_builtin;refine Lib.wpList_append_own_string _ rfl _ _ 36 9 rfl (b+1) 5 ai underlying36 underlying9 aq am al aj _ _ _ rfl ao (ak s) rfl ?c3 ?c4 ?c5 ?_)
 case c3=>rw[H];unfold maxLen;omega
 case c4=>rw[H];omega
 case c5=>omega
 intro v' A I J V;have af:=G I;have ag:=G J;have ay:=G V;have o:=Dk z.out y.out J;have aw:=o.cell 0;have av:=o.cell 1;have aE:=o.frozen 1;simp only[eL,cK,dg]at aw av;have aA:=G o;have ar:=AX I;clear I J V o ad c1;obtain⟨K,F,w,rfl⟩:=ar;go_wp2;go_ret2;have aC:=ap;refine⟨rfl,?_,?_⟩
 ·refine⟨_,_,?_,World.ownsRow.kept (show A.ownsRow (b+1) 5 1 (.slice K F w) (l++s).length (Lib.byteCells (l++s))from ?_) (fu A b 1 _) ?_,λe=> ?_, .inr rfl⟩
  ·have:=aA.out.set 1 (.slice K F w);simpa using this
  ·have:=af.out;rw[ac,rk];first|exact this|(rw[H]at this;exact this)
  ·cases hv:Value.ownBlock (.slice K F w)with
   |none=>exact .inl rfl
   |some k=>exact .inr λe=>by have:=(World.ownsRow.lt af.out k hv).1;injection e with e;omega
  ·have aa:=List.append_eq_nil_iff.1 e;exact ay.out.2 ⟨az.out aa.1,by have:=aa.2;simp[this]⟩
 ·refine z.out.below.trans (FB.trans ⟨?_,λk t ax Z an d=>d.grown ag.out λe=> ?_⟩ (FB.set A))
  ·exact(Below.refl b ah).grown ag.out (by have:=z.out.size;omega) (λk Z=>by have:=(World.ownsRow.lt y.out k Z).1;omega)
  ·rcases(z.out.own _ _ y.out).2 with⟨rfl,_⟩|⟨g,w,cur,rfl,_,hg,_⟩
   ·cases e
   ·have e:k=g:=ab e;subst e;have:some (Obj.cells ax t (0,0))=some (Obj.cells cur 5 (0,0)):=d.symm.trans hg;injection this with this;injection this with _ this _;exact an this
theorem AJ (b:Nat) (l:List UInt8) (a:World) (V:Bu a b l) (ab:l.length<=1000000000):
  Calls prog 122 #[.pointer (some ⟨b,0,none⟩)] a λe w'=>e= .returned (.string (ak l))/\Below b a w':=by
 obtain⟨p,v,u,w,y,z⟩:=V;by_cases h0:l=[]
 ·subst h0;obtain rfl:=y rfl;have M: ∀(W:World) (q:Option Addr),(Builtin.unsafeString_ #[268,3] 9 #[.pointer q, .int .i64 0]).run prog W= .ok (.string .empty) W:=λW q=>Lib.run_unsafeString_none W _ _ _ q;have c1:a.drew.cell? ⟨b,1,none⟩=some (.slice none 0 0):=u.cell 1;have R:(Builtin.unsafeSliceData_ #[36] 268 #[.slice none 0 0]).run prog a.drew= .ok (.pointer none) a.drew:=rfl;clear u w y z;have G:=mixed;go_enter func122,ntmps122;go_wp2
  go_region_o
  all_goals (go_wp2;go_ret;exact⟨rfl,Below.drew (Below.refl b a)⟩)
 ·have H:l.length≠0:=by simpa using h0
  have aa:=u.lt;obtain⟨g,d,o,rfl,ad,J,Z,K,ac,X⟩: ∃g d o,v= .slice (some ⟨g,0,none⟩) l.length d/\b+1<=g/\a.heap[g]? =some (.cells o 5 (0,0))/\l.length<=d/\d<=maxLen/\o.size=d*1/\o.toList.take (l.length*1)=Lib.byteCells l:=by
   rcases w.2 with⟨_,A⟩|⟨g,d,o,hv,r⟩
   ·exact absurd A H
   ·exact⟨g,d,o,hv,r⟩
  have c1:a.drew.cell? ⟨b,1,none⟩=some (.slice (some ⟨g,0,none⟩) l.length d):=u.cell 1;have R:(Builtin.unsafeSliceData_ #[36] 268 #[.slice (some ⟨g,0,none⟩) l.length d]).run prog a.drew= .ok (.pointer (some ⟨g,0,none⟩)) a.drew:=
   Lib.run_unsafeSliceData_row _ _ _ _ _ _ Qa
  have M:(Builtin.unsafeString_ #[268,3] 9 #[.pointer (some ⟨g,0,none⟩), .int .i64 l.length]).run prog a.drew= .ok (.string ⟨l.toArray⟩) (a.drew.freeze ⟨g,0,none⟩ l.length):=by
   refine Lib.run_unsafeString_row a.drew 268 3 9 5 underlying268 Qb g o.size (by have I:a.drew.heap[g]? =some (.cells o 5 (0,0)):=J;simp[World.shape?,I]) l h0 Qa (by unfold maxLen at K;omega) ?_;intro j x F;have:=w.cells (g:=g) rfl j (.int .u8 x.toNat) (by simp[Lib.byteCells,F]);exact this
  clear u w y z;have G:=mixed;go_enter func122,ntmps122;go_wp2
  go_region_o
  all_goals (go_wp2;go_ret;exact⟨rfl,Lib.below_freeze (Below.drew (Below.refl b a)) (p:=⟨g,0,none⟩) (by show b<=g;omega) _⟩)
def aV:=@FB.of_ext
end
end Go.Proofs.YtoedmpgicdekmaaGreatDoor
