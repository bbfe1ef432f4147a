/- Parts of the proof. -/
import Derived.Test.YtddomeddabfinaaGreatDoorTt00
import Derived.Test.YtddomeddabfinaaGreatDoorTt10
import Derived.Shelf.Strings.Builder1
set_option maxRecDepth 100000
set_option maxHeartbeats 8000000
set_option linter.unusedVariables false
set_option linter.unusedSimpArgs false
set_option linter.defProp false
set_option linter.unusedSectionVars false
namespace Go.Proofs.YtddomeddabfinaaGreatDoor
open IntKind(i64)
open Go.Proofs.Tryz
section
open Go.RowKit
def EC (w:World) (A:Option Addr) (n c:Nat) (r:Bool):Prop:= ∀w',az w w'->Calls prog 113 #[.slice A n c,.func (Fn.func 114) #[] #[]] w' λe w''=>e=.returned (.bool (!r))/\az w' w''
def EB (w:World) (B C:Option Addr) (nb cb nl cl:Nat) (r:Bool):Prop:= ∀w' g,az w w'->aU w' g 57 #[.slice B nb cb,.slice C nl cl]->
 Calls prog 112 #[.slice (some ⟨g,0,none⟩) 2 2] w' λe w''=> ∃D k,e=.returned (.slice D (nb+nl) k)/\az w' w''/\ ∀w3,az w'' w3->
  Calls prog 116 #[.slice D (nb+nl) k,.func (Fn.func 117) #[] #[]] w3 λe w4=>e=.returned (.bool (!r))/\az w3 w4
theorem G3 (nm:List UInt8) (G:World) (ad B C:Option Addr) (n c o I j X:Nat) (a2:n+o+j<=1073741824) (aJ:nm.length<=1073741824) (r af:Bool) (ax:EC G ad n c r) (ao:EB G B C o I j X af):
  Calls prog 70 #[.agg #[.int i64 1,.string (J nm),.slice ad n c,.slice B o I,.slice C j X]] G λe w'=>e=.returned (.bool ((dY nm&&decide (n<=1)&&o==0&&j==0)&&r&&af))/\az G w':=by
 have a1:(n:Int)<=1073741824:=Qa
 have aX:(o:Int)<=1073741824:=Qa
 have aW:(j:Int)<=1073741824:=Qa
 have ac:=O (aw G 72 #[.int i64 1,.string (J nm),.slice ad n c,.slice B o I,.slice C j X]);have aA:=O (Z G (.cells #[.int i64 1,.string (J nm),.slice ad n c,.slice B o I,.slice C j X] 72));have ak:=O ax;have aQ:=O ao;have ay:=O (dJ nm aJ);generalize ap:(_&& _&& _:Bool)=R;have V:=O ap;clear ax ao ap;generalize dY nm=b at*;go_enter func70,ntmps70;go_wp2_with fail;refine cD 11 3 [(2,λv=>v=.bool b,λ_ _=>True)] [] [3,4,5,6,7,8,9,10] mixed Qb Qb Qb Qe ⟨λ_ _ _ _ _=>trivial,trivial⟩ (λi aK=>by simp at aK) ?_;repeat (refine sx ?_ (λaF A=> ?_) ?_;rotate_left;(focus have aM:=(ac.out.ext A.un).cell;clear A;go_simp<;>with_reducible rfl);simp only[a8,a7,a6,aZ,aY])
 refine so (λal A ai aj w=> ?_) ?_
 ·clear ai A;go_simp;refine(ay.out al).mono ?_;rintro e aT ⟨rfl,rfl⟩;exact w _ _ (aS _) rfl trivial
 rintro _ rfl;simp only[a8,a7,a6,aZ,aY];repeat (refine sx ?_ (λaF A=> ?_) ?_;rotate_left;(focus have aM:=(ac.out.ext A.un).cell;clear A;go_simp<;>with_reducible rfl);simp only[a8,a7,a6,aZ,aY])
 intro aU K ai aG;clear ai aG;simp only[ae,au];refine aN Qe Qd (λaj w=> ?_);go_simp;refine w _ _ K ?_;clear w;refine aN Qe Qd (λaj w=> ?_);go_simp;refine w _ _ K ?_;clear w;refine aN Qe Qd (λaj w=> ?_);go_simp;refine w _ _ K ?_;clear w;refine cz ?_;have aB:=O (ac.out.ext K.un);have z:=O (aA.out.trans K.un);have a3:=aB.out.cell;clear K ac aA ay
 cases b with
 |false=>
  have a:=O (show R=false from by rw[<-V.out];rfl);go_wp2_with fail;go_ret;exact⟨by rw[a.out];rfl,z.out⟩
 |true=>
  by_cases h1:n<=1
  rotate_left
  ·have aL: ¬(n:Int)<=1:=Qa
   have a:=O (show R=false from by rw[<-V.out];simp[h1]);go_wp2_with fail;go_ret;exact⟨by rw[a.out];rfl,z.out⟩
  ·have aL:(n:Int)<=1:=Qa
   generalize ah:decide (0<o)=aD at*
   cases aD with
   |true=>
    have aI: ¬o=0:=by have:=of_decide_eq_true ah;omega
    have a:=O (show R=false from by rw[<-V.out];simp[h1,aI]);go_wp2_with fail;go_ret;exact⟨by rw[a.out];rfl,z.out⟩
   |false=>
    obtain rfl:o=0:=by have:=of_decide_eq_false ah;omega
    clear ah;generalize ag:decide (0<j)=aC at*
    cases aC with
    |true=>
     have aH: ¬j=0:=by have:=of_decide_eq_true ag;omega
     have a:=O (show R=false from by rw[<-V.out];simp[h1,aH]);go_wp2_with fail;go_ret;exact⟨by rw[a.out];rfl,z.out⟩
    |false=>
     obtain rfl:j=0:=by have:=of_decide_eq_false ag;omega
     clear ag
     cases r with
     |false=>
      have a:=O (show R=false from by rw[<-V.out];simp);go_wp2_with (go_at_call 113;refine(ak.out _ z.out).mono ?_;rintro e an ⟨rfl,M⟩;have ab:=O (z.out.trans M);clear M);go_ret;exact⟨by rw[a.out];rfl,ab.out⟩
     |true=>
      have a:=O (show R=af from by rw[<-V.out];simp[h1]);go_wp2_with (first|(go_at_call 113;refine(ak.out _ z.out).mono ?_;rintro e an ⟨rfl,M⟩;have ab:=O (z.out.trans M);have a4:=(aB.out.ext M).cell;clear M ak)|(go_at_call 112;refine(aQ.out _ _ (ab.out.alloc' _) (aw an _ _)).mono ?_;rintro e aE ⟨D,aV,rfl,av,aq⟩;have aP:=O ((ab.out.alloc' _).trans av);have aR:=O (aq aE (aS _));clear av aq)|(go_at_call 116;refine aR.out.mono ?_;rintro e al ⟨rfl,ar⟩;have aO:=O (aP.out.trans ar);clear ar));go_ret;exact⟨by rw[a.out];rfl,aO.out⟩
theorem G2 (nm:List UInt8) (G:World) (ad B C:Option Addr) (n c o I j X:Nat) (a1:n+o+j<=1073741824) (aJ:nm.length<=1073741824) (r af:Bool) (ax:EC G ad n c r) (ao:EB G B C o I j X af):
  Calls prog 70 #[.agg #[.int i64 2,.string (J nm),.slice ad n c,.slice B o I,.slice C j X]] G λe w'=>e=.returned (.bool ((dY nm&&n==1&&o==0&&j==0)&&r&&af))/\az G w':=by
 have aX:(n:Int)<=1073741824:=Qa
 have aW:(o:Int)<=1073741824:=Qa
 have aV:(j:Int)<=1073741824:=Qa
 have ac:=O (aw G 72 #[.int i64 2,.string (J nm),.slice ad n c,.slice B o I,.slice C j X]);have aA:=O (Z G (.cells #[.int i64 2,.string (J nm),.slice ad n c,.slice B o I,.slice C j X] 72));have ak:=O ax;have aP:=O ao;have ay:=O (dJ nm aJ);generalize ap:(_&& _&& _:Bool)=R;have V:=O ap;clear ax ao ap;generalize dY nm=b at*;go_enter func70,ntmps70;go_wp2_with fail;refine cD 11 3 [(2,λv=>v=.bool b,λ_ _=>True)] [] [3,4,5,6,7,8,9,10] mixed Qb Qb Qb Qe ⟨λ_ _ _ _ _=>trivial,trivial⟩ (λi aK=>by simp at aK) ?_;repeat (refine sx ?_ (λaF A=> ?_) ?_;rotate_left;(focus have aL:=(ac.out.ext A.un).cell;clear A;go_simp<;>with_reducible rfl);simp only[a8,a7,a6,aZ,aY])
 refine so (λal A ai aj w=> ?_) ?_
 ·clear ai A;go_simp;refine(ay.out al).mono ?_;rintro e aR ⟨rfl,rfl⟩;exact w _ _ (aS _) rfl trivial
 rintro _ rfl;simp only[a8,a7,a6,aZ,aY];repeat (refine sx ?_ (λaF A=> ?_) ?_;rotate_left;(focus have aL:=(ac.out.ext A.un).cell;clear A;go_simp<;>with_reducible rfl);simp only[a8,a7,a6,aZ,aY])
 intro aT K ai aG;clear ai aG;simp only[ae,au];refine aN Qe Qd (λaj w=> ?_);go_simp;refine w _ _ K ?_;clear w;refine aN Qe Qd (λaj w=> ?_);go_simp;refine w _ _ K ?_;clear w;refine aN Qe Qd (λaj w=> ?_);go_simp;refine w _ _ K ?_;clear w;refine cz ?_;have aB:=O (ac.out.ext K.un);have z:=O (aA.out.trans K.un);have a2:=aB.out.cell;clear K ac aA ay
 cases b with
 |false=>
  have a:=O (show R=false from by rw[<-V.out];rfl);go_wp2_with fail;go_ret;exact⟨by rw[a.out];rfl,z.out⟩
 |true=>
  by_cases h1:n=1
  rotate_left
  ·have a4:((n:Int)==1)=false:=by rw[Ql];omega
   have a:=O (show R=false from by rw[<-V.out];simp[h1]);go_wp2_with fail;go_ret;exact⟨by rw[a.out];rfl,z.out⟩
  ·subst h1;generalize ah:decide (0<o)=aD at*
   cases aD with
   |true=>
    have aI: ¬o=0:=by have:=of_decide_eq_true ah;omega
    have a:=O (show R=false from by rw[<-V.out];simp[aI]);go_wp2_with fail;go_ret;exact⟨by rw[a.out];rfl,z.out⟩
   |false=>
    obtain rfl:o=0:=by have:=of_decide_eq_false ah;omega
    clear ah;generalize ag:decide (0<j)=aC at*
    cases aC with
    |true=>
     have aH: ¬j=0:=by have:=of_decide_eq_true ag;omega
     have a:=O (show R=false from by rw[<-V.out];simp[aH]);go_wp2_with fail;go_ret;exact⟨by rw[a.out];rfl,z.out⟩
    |false=>
     obtain rfl:j=0:=by have:=of_decide_eq_false ag;omega
     clear ag
     cases r with
     |false=>
      have a:=O (show R=false from by rw[<-V.out];simp);go_wp2_with (go_at_call 113;refine(ak.out _ z.out).mono ?_;rintro e an ⟨rfl,M⟩;have ab:=O (z.out.trans M);clear M);go_ret;exact⟨by rw[a.out];rfl,ab.out⟩
     |true=>
      have a:=O (show R=af from by rw[<-V.out];simp[]);go_wp2_with (first|(go_at_call 113;refine(ak.out _ z.out).mono ?_;rintro e an ⟨rfl,M⟩;have ab:=O (z.out.trans M);have a3:=(aB.out.ext M).cell;clear M ak)|(go_at_call 112;refine(aP.out _ _ (ab.out.alloc' _) (aw an _ _)).mono ?_;rintro e aE ⟨D,aU,rfl,av,aq⟩;have aO:=O ((ab.out.alloc' _).trans av);have aQ:=O (aq aE (aS _));clear av aq)|(go_at_call 116;refine aQ.out.mono ?_;rintro e al ⟨rfl,ar⟩;have aM:=O (aO.out.trans ar);clear ar));go_ret;exact⟨by rw[a.out];rfl,aM.out⟩
theorem G1 (nm:List UInt8) (G:World) (ad B C:Option Addr) (n c o I j X:Nat) (a1:n+o+j<=1073741824) (aJ:nm.length<=1073741824) (r af:Bool) (ax:EC G ad n c r) (ao:EB G B C o I j X af):
  Calls prog 70 #[.agg #[.int i64 3,.string (J nm),.slice ad n c,.slice B o I,.slice C j X]] G λe w'=>e=.returned (.bool ((dY nm&&n==2&&o==0&&j==0)&&r&&af))/\az G w':=by
 have aX:(n:Int)<=1073741824:=Qa
 have aW:(o:Int)<=1073741824:=Qa
 have aV:(j:Int)<=1073741824:=Qa
 have ac:=O (aw G 72 #[.int i64 3,.string (J nm),.slice ad n c,.slice B o I,.slice C j X]);have aA:=O (Z G (.cells #[.int i64 3,.string (J nm),.slice ad n c,.slice B o I,.slice C j X] 72));have ak:=O ax;have aP:=O ao;have ay:=O (dJ nm aJ);generalize ap:(_&& _&& _:Bool)=R;have V:=O ap;clear ax ao ap;generalize dY nm=b at*;go_enter func70,ntmps70;go_wp2_with fail;refine cD 11 3 [(2,λv=>v=.bool b,λ_ _=>True)] [] [3,4,5,6,7,8,9,10] mixed Qb Qb Qb Qe ⟨λ_ _ _ _ _=>trivial,trivial⟩ (λi aK=>by simp at aK) ?_;repeat (refine sx ?_ (λaF A=> ?_) ?_;rotate_left;(focus have aL:=(ac.out.ext A.un).cell;clear A;go_simp<;>with_reducible rfl);simp only[a8,a7,a6,aZ,aY])
 refine so (λal A ai aj w=> ?_) ?_
 ·clear ai A;go_simp;refine(ay.out al).mono ?_;rintro e aR ⟨rfl,rfl⟩;exact w _ _ (aS _) rfl trivial
 rintro _ rfl;simp only[a8,a7,a6,aZ,aY];repeat (refine sx ?_ (λaF A=> ?_) ?_;rotate_left;(focus have aL:=(ac.out.ext A.un).cell;clear A;go_simp<;>with_reducible rfl);simp only[a8,a7,a6,aZ,aY])
 intro aT K ai aG;clear ai aG;simp only[ae,au];refine aN Qe Qd (λaj w=> ?_);go_simp;refine w _ _ K ?_;clear w;refine aN Qe Qd (λaj w=> ?_);go_simp;refine w _ _ K ?_;clear w;refine aN Qe Qd (λaj w=> ?_);go_simp;refine w _ _ K ?_;clear w;refine cz ?_;have aB:=O (ac.out.ext K.un);have z:=O (aA.out.trans K.un);have a2:=aB.out.cell;clear K ac aA ay
 cases b with
 |false=>
  have a:=O (show R=false from by rw[<-V.out];rfl);go_wp2_with fail;go_ret;exact⟨by rw[a.out];rfl,z.out⟩
 |true=>
  by_cases h2:n=2
  rotate_left
  ·have a4:((n:Int)==2)=false:=by rw[Ql];omega
   have a:=O (show R=false from by rw[<-V.out];simp[h2]);go_wp2_with fail;go_ret;exact⟨by rw[a.out];rfl,z.out⟩
  ·subst h2;generalize ah:decide (0<o)=aD at*
   cases aD with
   |true=>
    have aI: ¬o=0:=by have:=of_decide_eq_true ah;omega
    have a:=O (show R=false from by rw[<-V.out];simp[aI]);go_wp2_with fail;go_ret;exact⟨by rw[a.out];rfl,z.out⟩
   |false=>
    obtain rfl:o=0:=by have:=of_decide_eq_false ah;omega
    clear ah;generalize ag:decide (0<j)=aC at*
    cases aC with
    |true=>
     have aH: ¬j=0:=by have:=of_decide_eq_true ag;omega
     have a:=O (show R=false from by rw[<-V.out];simp[aH]);go_wp2_with fail;go_ret;exact⟨by rw[a.out];rfl,z.out⟩
    |false=>
     obtain rfl:j=0:=by have:=of_decide_eq_false ag;omega
     clear ag
     cases r with
     |false=>
      have a:=O (show R=false from by rw[<-V.out];simp);go_wp2_with (go_at_call 113;refine(ak.out _ z.out).mono ?_;rintro e an ⟨rfl,M⟩;have ab:=O (z.out.trans M);clear M);go_ret;exact⟨by rw[a.out];rfl,ab.out⟩
     |true=>
      have a:=O (show R=af from by rw[<-V.out];simp[]);go_wp2_with (first|(go_at_call 113;refine(ak.out _ z.out).mono ?_;rintro e an ⟨rfl,M⟩;have ab:=O (z.out.trans M);have a3:=(aB.out.ext M).cell;clear M ak)|(go_at_call 112;refine(aP.out _ _ (ab.out.alloc' _) (aw an _ _)).mono ?_;rintro e aE ⟨D,aU,rfl,av,aq⟩;have aO:=O ((ab.out.alloc' _).trans av);have aQ:=O (aq aE (aS _));clear av aq)|(go_at_call 116;refine aQ.out.mono ?_;rintro e al ⟨rfl,ar⟩;have aM:=O (aO.out.trans ar);clear ar));go_ret;exact⟨by rw[a.out];rfl,aM.out⟩
theorem G0 (nm:List UInt8) (w:World) (ad B C:Option Addr) (n c A X z V:Nat) (aR:n+A+z<=1073741824) (aD:nm.length<=1073741824) (r af:Bool) (ar:EC w ad n c r) (al:EB w B C A X z V af):
  Calls prog 70 #[.agg #[.int i64 4,.string (J nm),.slice ad n c,.slice B A X,.slice C z V]] w λe w'=>e=.returned (.bool ((nm==[]&&n==1)&&r&&af))/\az w w':=by
 have aQ:(n:Int)<=1073741824:=Qa
 have aP:(A:Int)<=1073741824:=Qa
 have aO:(z:Int)<=1073741824:=Qa
 have ac:=O (aw w 72 #[.int i64 4,.string (J nm),.slice ad n c,.slice B A X,.slice C z V]);have ax:=O (Z w (.cells #[.int i64 4,.string (J nm),.slice ad n c,.slice B A X,.slice C z V] 72));have ai:=O ar;have aI:=O al;have av:=O (dJ nm aD);generalize an:(_&& _&& _:Bool)=R;have ab:=O an;clear ar al an;generalize dY nm=b at*;go_enter func70,ntmps70;go_wp2_with fail;refine cD 11 3 [(2,λv=>v=.bool b,λ_ _=>True)] [] [3,4,5,6,7,8,9,10] mixed Qb Qb Qb Qe ⟨λ_ _ _ _ _=>trivial,trivial⟩ (λi aE=>by simp at aE) ?_;repeat (refine sx ?_ (λaB j=> ?_) ?_;rotate_left;(focus have aF:=(ac.out.ext j.un).cell;clear j;go_simp<;>with_reducible rfl);simp only[a8,a7,a6,aZ,aY])
 refine so (λaj j ag ah a=> ?_) ?_
 ·clear ag j;go_simp;refine(av.out aj).mono ?_;rintro e aK ⟨rfl,rfl⟩;exact a _ _ (aS _) rfl trivial
 rintro _ rfl;simp only[a8,a7,a6,aZ,aY];repeat (refine sx ?_ (λaB j=> ?_) ?_;rotate_left;(focus have aF:=(ac.out.ext j.un).cell;clear j;go_simp<;>with_reducible rfl);simp only[a8,a7,a6,aZ,aY])
 intro aL G ag aC;clear ag aC;simp only[ae,au];refine aN Qe Qd (λah a=> ?_);go_simp;refine a _ _ G ?_;clear a;refine aN Qe Qd (λah a=> ?_);go_simp;refine a _ _ G ?_;clear a;refine aN Qe Qd (λah a=> ?_);go_simp;refine a _ _ G ?_;clear a;refine cz ?_;have ay:=O (ac.out.ext G.un);have M:=O (ax.out.trans G.un);have aT:=ay.out.cell;clear G ac ax av
 cases hnm:(nm==[])with
 |false=>
  have o:=O (show R=false from by rw[<-ab.out];simp[hnm]);go_wp2_with fail;go_ret;exact⟨by rw[o.out];rfl,M.out⟩
 |true=>
  by_cases h1:n=1
  rotate_left
  ·have aV:((n:Int)==1)=false:=by rw[Ql];omega
   have o:=O (show R=false from by rw[<-ab.out];simp[hnm,h1]);go_wp2_with fail;go_ret;exact⟨by rw[o.out];rfl,M.out⟩
  ·subst h1
   cases r with
   |false=>
    have o:=O (show R=false from by rw[<-ab.out];simp);go_wp2_with (go_at_call 113;refine(ai.out _ M.out).mono ?_;rintro e ak ⟨rfl,K⟩;have I:=O (M.out.trans K);clear K);go_ret;exact⟨by rw[o.out];rfl,I.out⟩
   |true=>
    have o:=O (show R=af from by rw[<-ab.out];simp[hnm]);go_wp2_with (first|(go_at_call 113;refine(ai.out _ M.out).mono ?_;rintro e ak ⟨rfl,K⟩;have I:=O (M.out.trans K);have aU:=(ay.out.ext K).cell;clear K ai)|(go_at_call 112;refine(aI.out _ _ (I.out.alloc' _) (aw ak _ _)).mono ?_;rintro e aA ⟨D,aM,rfl,aq,ao⟩;have aH:=O ((I.out.alloc' _).trans aq);have aJ:=O (ao aA (aS _));clear aq ao)|(go_at_call 116;refine aJ.out.mono ?_;rintro e aj ⟨rfl,ap⟩;have aG:=O (aH.out.trans ap);clear ap));go_ret;exact⟨by rw[o.out];rfl,aG.out⟩
theorem GZ (nm:List UInt8) (A:World) (ad B C:Option Addr) (n c G I a X:Nat) (aV:n+G+a<=1073741824) (aG:nm.length<=1073741824) (r af:Bool) (av:EC A ad n c r) (an:EB A B C G I a X af):
  Calls prog 70 #[.agg #[.int i64 5,.string (J nm),.slice ad n c,.slice B G I,.slice C a X]] A λe w'=>e=.returned (.bool ((nm==[]&&n==1&&a==0)&&r&&af))/\az A w':=by
 have aU:(n:Int)<=1073741824:=Qa
 have aT:(G:Int)<=1073741824:=Qa
 have aR:(a:Int)<=1073741824:=Qa
 have ac:=O (aw A 72 #[.int i64 5,.string (J nm),.slice ad n c,.slice B G I,.slice C a X]);have ay:=O (Z A (.cells #[.int i64 5,.string (J nm),.slice ad n c,.slice B G I,.slice C a X] 72));have aj:=O av;have aL:=O an;have ax:=O (dJ nm aG);generalize ao:(_&& _&& _:Bool)=R;have V:=O ao;clear av an ao;generalize dY nm=b at*;go_enter func70,ntmps70;go_wp2_with fail;refine cD 11 3 [(2,λv=>v=.bool b,λ_ _=>True)] [] [3,4,5,6,7,8,9,10] mixed Qb Qb Qb Qe ⟨λ_ _ _ _ _=>trivial,trivial⟩ (λi aH=>by simp at aH) ?_;repeat (refine sx ?_ (λaD w=> ?_) ?_;rotate_left;(focus have aI:=(ac.out.ext w.un).cell;clear w;go_simp<;>with_reducible rfl);simp only[a8,a7,a6,aZ,aY])
 refine so (λak w ah ai j=> ?_) ?_
 ·clear ah w;go_simp;refine(ax.out ak).mono ?_;rintro e aO ⟨rfl,rfl⟩;exact j _ _ (aS _) rfl trivial
 rintro _ rfl;simp only[a8,a7,a6,aZ,aY];repeat (refine sx ?_ (λaD w=> ?_) ?_;rotate_left;(focus have aI:=(ac.out.ext w.un).cell;clear w;go_simp<;>with_reducible rfl);simp only[a8,a7,a6,aZ,aY])
 intro aP K ah aE;clear ah aE;simp only[ae,au];refine aN Qe Qd (λai j=> ?_);go_simp;refine j _ _ K ?_;clear j;refine aN Qe Qd (λai j=> ?_);go_simp;refine j _ _ K ?_;clear j;refine aN Qe Qd (λai j=> ?_);go_simp;refine j _ _ K ?_;clear j;refine cz ?_;have aA:=O (ac.out.ext K.un);have z:=O (ay.out.trans K.un);have aW:=aA.out.cell;clear K ac ay ax
 cases hnm:(nm==[])with
 |false=>
  have o:=O (show R=false from by rw[<-V.out];simp[hnm]);go_wp2_with fail;go_ret;exact⟨by rw[o.out];rfl,z.out⟩
 |true=>
  by_cases h1:n=1
  rotate_left
  ·have a1:((n:Int)==1)=false:=by rw[Ql];omega
   have o:=O (show R=false from by rw[<-V.out];simp[hnm,h1]);go_wp2_with fail;go_ret;exact⟨by rw[o.out];rfl,z.out⟩
  ·subst h1;generalize ag:decide (0<a)=aB at*
   cases aB with
   |true=>
    have aF: ¬a=0:=by have:=of_decide_eq_true ag;omega
    have o:=O (show R=false from by rw[<-V.out];simp[hnm,aF]);go_wp2_with fail;go_ret;exact⟨by rw[o.out];rfl,z.out⟩
   |false=>
    obtain rfl:a=0:=by have:=of_decide_eq_false ag;omega
    clear ag
    cases r with
    |false=>
     have o:=O (show R=false from by rw[<-V.out];simp);go_wp2_with (go_at_call 113;refine(aj.out _ z.out).mono ?_;rintro e al ⟨rfl,M⟩;have ab:=O (z.out.trans M);clear M);go_ret;exact⟨by rw[o.out];rfl,ab.out⟩
    |true=>
     have o:=O (show R=af from by rw[<-V.out];simp[hnm]);go_wp2_with (first|(go_at_call 113;refine(aj.out _ z.out).mono ?_;rintro e al ⟨rfl,M⟩;have ab:=O (z.out.trans M);have aX:=(aA.out.ext M).cell;clear M aj)|(go_at_call 112;refine(aL.out _ _ (ab.out.alloc' _) (aw al _ _)).mono ?_;rintro e aC ⟨D,aQ,rfl,ar,ap⟩;have aK:=O ((ab.out.alloc' _).trans ar);have aM:=O (ap aC (aS _));clear ar ap)|(go_at_call 116;refine aM.out.mono ?_;rintro e ak ⟨rfl,aq⟩;have aJ:=O (aK.out.trans aq);clear aq));go_ret;exact⟨by rw[o.out];rfl,aJ.out⟩
theorem GY (nm:List UInt8) (G:World) (ad B C:Option Addr) (n c o I j X:Nat) (a2:n+o+j<=1073741824) (aJ:nm.length<=1073741824) (r af:Bool) (ax:EC G ad n c r) (ao:EB G B C o I j X af):
  Calls prog 70 #[.agg #[.int i64 6,.string (J nm),.slice ad n c,.slice B o I,.slice C j X]] G λe w'=>e=.returned (.bool ((nm==[]&&decide (n<=1)&&o==0&&j==0)&&r&&af))/\az G w':=by
 have a1:(n:Int)<=1073741824:=Qa
 have aX:(o:Int)<=1073741824:=Qa
 have aW:(j:Int)<=1073741824:=Qa
 have ac:=O (aw G 72 #[.int i64 6,.string (J nm),.slice ad n c,.slice B o I,.slice C j X]);have aA:=O (Z G (.cells #[.int i64 6,.string (J nm),.slice ad n c,.slice B o I,.slice C j X] 72));have ak:=O ax;have aQ:=O ao;have ay:=O (dJ nm aJ);generalize ap:(_&& _&& _:Bool)=R;have V:=O ap;clear ax ao ap;generalize dY nm=b at*;go_enter func70,ntmps70;go_wp2_with fail;refine cD 11 3 [(2,λv=>v=.bool b,λ_ _=>True)] [] [3,4,5,6,7,8,9,10] mixed Qb Qb Qb Qe ⟨λ_ _ _ _ _=>trivial,trivial⟩ (λi aK=>by simp at aK) ?_;repeat (refine sx ?_ (λaF A=> ?_) ?_;rotate_left;(focus have aM:=(ac.out.ext A.un).cell;clear A;go_simp<;>with_reducible rfl);simp only[a8,a7,a6,aZ,aY])
 refine so (λal A ai aj w=> ?_) ?_
 ·clear ai A;go_simp;refine(ay.out al).mono ?_;rintro e aT ⟨rfl,rfl⟩;exact w _ _ (aS _) rfl trivial
 rintro _ rfl;simp only[a8,a7,a6,aZ,aY];repeat (refine sx ?_ (λaF A=> ?_) ?_;rotate_left;(focus have aM:=(ac.out.ext A.un).cell;clear A;go_simp<;>with_reducible rfl);simp only[a8,a7,a6,aZ,aY])
 intro aU K ai aG;clear ai aG;simp only[ae,au];refine aN Qe Qd (λaj w=> ?_);go_simp;refine w _ _ K ?_;clear w;refine aN Qe Qd (λaj w=> ?_);go_simp;refine w _ _ K ?_;clear w;refine aN Qe Qd (λaj w=> ?_);go_simp;refine w _ _ K ?_;clear w;refine cz ?_;have aB:=O (ac.out.ext K.un);have z:=O (aA.out.trans K.un);have a3:=aB.out.cell;clear K ac aA ay
 cases hnm:(nm==[])with
 |false=>
  have a:=O (show R=false from by rw[<-V.out];simp[hnm]);go_wp2_with fail;go_ret;exact⟨by rw[a.out];rfl,z.out⟩
 |true=>
  by_cases h1:n<=1
  rotate_left
  ·have aL: ¬(n:Int)<=1:=Qa
   have a:=O (show R=false from by rw[<-V.out];simp[hnm,h1]);go_wp2_with fail;go_ret;exact⟨by rw[a.out];rfl,z.out⟩
  ·have aL:(n:Int)<=1:=Qa
   generalize ah:decide (0<o)=aD at*
   cases aD with
   |true=>
    have aI: ¬o=0:=by have:=of_decide_eq_true ah;omega
    have a:=O (show R=false from by rw[<-V.out];simp[hnm,h1,aI]);go_wp2_with fail;go_ret;exact⟨by rw[a.out];rfl,z.out⟩
   |false=>
    obtain rfl:o=0:=by have:=of_decide_eq_false ah;omega
    clear ah;generalize ag:decide (0<j)=aC at*
    cases aC with
    |true=>
     have aH: ¬j=0:=by have:=of_decide_eq_true ag;omega
     have a:=O (show R=false from by rw[<-V.out];simp[hnm,h1,aH]);go_wp2_with fail;go_ret;exact⟨by rw[a.out];rfl,z.out⟩
    |false=>
     obtain rfl:j=0:=by have:=of_decide_eq_false ag;omega
     clear ag
     cases r with
     |false=>
      have a:=O (show R=false from by rw[<-V.out];simp);go_wp2_with (go_at_call 113;refine(ak.out _ z.out).mono ?_;rintro e an ⟨rfl,M⟩;have ab:=O (z.out.trans M);clear M);go_ret;exact⟨by rw[a.out];rfl,ab.out⟩
     |true=>
      have a:=O (show R=af from by rw[<-V.out];simp[hnm,h1]);go_wp2_with (first|(go_at_call 113;refine(ak.out _ z.out).mono ?_;rintro e an ⟨rfl,M⟩;have ab:=O (z.out.trans M);have a4:=(aB.out.ext M).cell;clear M ak)|(go_at_call 112;refine(aQ.out _ _ (ab.out.alloc' _) (aw an _ _)).mono ?_;rintro e aE ⟨D,aV,rfl,av,aq⟩;have aP:=O ((ab.out.alloc' _).trans av);have aR:=O (aq aE (aS _));clear av aq)|(go_at_call 116;refine aR.out.mono ?_;rintro e al ⟨rfl,ar⟩;have aO:=O (aP.out.trans ar);clear ar));go_ret;exact⟨by rw[a.out];rfl,aO.out⟩
theorem GX (nm:List UInt8) (A:World) (I B C:Option Addr) (n c o ac j ab:Nat) (bc:n+o+j<=1073741824) (aM:nm.length<=1073741824) (r ag:Bool) (aB:EC A I n c r) (ar:EB A B C o ac j ab ag) (ah:Int) (G:n=1-> ∃b aq,I=some ⟨b,aq,none⟩/\b<A.heap.size/\A.cell? ⟨b,aq,none⟩=some (.int i64 ah)):
  Calls prog 70 #[.agg #[.int i64 7,.string (J nm),.slice I n c,.slice B o ac,.slice C j ab]] A λe w'=>e=.returned (.bool ((nm==[]&&n==1&&ah==5&&o==0&&j==0)&&r&&ag))/\az A w':=by
 have bb:(n:Int)<=1073741824:=Qa
 have ba:(o:Int)<=1073741824:=Qa
 have a9:(j:Int)<=1073741824:=Qa
 have af:=O (aw A 72 #[.int i64 7,.string (J nm),.slice I n c,.slice B o ac,.slice C j ab]);have aD:=O (Z A (.cells #[.int i64 7,.string (J nm),.slice I n c,.slice B o ac,.slice C j ab] 72));have an:=O aB;have aW:=O ar;have a1:=O G;clear G;have aC:=O (dJ nm aM);generalize av:(_&& _&& _:Bool)=R;have M:=O av;clear aB ar av;generalize dY nm=b at*;go_enter func70,ntmps70;go_wp2_with fail;refine cD 11 3 [(2,λv=>v=.bool b,λ_ _=>True)] [] [3,4,5,6,7,8,9,10] mixed Qb Qb Qb Qe ⟨λ_ _ _ _ _=>trivial,trivial⟩ (λi aP=>by simp at aP) ?_;repeat (refine sx ?_ (λaI K=> ?_) ?_;rotate_left;(focus have aR:=(af.out.ext K.un).cell;clear K;go_simp<;>with_reducible rfl);simp only[a8,a7,a6,aZ,aY])
 refine so (λao K ak al w=> ?_) ?_
 ·clear ak K;go_simp;refine(aC.out ao).mono ?_;rintro e a2 ⟨rfl,rfl⟩;exact w _ _ (aS _) rfl trivial
 rintro _ rfl;simp only[a8,a7,a6,aZ,aY];repeat (refine sx ?_ (λaI K=> ?_) ?_;rotate_left;(focus have aR:=(af.out.ext K.un).cell;clear K;go_simp<;>with_reducible rfl);simp only[a8,a7,a6,aZ,aY])
 intro a3 V ak aJ;clear ak aJ;simp only[ae,au];refine aN Qe Qd (λal w=> ?_);go_simp;refine w _ _ V ?_;clear w;refine aN Qe Qd (λal w=> ?_);go_simp;refine w _ _ V ?_;clear w;refine aN Qe Qd (λal w=> ?_);go_simp;refine w _ _ V ?_;clear w;refine cz ?_;have aE:=O (af.out.ext V.un);have z:=O (aD.out.trans V.un);have be:=aE.out.cell;clear V af aD aC
 cases hnm:(nm==[])with
 |false=>
  have a:=O (show R=false from by rw[<-M.out];simp[hnm]);go_wp2_with fail;go_ret;exact⟨by rw[a.out];rfl,z.out⟩
 |true=>
  by_cases h1:n=1
  rotate_left
  ·have bg:((n:Int)==1)=false:=by rw[Ql];omega
   have a:=O (show R=false from by rw[<-M.out];simp[hnm,h1]);go_wp2_with fail;go_ret;exact⟨by rw[a.out];rfl,z.out⟩
  ·subst h1;obtain⟨aT,a4,rfl,aQ,aO⟩:=a1.out rfl;have bd:=(z.out.cell aT _ aQ).trans aO
   cases G:(ah==5)with
   |false=>
    have a:=O (show R=false from by rw[<-M.out];simp[hnm,G]);go_wp2_with fail;go_ret;exact⟨by rw[a.out];rfl,z.out⟩
   |true=>
    generalize aj:decide (0<o)=aG at*
    cases aG with
    |true=>
     have aL: ¬o=0:=by have:=of_decide_eq_true aj;omega
     have a:=O (show R=false from by rw[<-M.out];simp[hnm,G,aL]);go_wp2_with fail;go_ret;exact⟨by rw[a.out];rfl,z.out⟩
    |false=>
     obtain rfl:o=0:=by have:=of_decide_eq_false aj;omega
     clear aj;generalize ai:decide (0<j)=aF at*
     cases aF with
     |true=>
      have aK: ¬j=0:=by have:=of_decide_eq_true ai;omega
      have a:=O (show R=false from by rw[<-M.out];simp[hnm,G,aK]);go_wp2_with fail;go_ret;exact⟨by rw[a.out];rfl,z.out⟩
     |false=>
      obtain rfl:j=0:=by have:=of_decide_eq_false ai;omega
      clear ai
      cases r with
      |false=>
       have a:=O (show R=false from by rw[<-M.out];simp);go_wp2_with (go_at_call 113;refine(an.out _ z.out).mono ?_;rintro e ap ⟨rfl,X⟩;have ad:=O (z.out.trans X);clear X);go_ret;exact⟨by rw[a.out];rfl,ad.out⟩
      |true=>
       have a:=O (show R=ag from by rw[<-M.out];simp[hnm,G]);go_wp2_with (first|(go_at_call 113;refine(an.out _ z.out).mono ?_;rintro e ap ⟨rfl,X⟩;have ad:=O (z.out.trans X);have bf:=(aE.out.ext X).cell;clear X an)|(go_at_call 112;refine(aW.out _ _ (ad.out.alloc' _) (aw ap _ _)).mono ?_;rintro e aH ⟨D,a5,rfl,aA,ax⟩;have aV:=O ((ad.out.alloc' _).trans aA);have aX:=O (ax aH (aS _));clear aA ax)|(go_at_call 116;refine aX.out.mono ?_;rintro e ao ⟨rfl,ay⟩;have aU:=O (aV.out.trans ay);clear ay));go_ret;exact⟨by rw[a.out];rfl,aU.out⟩
theorem G4 (k:Int) (j: ∀i:Int,1<=i->i<=7->k≠i) (nm:List UInt8) (G:World) (I B C:Option Addr) (n c A V z R:Nat) (av:n+A+z<=1073741824) (ah:nm.length<=1073741824):
  Calls prog 70 #[.agg #[.int i64 k,.string (J nm),.slice I n c,.slice B A V,.slice C z R]] G λe w'=>e=.returned (.bool false)/\az G w':=by
 have ab:=O (dJ nm ah);generalize dY nm=b at*;have aF:(k==1)=false:=Ql.2 (j 1 Qc Qc);have aE:(k==2)=false:=Ql.2 (j 2 Qc Qc);have aD:(k==3)=false:=Ql.2 (j 3 Qc Qc);have aC:(k==4)=false:=Ql.2 (j 4 Qc Qc);have aB:(k==5)=false:=Ql.2 (j 5 Qc Qc);have aA:(k==6)=false:=Ql.2 (j 6 Qc Qc);have ay:(k==7)=false:=Ql.2 (j 7 Qc Qc);have ar:(n:Int)<=1073741824:=Qa
 have aq:(A:Int)<=1073741824:=Qa
 have ap:(z:Int)<=1073741824:=Qa
 have K:=O (aw G 72 #[.int i64 k,.string (J nm),.slice I n c,.slice B A V,.slice C z R]);have ac:=O (Z G (.cells #[.int i64 k,.string (J nm),.slice I n c,.slice B A V,.slice C z R] 72));clear j;go_enter func70,ntmps70;go_wp2_with fail;refine cD 11 3 [(2,λv=>v=.bool b,λ_ _=>True)] [] [3,4,5,6,7,8,9,10] mixed Qb Qb Qb Qe ⟨λ_ _ _ _ _=>trivial,trivial⟩ (λi ai=>by simp at ai) ?_;repeat (refine sx ?_ (λaf o=> ?_) ?_;rotate_left;(focus have aj:=(K.out.ext o.un).cell;clear o;go_simp<;>with_reducible rfl);simp only[a8,a7,a6,aZ,aY])
 refine so (λad o M X a=> ?_) ?_
 ·clear M o;go_simp;refine(ab.out ad).mono ?_;rintro e an ⟨rfl,rfl⟩;exact a _ _ (aS _) rfl trivial
 rintro _ rfl;simp only[a8,a7,a6,aZ,aY];repeat (refine sx ?_ (λaf o=> ?_) ?_;rotate_left;(focus have aj:=(K.out.ext o.un).cell;clear o;go_simp<;>with_reducible rfl);simp only[a8,a7,a6,aZ,aY])
 intro ao w M ag;clear M ag;simp only[ae,au];refine aN Qe Qd (λX a=> ?_);go_simp;refine a _ _ w ?_;clear a;refine aN Qe Qd (λX a=> ?_);go_simp;refine a _ _ w ?_;clear a;refine aN Qe Qd (λX a=> ?_);go_simp;refine a _ _ w ?_;clear a;refine cz ?_;have al:=O (K.out.ext w.un);have ak:=O (ac.out.trans w.un);have ax:=al.out.cell;clear w K ac ab;go_wp2_with fail;go_ret;exact⟨rfl,ak.out⟩
theorem wT: ∀l:List St,l.any (λy=> !y.ok)= !qv l
 | []=>rfl
 |x::r=>by simp only[j7,qv,wT r,Bool.not_and]
theorem Da (a b:List St):qv (a++b)=(qv a&&qv b):=by rw[ib,ib,ib,iW]
theorem xG (y:St) (w':World) (B z w:Option Addr) (d d' o:Nat) (G: ∀j,az w' j->Calls prog 70 #[.agg #[.int i64 y.k,.string (J y.nm),.slice B y.ex.length d,.slice z y.body.length d',.slice w y.els.length o]] j λe a=>e=.returned (.bool y.ok)/\az j a):
  Calls prog 117 #[.agg #[.int i64 y.k,.string (J y.nm),.slice B y.ex.length d,.slice z y.body.length d',.slice w y.els.length o]] w' λe a=>e=.returned (.bool (!y.ok))/\az w' a:=by
 have R:=O G;have K:=O (Z w' (.cells #[.int i64 y.k,.string (J y.nm),.slice B y.ex.length d,.slice z y.body.length d',.slice w y.els.length o] 72));clear G;generalize y.ex.length=n at*;generalize y.body.length=I at*;generalize y.els.length=X at*;go_enter func117,ntmps117;go_wp2_with (refine(R.out _ K.out).mono ?_;rintro e V ⟨rfl,A⟩;have M:=O (K.out.trans A);clear A);go_ret;exact⟨rfl,M.out⟩
theorem pu: ∀(m:Nat) (x:St),x.wt<=m->x.wt<=1073741824-> ∀(P:Nat->Prop) (a:World) (A B C:Option Addr) (n c j z h w:Nat),c7 a P (.slice A n c) x.ex->db a P (.slice B j z) x.body->db a P (.slice C h w) x.els->
  Calls prog 70 #[.agg #[.int i64 x.k,.string (J x.nm),.slice A n c,.slice B j z,.slice C h w]] a λe w'=>e=.returned (.bool x.ok)/\az a w'
 |0,x,hm,_,_,_,_,_,_,_,_,_,_,_,_,_,_,_=>absurd hm (by have:=x.wt_eq;omega)
 |m+1,x,hm,hx,P,a,A,B,C,n,c,j,z,h,w,ae,hRb,hRl=>by
  have aK:=x.wt_eq;have K:=ae.len;have ad:=hRb.len;have I:=hRl.len;have aM:=dH x.ex;have aN:=dF x.body;have aL:=dF x.els;have X:EC a A n c (sW x.ex):=λw' af=>by
   refine(yR (λy=> !y.ok) x.ex P w' A n c (ae.keep (.of_ext af) (λ_ o _=>o)) Qa (λy al ah B d aG=> ?_)).mono ?_
   ·have aj:=dG al;exact qH y ah B d (λag ap=>pM _ y (ak _) Qa P ag B _ d (aG.keep (.of_ext ap) (λ_ o _=>o))) _ (.inr rfl)
   ·rintro e ah ⟨rfl,G⟩;exact⟨by rw[sr],G⟩
  have V:EB a B C j z h w (qv x.body&&qv x.els):=λw' g af aI=>by
   refine(qa P w' g B C j h z w x.body x.els aI (hRb.keep (.of_ext af) (λ_ o _=>o)) (hRl.keep (.of_ext af) (λ_ o _=>o)) Qa).mono ?_;rintro e ah ⟨⟨D,k,rfl,aF⟩,aH⟩;refine⟨D,k,rfl,aH,λag ap=> ?_⟩;refine(BC (λy=> !y.ok) (x.body++x.els) _ ag D (j+h) k (aF.keep (.of_ext ap) (λ_ o _=>o)) (by simp only[ac];omega) (λy al ar aC aB aA ax aw av an=> ?_)).mono ?_
   ·have aj:y.wt<=m/\y.wt<=1073741824:=by
     rcases List.mem_append.1 al with ab|ab
     ·have:=bO ab;omega
     ·have:=bO ab;omega
    exact xG y ar aC aB aA ax aw av (λaD ao=>pu m y aj.1 aj.2 _ aD aC aB aA _ ax _ aw _ av (an.1.keep (.of_ext ao) (λ_ o _=>o)) (an.2.1.keep (.of_ext ao) (λ_ o _=>o)) (an.2.2.keep (.of_ext ao) (λ_ o _=>o)))
   ·rintro e ar ⟨rfl,G⟩;exact⟨by rw[wT,Da],G⟩
  have M:n+j+h<=1073741824:=Qa
  have O:x.nm.length<=1073741824:=Qa
  obtain⟨k,nm,xs,ay,au⟩:=x;simp only[St.k,St.nm,St.ex,St.body,St.els]at*;have R: ∀aq,aq=St.ok (.mk k nm xs ay au)->Calls prog 70 #[.agg #[.int i64 k,.string (J nm),.slice A n c,.slice B j z,.slice C h w]] a (λe w'=>e=.returned (.bool aq)/\az a w')->Calls prog 70 #[.agg #[.int i64 k,.string (J nm),.slice A n c,.slice B j z,.slice C h w]] a λe w'=>e=.returned (.bool (St.ok (.mk k nm xs ay au)))/\az a w':=λaq ae ab=>by rw[<-ae];exact ab
  by_cases h1:k=1
  ·subst h1;exact R _ (by rw[St.ok,if_pos rfl,<-K,<-ad,<-I]) (G3 nm a A B C n c j z h w M O _ _ X V)
  by_cases G:k=2
  ·subst G;exact R _ (by rw[St.ok,if_neg h1,if_pos rfl,<-K,<-ad,<-I]) (G2 nm a A B C n c j z h w M O _ _ X V)
  by_cases h3:k=3
  ·subst h3;exact R _ (by rw[St.ok,if_neg h1,if_neg G,if_pos rfl,<-K,<-ad,<-I]) (G1 nm a A B C n c j z h w M O _ _ X V)
  by_cases h4:k=4
  ·subst h4;exact R _ (by rw[St.ok,if_neg h1,if_neg G,if_neg h3,if_pos rfl,<-K]) (G0 nm a A B C n c j z h w M O _ _ X V)
  by_cases h5:k=5
  ·subst h5;exact R _ (by rw[St.ok,if_neg h1,if_neg G,if_neg h3,if_neg h4,if_pos rfl,<-K,<-I]) (GZ nm a A B C n c j z h w M O _ _ X V)
  by_cases h6:k=6
  ·subst h6;exact R _ (by rw[St.ok,if_neg h1,if_neg G,if_neg h3,if_neg h4,if_neg h5,if_pos rfl,<-K,<-ad,<-I]) (GY nm a A B C n c j z h w M O _ _ X V)
  by_cases h7:k=7
  ·subst h7;refine R _ ?_ (GX nm a A B C n c j z h w M O _ _ X V ((xs.head?.map Ex.k).getD 0) λab=> ?_)
   ·rw[St.ok,if_neg h1,if_neg G,if_neg h3,if_neg h4,if_neg h5,if_neg h6,if_pos rfl,<-K,<-ad,<-I]
    cases xs with
    |nil=>simp only[ai]at K;subst K;simp
    |cons y r=>simp
   ·obtain⟨b,aE,aQ,rfl,o,_,aJ,_⟩:=ae.at_ 0 Qa;refine⟨b,aE,rfl,o,?_⟩
    cases xs with
    |nil=>simp only[ai]at K;omega
    |cons y r=>simpa using aJ
  ·refine R _ ?_ (G4 k (λi aP aO=>by omega) nm a A B C n c j z h w M O);rw[St.ok,if_neg h1,if_neg G,if_neg h3,if_neg h4,if_neg h5,if_neg h6,if_neg h7];rfl
def Bu (w:World) (b:Nat) (l:List UInt8):Prop:=
 ∃p v,aU w b 195 #[p,v]/\w.ownsRow (b+1) 5 1 v l.length (Lib.byteCells l)/\(l=[]->v=.slice none 0 0)/\(p=.pointer none\/p=.pointer (some ⟨b,0,none⟩))
theorem Bu.lt {h:World} {b:Nat} {l:List UInt8} (a:Bu h b l):b<h.heap.size:=let⟨_,_,a,_⟩:=a;a.lt
theorem Bu.new (a:World):Bu (a.alloc (.cells #[.pointer none,.slice none 0 0] 195)) a.heap.size []:=⟨_,_,aw a _ _,World.ownsRow_nil _ _ _ 1,λ_=>rfl,.inl rfl⟩
theorem Bu.ext {a w':World} {b:Nat} {l:List UInt8} (A:Bu a b l) (h:az a w'):Bu w' b l:=by
 obtain⟨p,v,z,o,w,j⟩:=A;exact⟨p,v,z.ext h,World.ownsRow.kept o (h.grownBy none) (by cases v.ownBlock<;>simp),w,j⟩
theorem sN {b:Nat} {a w':World} (j:az a w') (h:b<=a.heap.size):Below b a w':=RowKit.Below.mono j h
structure FB (b:Nat) (w w':World):Prop where
 below:Below b w w'
 keep: ∀k t cs,k≠b->t≠5->aU w k t cs->aU w' k t cs
theorem FB.refl (b:Nat) (a:World):FB b a a:=⟨Below.refl _ _,λ_ _ _ _ _ h=>h⟩
theorem FB.trans {b:Nat} {h w' a:World} (w:FB b h w') (k:FB b w' a):FB b h a:=⟨Below.trans w.below k.below,λi t z o j A=>k.keep i t z o j (w.keep i t z o j A)⟩
theorem FB.of_ext {b:Nat} {a w':World} (h:az a w') (j:b<=a.heap.size):FB b a w':=⟨sN h j,λ_ _ _ _ _ k=>k.ext h⟩
theorem FB.set {b i:Nat} {v:Value} (a:World):FB b a (a.setCell ⟨b,i,none⟩ v):=⟨(Below.refl b a).setCell (p:=⟨b,i,none⟩) (ak _) _,λk t o j _ h=>h.far (p:=⟨b,i,none⟩) j v⟩
theorem FB.keepP {b:Nat} {a w':World} (h:FB b a w') {P:Nat->Prop} (o: ∀k,P k->k<b):cR P a w':=⟨h.below.size,λk j w=>h.below.block k (o k j)⟩
structure GG (b:Nat) (v:Value) (w w':World):Prop where
 blk:aU w' b 195 #[.pointer (some ⟨b,0,none⟩),v]
 below:FB b w w'
 size:w'.heap.size=w.heap.size
 own: ∀n xs,w.ownsRow (b+1) 5 1 v n xs->w'.ownsRow (b+1) 5 1 v n xs
theorem GG.set {b:Nat} {p v:Value} {a:World} (j:aU a b 195 #[p,v]):GG b v a (a.setCell ⟨b,0,none⟩ (.pointer (some ⟨b,0,none⟩))):=by
 refine⟨by have:=j.set 0 (.pointer (some ⟨b,0,none⟩));simpa using this,FB.set a,by simp[World.setCell],λn xs h=>World.ownsRow.kept h (eF a b 0 _) ?_⟩
 cases hv:v.ownBlock with
 |none=>exact .inl rfl
 |some k=>exact .inr λe=>by have:=(World.ownsRow.lt h k hv).1;injection e with e;omega
theorem vu (b:Nat) (p v:Value) (j:World) (a:aU j b 195 #[p,v]) (z:p=.pointer none\/p=.pointer (some ⟨b,0,none⟩)):
  Calls prog 132 #[.pointer (some ⟨b,0,none⟩)] j λe w'=>e=.returned (.tuple #[])/\GG b v j w':=by
 have X:=a.cell;have V:=a.frozen;have M:=O a;obtain⟨R,o,A⟩:=Option.map_eq_some_iff.1 (show(prog.info? 193).map (·.size)=some 2 from by kernel_rfl);rcases z with rfl|rfl
 ·have K:=O (GG.set a);have w:j.shape? b=some (195,2):=by unfold aU at a;simp[World.shape?,a]
  clear a;go_enter func132,ntmps132;go_wp2;rw[Lib.run_to_unsafe j ⟨b,0,none⟩ underlying191 underlying255 o (by rw[A];decide) w (Nat.zero_lt_succ 1)];simp only[Result.andThen];rw[Oper.upon_value];go_wp2;rw[run_callFunc_extern func170 Qb Qb Qb (e:=Extern.AbiNoEscape.same) Qb];rw[Lib.run_noEscape];simp only[Result.andThen];rw[Oper.upon_value];go_wp2;rw[Lib.run_from_unsafe j ⟨b,0,none⟩ underlying255 underlying191 o w Qb];simp only[Result.andThen];rw[Oper.upon_value];go_wp2
  go_end0
  exact⟨rfl,K.out⟩
 ·clear a;go_enter func132,ntmps132;go_wp2;rw[Lib.run_neq_ptr_same j _ underlying191 o];go_wp2
  go_end0
  exact⟨rfl,M.out,FB.refl _ _,rfl,λ_ _ G=>G⟩
theorem CS {j h a:World} {b n:Nat} {v:Value} {xs:List Value} (z:GG b v j h) (o:j.ownsRow (b+1) 5 1 v n xs) (w:h.grownBy a v.ownBlock):aU a b 195 #[.pointer (some ⟨b,0,none⟩),v]:=
 z.blk.grown w λe=>by have:=(World.ownsRow.lt o b e.symm).1;omega
theorem Ay {h:World} {base n k:Nat} {e:TypeId} {v:Value} {xs:List Value} (j:h.ownsRow base e k v n xs): ∃o m c,v=.slice o m c:=by
 rcases j.2 with⟨a,_⟩|⟨g,cap,cur,a,_⟩
 ·exact⟨_,_,_,a⟩
 ·exact⟨_,_,_,a⟩
theorem qD (l s:List UInt8):Lib.byteCells (l++s)=Lib.byteCells l++Lib.strCells (J s):=by simp[Lib.byteCells,Lib.strCells,J]
theorem cV (b:Nat) (l s:List UInt8) (w:World) (aB:Bu w b l) (aL:l.length+s.length<=1000000000):
  Calls prog 91 #[.pointer (some ⟨b,0,none⟩),.string (J s)] w λe w'=>e=.returned (.tuple #[.int i64 s.length,.nilIface])/\Bu w' b (l++s)/\FB b w w':=by
 obtain⟨aq,az,av,au,ar⟩:=info_parts (show(prog.info? 5).map (λi=>(i.zero,i.size,i.bytes))=some (some (.int .u8 0),1,1)from by kernel_rfl);obtain⟨p,v,j,ae,ag,ad⟩:=aB;have al:=O (vu b p v w j ad);have A:=O ae;have aG:=O ag;have R:(J s).size=s.length:=bm s;have ay:=j.lt;clear j ae ag ad;go_enter func91,ntmps91;go_wp2_with (go_at_call 132;refine al.out.mono ?_);rintro e ap ⟨rfl,a⟩;have G:=O a;have ak:=a.blk.cell 0;have aj:=a.blk.cell 1;simp only[lr,fx,fA]at ak aj;have ax:=a.own _ _ A.out;have aJ:=a.size;clear a al;go_wp2_with (at_builtin;refine Lib.wpList_append_own_string _ rfl _ _ 40 9 rfl (b+1) 5 aq underlying40 underlying9 az av au ar _ _ _ rfl ax (J s) rfl ?c3 ?c4 ?c5 ?_)
 case c3=>rw[R];unfold maxLen;omega
 case c4=>rw[R];omega
 case c5=>omega
 intro aI K V X af;have an:=O V;have ao:=O X;have aF:=O af;have o:=CS G.out A.out X;have aD:=o.cell 0;have aC:=o.cell 1;have aM:=o.frozen 1;simp only[lr,fx,fA]at aD aC;have aH:=O o;have aA:=Ay V;clear V X af o ak aj;obtain⟨ab,M,z,rfl⟩:=aA;go_wp2;go_ret2;have aK:=ay;refine⟨rfl,?_,?_⟩
 ·refine⟨_,_,?_,World.ownsRow.kept (show K.ownsRow (b+1) 5 1 (.slice ab M z) (l++s).length (Lib.byteCells (l++s))from ?_) (eF K b 1 _) ?_,λe=> ?_,.inr rfl⟩
  ·have:=aH.out.set 1 (.slice ab M z);simpa using this
  ·have:=an.out;rw[ac,qD];first|exact this|(rw[R]at this;exact this)
  ·cases hv:Value.ownBlock (.slice ab M z)with
   |none=>exact .inl rfl
   |some k=>exact .inr λe=>by have:=(World.ownsRow.lt an.out k hv).1;injection e with e;omega
  ·have ai:=List.append_eq_nil_iff.1 e;exact aF.out.2 ⟨aG.out ai.1,by have:=ai.2;simp[this]⟩
 ·refine G.out.below.trans (FB.trans ⟨?_,λk t aE ah aw j=>j.grown ao.out λe=> ?_⟩ (FB.set K))
  ·exact(Below.refl b ap).grown ao.out (by have:=G.out.size;omega) (λk ah=>by have:=(World.ownsRow.lt A.out k ah).1;omega)
  ·rcases(G.out.own _ _ A.out).2 with⟨rfl,_⟩|⟨g,z,cur,rfl,_,hg,_⟩
   ·cases e
   ·have e:k=g:=I e;subst e;have:some (Obj.cells aE t (0,0))=some (Obj.cells cur 5 (0,0)):=j.symm.trans hg;injection this with this;injection this with _ this _;exact aw this
theorem Al (b:Nat) (l:List UInt8) (a:World) (ae:Bu a b l) (aj:l.length<=1000000000):
  Calls prog 95 #[.pointer (some ⟨b,0,none⟩)] a λe w'=>e=.returned (.string (J l))/\Below b a w':=by
 obtain⟨p,v,w,z,A,G⟩:=ae;by_cases h0:l=[]
 ·subst h0;obtain rfl:=A rfl;have ac: ∀(W:World) (q:Option Addr),(Builtin.unsafeString_ #[236,3] 9 #[.pointer q,.int i64 0]).run prog W=.ok (.string .empty) W:=λW q=>Lib.run_unsafeString_none W _ _ _ q;have af:a.drew.cell? ⟨b,1,none⟩=some (.slice none 0 0):=w.cell 1;have ad:(Builtin.unsafeSliceData_ #[40] 236 #[.slice none 0 0]).run prog a.drew=.ok (.pointer none) a.drew:=rfl;clear w z A G;have R:=mixed;go_enter func95,ntmps95;go_wp2
  go_region_o
  all_goals (go_wp2;go_ret;exact⟨rfl,Below.drew (Below.refl b a)⟩)
 ·have V:l.length≠0:=by simpa using h0
  have ai:=w.lt;obtain⟨g,j,o,rfl,al,I,ah,ab,ak,ag⟩: ∃g j o,v=.slice (some ⟨g,0,none⟩) l.length j/\b+1<=g/\a.heap[g]? =some (.cells o 5 (0,0))/\l.length<=j/\j<=maxLen/\o.size=j*1/\o.toList.take (l.length*1)=Lib.byteCells l:=by
   rcases z.2 with⟨_,M⟩|⟨g,j,o,hv,r⟩
   ·exact absurd M V
   ·exact⟨g,j,o,hv,r⟩
  have af:a.drew.cell? ⟨b,1,none⟩=some (.slice (some ⟨g,0,none⟩) l.length j):=w.cell 1;have ad:(Builtin.unsafeSliceData_ #[40] 236 #[.slice (some ⟨g,0,none⟩) l.length j]).run prog a.drew=.ok (.pointer (some ⟨g,0,none⟩)) a.drew:=
   Lib.run_unsafeSliceData_row _ _ _ _ _ _ Qa
  have ac:(Builtin.unsafeString_ #[236,3] 9 #[.pointer (some ⟨g,0,none⟩),.int i64 l.length]).run prog a.drew=.ok (.string ⟨l.toArray⟩) (a.drew.freeze ⟨g,0,none⟩ l.length):=by
   refine Lib.run_unsafeString_row a.drew 236 3 9 5 underlying236 Qb g o.size (by have X:a.drew.heap[g]? =some (.cells o 5 (0,0)):=I;simp[World.shape?,X]) l h0 Qa (by unfold maxLen at ab;omega) ?_;intro K x O;have:=z.cells (g:=g) rfl K (.int .u8 x.toNat) (by simp[Lib.byteCells,O]);exact this
  clear w z A G;have R:=mixed;go_enter func95,ntmps95;go_wp2
  go_region_o
  all_goals (go_wp2;go_ret;exact⟨rfl,Lib.below_freeze (Below.drew (Below.refl b a)) (p:=⟨g,0,none⟩) (by show b<=g;omega) _⟩)
def be:=@FB.of_ext
end
end Go.Proofs.YtddomeddabfinaaGreatDoor
