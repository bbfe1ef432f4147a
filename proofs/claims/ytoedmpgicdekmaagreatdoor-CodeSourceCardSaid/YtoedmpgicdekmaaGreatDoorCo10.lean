/- Parts of the proof. -/
import Derived.Test.YtoedmpgicdekmaaGreatDoorCo09
set_option maxRecDepth 100000
set_option maxHeartbeats 8000000
set_option linter.all false
namespace Go.Proofs.YtoedmpgicdekmaaGreatDoor
open IntKind(i64)
open Go.Proofs.Tryz
section
open Go.RowKit
def F_ (w:World) (A:Option Addr) (n c:Nat) (r:Bool):Prop:= ∀w',au w w'->Calls prog 113 #[.slice A n c,.func (Fn.func 114) #[] #[]] w' λe w''=>e=.returned (.bool (!r))/\au w' w''
def F9 (w:World) (B C:Option Addr) (nb cb nl cl:Nat) (r:Bool):Prop:= ∀w' g,au w w'->aO w' g 78 #[.slice B nb cb,.slice C nl cl]->
 Calls prog 112 #[.slice (some ⟨g,0,none⟩) 2 2] w' λe w''=> ∃D k,e=.returned (.slice D (nb+nl) k)/\au w' w''/\ ∀w3,au w'' w3->
  Calls prog 116 #[.slice D (nb+nl) k,.func (Fn.func 117) #[] #[]] w3 λe w4=>e=.returned (.bool (!r))/\au w3 w4
theorem Je (nm:List UInt8) (y:World) (ad B C:Option Addr) (n c d X a V:Nat) (aX:n+d+a<=1073741824) (aJ:nm.length<=1073741824) (r af:Bool) (ax:F_ y ad n c r) (an:F9 y B C d X a V af):
  Calls prog 61 #[.agg #[.int i64 1,.string (Z nm),.slice ad n c,.slice B d X,.slice C a V]] y λe w'=>e=.returned (.bool ((eD nm&&decide (n<=1)&&d==0&&a==0)&&r&&af))/\au y w':=by
 have aW:(n:Int)<=1073741824:=J
 have aV:(d:Int)<=1073741824:=J
 have aU:(a:Int)<=1073741824:=J
 have H:=G (aq y 147 #[.int i64 1,.string (Z nm),.slice ad n c,.slice B d X,.slice C a V]);have az:=G (aa y (.cells #[.int i64 1,.string (Z nm),.slice ad n c,.slice B d X,.slice C a V] 147));have aj:=G ax;have aP:=G an;have ay:=G (dR nm aJ);generalize ao:(_&& _&& _:Bool)=R;have F:=G ao;clear ax an ao;generalize eD nm=b at*;go_enter func61,ntmps61;go_wp2_with fail;refine dG 11 3 [(2,λv=>v=.bool b,λ_ _=>True)] [] [3,4,5,6,7,8,9,10] mixed Qb Qb Qb Qf ⟨λ_ _ _ _ _=>trivial,trivial⟩ (λi hi=>by simp at hi) ?_;repeat (refine sx ?_ (λaE w=> ?_) ?_;rotate_left;(focus have aL:=(H.out.ext w.un).cell;clear w;go_simp<;>with_reducible rfl);simp only[bE,bD,bC,bB,bA])
 refine so (λal w ai K o=> ?_) ?_
 ·clear ai w;go_simp;refine(ay.out al).mono ?_;rintro e aR ⟨rfl,rfl⟩;exact o _ _ (aI _) rfl trivial
 rintro _ rfl;simp only[bE,bD,bC,bB,bA];repeat (refine sx ?_ (λaE w=> ?_) ?_;rotate_left;(focus have aL:=(H.out.ext w.un).cell;clear w;go_simp<;>with_reducible rfl);simp only[bE,bD,bC,bB,bA])
 intro aS z ai aF;clear ai aF;simp only[ae,aw];refine aN Qf Qe (λK o=> ?_);go_simp;refine o _ _ z ?_;clear o;refine aN Qf Qe (λK o=> ?_);go_simp;refine o _ _ z ?_;clear o;refine aN Qf Qe (λK o=> ?_);go_simp;refine o _ _ z ?_;clear o;refine cQ ?_;have aA:=G (H.out.ext z.un);have u:=G (az.out.trans z.un);have aY:=aA.out.cell;clear z H az ay
 cases b with
 |false=>
  have e0:=G (show R=false from by rw[<-F.out];rfl);go_wp2_with fail;go_ret;exact⟨by rw[e0.out];rfl,u.out⟩
 |true=>
  by_cases h1:n<=1
  rotate_left
  ·have aK: ¬(n:Int)<=1:=J
   have e0:=G (show R=false from by rw[<-F.out];simp[h1]);go_wp2_with fail;go_ret;exact⟨by rw[e0.out];rfl,u.out⟩
  ·have aK:(n:Int)<=1:=J
   generalize ah:decide (0<d)=aC at*
   cases aC with
   |true=>
    have aH: ¬d=0:=by have:=of_decide_eq_true ah;omega
    have e0:=G (show R=false from by rw[<-F.out];simp[h1,aH]);go_wp2_with fail;go_ret;exact⟨by rw[e0.out];rfl,u.out⟩
   |false=>
    obtain rfl:d=0:=by have:=of_decide_eq_false ah;omega
    clear ah;generalize ag:decide (0<a)=aB at*
    cases aB with
    |true=>
     have aG: ¬a=0:=by have:=of_decide_eq_true ag;omega
     have e0:=G (show R=false from by rw[<-F.out];simp[h1,aG]);go_wp2_with fail;go_ret;exact⟨by rw[e0.out];rfl,u.out⟩
    |false=>
     obtain rfl:a=0:=by have:=of_decide_eq_false ag;omega
     clear ag
     cases r with
     |false=>
      have e0:=G (show R=false from by rw[<-F.out];simp);go_wp2_with (go_at_call 113;refine(aj.out _ u.out).mono ?_;rintro e am ⟨rfl,A⟩;have I:=G (u.out.trans A);clear A);go_ret;exact⟨by rw[e0.out];rfl,I.out⟩
     |true=>
      have e0:=G (show R=af from by rw[<-F.out];simp[h1]);go_wp2_with (first|(go_at_call 113;refine(aj.out _ u.out).mono ?_;rintro e am ⟨rfl,A⟩;have I:=G (u.out.trans A);have aZ:=(aA.out.ext A).cell;clear A aj)|(go_at_call 112;refine(aP.out _ _ (I.out.alloc' _) (aq am _ _)).mono ?_;rintro e aD ⟨D,aT,rfl,av,ap⟩;have aO:=G ((I.out.alloc' _).trans av);have aQ:=G (ap aD (aI _));clear av ap)|(go_at_call 116;refine aQ.out.mono ?_;rintro e al ⟨rfl,ar⟩;have aM:=G (aO.out.trans ar);clear ar));go_ret;exact⟨by rw[e0.out];rfl,aM.out⟩
theorem Jd (nm:List UInt8) (y:World) (ad B C:Option Addr) (n c d X a V:Nat) (aW:n+d+a<=1073741824) (aJ:nm.length<=1073741824) (r af:Bool) (ax:F_ y ad n c r) (an:F9 y B C d X a V af):
  Calls prog 61 #[.agg #[.int i64 2,.string (Z nm),.slice ad n c,.slice B d X,.slice C a V]] y λe w'=>e=.returned (.bool ((eD nm&&n==1&&d==0&&a==0)&&r&&af))/\au y w':=by
 have aV:(n:Int)<=1073741824:=J
 have aU:(d:Int)<=1073741824:=J
 have aT:(a:Int)<=1073741824:=J
 have H:=G (aq y 147 #[.int i64 2,.string (Z nm),.slice ad n c,.slice B d X,.slice C a V]);have az:=G (aa y (.cells #[.int i64 2,.string (Z nm),.slice ad n c,.slice B d X,.slice C a V] 147));have aj:=G ax;have aO:=G an;have ay:=G (dR nm aJ);generalize ao:(_&& _&& _:Bool)=R;have F:=G ao;clear ax an ao;generalize eD nm=b at*;go_enter func61,ntmps61;go_wp2_with fail;refine dG 11 3 [(2,λv=>v=.bool b,λ_ _=>True)] [] [3,4,5,6,7,8,9,10] mixed Qb Qb Qb Qf ⟨λ_ _ _ _ _=>trivial,trivial⟩ (λi hi=>by simp at hi) ?_;repeat (refine sx ?_ (λaE w=> ?_) ?_;rotate_left;(focus have aK:=(H.out.ext w.un).cell;clear w;go_simp<;>with_reducible rfl);simp only[bE,bD,bC,bB,bA])
 refine so (λal w ai K o=> ?_) ?_
 ·clear ai w;go_simp;refine(ay.out al).mono ?_;rintro e aQ ⟨rfl,rfl⟩;exact o _ _ (aI _) rfl trivial
 rintro _ rfl;simp only[bE,bD,bC,bB,bA];repeat (refine sx ?_ (λaE w=> ?_) ?_;rotate_left;(focus have aK:=(H.out.ext w.un).cell;clear w;go_simp<;>with_reducible rfl);simp only[bE,bD,bC,bB,bA])
 intro aR z ai aF;clear ai aF;simp only[ae,aw];refine aN Qf Qe (λK o=> ?_);go_simp;refine o _ _ z ?_;clear o;refine aN Qf Qe (λK o=> ?_);go_simp;refine o _ _ z ?_;clear o;refine aN Qf Qe (λK o=> ?_);go_simp;refine o _ _ z ?_;clear o;refine cQ ?_;have aA:=G (H.out.ext z.un);have u:=G (az.out.trans z.un);have aX:=aA.out.cell;clear z H az ay
 cases b with
 |false=>
  have e0:=G (show R=false from by rw[<-F.out];rfl);go_wp2_with fail;go_ret;exact⟨by rw[e0.out];rfl,u.out⟩
 |true=>
  by_cases h1:n=1
  rotate_left
  ·have aZ:((n:Int)==1)=false:=by rw[Qn];omega
   have e0:=G (show R=false from by rw[<-F.out];simp[h1]);go_wp2_with fail;go_ret;exact⟨by rw[e0.out];rfl,u.out⟩
  ·subst h1;generalize ah:decide (0<d)=aC at*
   cases aC with
   |true=>
    have aH: ¬d=0:=by have:=of_decide_eq_true ah;omega
    have e0:=G (show R=false from by rw[<-F.out];simp[aH]);go_wp2_with fail;go_ret;exact⟨by rw[e0.out];rfl,u.out⟩
   |false=>
    obtain rfl:d=0:=by have:=of_decide_eq_false ah;omega
    clear ah;generalize ag:decide (0<a)=aB at*
    cases aB with
    |true=>
     have aG: ¬a=0:=by have:=of_decide_eq_true ag;omega
     have e0:=G (show R=false from by rw[<-F.out];simp[aG]);go_wp2_with fail;go_ret;exact⟨by rw[e0.out];rfl,u.out⟩
    |false=>
     obtain rfl:a=0:=by have:=of_decide_eq_false ag;omega
     clear ag
     cases r with
     |false=>
      have e0:=G (show R=false from by rw[<-F.out];simp);go_wp2_with (go_at_call 113;refine(aj.out _ u.out).mono ?_;rintro e am ⟨rfl,A⟩;have I:=G (u.out.trans A);clear A);go_ret;exact⟨by rw[e0.out];rfl,I.out⟩
     |true=>
      have e0:=G (show R=af from by rw[<-F.out];simp[]);go_wp2_with (first|(go_at_call 113;refine(aj.out _ u.out).mono ?_;rintro e am ⟨rfl,A⟩;have I:=G (u.out.trans A);have aY:=(aA.out.ext A).cell;clear A aj)|(go_at_call 112;refine(aO.out _ _ (I.out.alloc' _) (aq am _ _)).mono ?_;rintro e aD ⟨D,aS,rfl,av,ap⟩;have aM:=G ((I.out.alloc' _).trans av);have aP:=G (ap aD (aI _));clear av ap)|(go_at_call 116;refine aP.out.mono ?_;rintro e al ⟨rfl,ar⟩;have aL:=G (aM.out.trans ar);clear ar));go_ret;exact⟨by rw[e0.out];rfl,aL.out⟩
theorem Jc (nm:List UInt8) (y:World) (ad B C:Option Addr) (n c d X a V:Nat) (aW:n+d+a<=1073741824) (aJ:nm.length<=1073741824) (r af:Bool) (ax:F_ y ad n c r) (an:F9 y B C d X a V af):
  Calls prog 61 #[.agg #[.int i64 3,.string (Z nm),.slice ad n c,.slice B d X,.slice C a V]] y λe w'=>e=.returned (.bool ((eD nm&&n==2&&d==0&&a==0)&&r&&af))/\au y w':=by
 have aV:(n:Int)<=1073741824:=J
 have aU:(d:Int)<=1073741824:=J
 have aT:(a:Int)<=1073741824:=J
 have H:=G (aq y 147 #[.int i64 3,.string (Z nm),.slice ad n c,.slice B d X,.slice C a V]);have az:=G (aa y (.cells #[.int i64 3,.string (Z nm),.slice ad n c,.slice B d X,.slice C a V] 147));have aj:=G ax;have aO:=G an;have ay:=G (dR nm aJ);generalize ao:(_&& _&& _:Bool)=R;have F:=G ao;clear ax an ao;generalize eD nm=b at*;go_enter func61,ntmps61;go_wp2_with fail;refine dG 11 3 [(2,λv=>v=.bool b,λ_ _=>True)] [] [3,4,5,6,7,8,9,10] mixed Qb Qb Qb Qf ⟨λ_ _ _ _ _=>trivial,trivial⟩ (λi hi=>by simp at hi) ?_;repeat (refine sx ?_ (λaE w=> ?_) ?_;rotate_left;(focus have aK:=(H.out.ext w.un).cell;clear w;go_simp<;>with_reducible rfl);simp only[bE,bD,bC,bB,bA])
 refine so (λal w ai K o=> ?_) ?_
 ·clear ai w;go_simp;refine(ay.out al).mono ?_;rintro e aQ ⟨rfl,rfl⟩;exact o _ _ (aI _) rfl trivial
 rintro _ rfl;simp only[bE,bD,bC,bB,bA];repeat (refine sx ?_ (λaE w=> ?_) ?_;rotate_left;(focus have aK:=(H.out.ext w.un).cell;clear w;go_simp<;>with_reducible rfl);simp only[bE,bD,bC,bB,bA])
 intro aR z ai aF;clear ai aF;simp only[ae,aw];refine aN Qf Qe (λK o=> ?_);go_simp;refine o _ _ z ?_;clear o;refine aN Qf Qe (λK o=> ?_);go_simp;refine o _ _ z ?_;clear o;refine aN Qf Qe (λK o=> ?_);go_simp;refine o _ _ z ?_;clear o;refine cQ ?_;have aA:=G (H.out.ext z.un);have u:=G (az.out.trans z.un);have aX:=aA.out.cell;clear z H az ay
 cases b with
 |false=>
  have e0:=G (show R=false from by rw[<-F.out];rfl);go_wp2_with fail;go_ret;exact⟨by rw[e0.out];rfl,u.out⟩
 |true=>
  by_cases h2:n=2
  rotate_left
  ·have aZ:((n:Int)==2)=false:=by rw[Qn];omega
   have e0:=G (show R=false from by rw[<-F.out];simp[h2]);go_wp2_with fail;go_ret;exact⟨by rw[e0.out];rfl,u.out⟩
  ·subst h2;generalize ah:decide (0<d)=aC at*
   cases aC with
   |true=>
    have aH: ¬d=0:=by have:=of_decide_eq_true ah;omega
    have e0:=G (show R=false from by rw[<-F.out];simp[aH]);go_wp2_with fail;go_ret;exact⟨by rw[e0.out];rfl,u.out⟩
   |false=>
    obtain rfl:d=0:=by have:=of_decide_eq_false ah;omega
    clear ah;generalize ag:decide (0<a)=aB at*
    cases aB with
    |true=>
     have aG: ¬a=0:=by have:=of_decide_eq_true ag;omega
     have e0:=G (show R=false from by rw[<-F.out];simp[aG]);go_wp2_with fail;go_ret;exact⟨by rw[e0.out];rfl,u.out⟩
    |false=>
     obtain rfl:a=0:=by have:=of_decide_eq_false ag;omega
     clear ag
     cases r with
     |false=>
      have e0:=G (show R=false from by rw[<-F.out];simp);go_wp2_with (go_at_call 113;refine(aj.out _ u.out).mono ?_;rintro e am ⟨rfl,A⟩;have I:=G (u.out.trans A);clear A);go_ret;exact⟨by rw[e0.out];rfl,I.out⟩
     |true=>
      have e0:=G (show R=af from by rw[<-F.out];simp[]);go_wp2_with (first|(go_at_call 113;refine(aj.out _ u.out).mono ?_;rintro e am ⟨rfl,A⟩;have I:=G (u.out.trans A);have aY:=(aA.out.ext A).cell;clear A aj)|(go_at_call 112;refine(aO.out _ _ (I.out.alloc' _) (aq am _ _)).mono ?_;rintro e aD ⟨D,aS,rfl,av,ap⟩;have aM:=G ((I.out.alloc' _).trans av);have aP:=G (ap aD (aI _));clear av ap)|(go_at_call 116;refine aP.out.mono ?_;rintro e al ⟨rfl,ar⟩;have aL:=G (aM.out.trans ar);clear ar));go_ret;exact⟨by rw[e0.out];rfl,aL.out⟩
theorem Jb (nm:List UInt8) (o:World) (ad B C:Option Addr) (n c w V u F:Nat) (aQ:n+w+u<=1073741824) (aC:nm.length<=1073741824) (r af:Bool) (ar:F_ o ad n c r) (al:F9 o B C w V u F af):
  Calls prog 61 #[.agg #[.int i64 4,.string (Z nm),.slice ad n c,.slice B w V,.slice C u F]] o λe w'=>e=.returned (.bool ((nm==[]&&n==1)&&r&&af))/\au o w':=by
 have aP:(n:Int)<=1073741824:=J
 have aO:(w:Int)<=1073741824:=J
 have aM:(u:Int)<=1073741824:=J
 have H:=G (aq o 147 #[.int i64 4,.string (Z nm),.slice ad n c,.slice B w V,.slice C u F]);have ax:=G (aa o (.cells #[.int i64 4,.string (Z nm),.slice ad n c,.slice B w V,.slice C u F] 147));have ah:=G ar;have aG:=G al;have av:=G (dR nm aC);generalize am:(_&& _&& _:Bool)=R;have I:=G am;clear ar al am;generalize eD nm=b at*;go_enter func61,ntmps61;go_wp2_with fail;refine dG 11 3 [(2,λv=>v=.bool b,λ_ _=>True)] [] [3,4,5,6,7,8,9,10] mixed Qb Qb Qb Qf ⟨λ_ _ _ _ _=>trivial,trivial⟩ (λi hi=>by simp at hi) ?_;repeat (refine sx ?_ (λaA d=> ?_) ?_;rotate_left;(focus have aD:=(H.out.ext d.un).cell;clear d;go_simp<;>with_reducible rfl);simp only[bE,bD,bC,bB,bA])
 refine so (λai d ag K a=> ?_) ?_
 ·clear ag d;go_simp;refine(av.out ai).mono ?_;rintro e aJ ⟨rfl,rfl⟩;exact a _ _ (aI _) rfl trivial
 rintro _ rfl;simp only[bE,bD,bC,bB,bA];repeat (refine sx ?_ (λaA d=> ?_) ?_;rotate_left;(focus have aD:=(H.out.ext d.un).cell;clear d;go_simp<;>with_reducible rfl);simp only[bE,bD,bC,bB,bA])
 intro aK y ag aB;clear ag aB;simp only[ae,aw];refine aN Qf Qe (λK a=> ?_);go_simp;refine a _ _ y ?_;clear a;refine aN Qf Qe (λK a=> ?_);go_simp;refine a _ _ y ?_;clear a;refine aN Qf Qe (λK a=> ?_);go_simp;refine a _ _ y ?_;clear a;refine cQ ?_;have ay:=G (H.out.ext y.un);have A:=G (ax.out.trans y.un);have aR:=ay.out.cell;clear y H ax av
 cases hnm:(nm==[])with
 |false=>
  have e0:=G (show R=false from by rw[<-I.out];simp[hnm]);go_wp2_with fail;go_ret;exact⟨by rw[e0.out];rfl,A.out⟩
 |true=>
  by_cases h1:n=1
  rotate_left
  ·have aT:((n:Int)==1)=false:=by rw[Qn];omega
   have e0:=G (show R=false from by rw[<-I.out];simp[hnm,h1]);go_wp2_with fail;go_ret;exact⟨by rw[e0.out];rfl,A.out⟩
  ·subst h1
   cases r with
   |false=>
    have e0:=G (show R=false from by rw[<-I.out];simp);go_wp2_with (go_at_call 113;refine(ah.out _ A.out).mono ?_;rintro e aj ⟨rfl,z⟩;have X:=G (A.out.trans z);clear z);go_ret;exact⟨by rw[e0.out];rfl,X.out⟩
   |true=>
    have e0:=G (show R=af from by rw[<-I.out];simp[hnm]);go_wp2_with (first|(go_at_call 113;refine(ah.out _ A.out).mono ?_;rintro e aj ⟨rfl,z⟩;have X:=G (A.out.trans z);have aS:=(ay.out.ext z).cell;clear z ah)|(go_at_call 112;refine(aG.out _ _ (X.out.alloc' _) (aq aj _ _)).mono ?_;rintro e az ⟨D,aL,rfl,ap,an⟩;have aF:=G ((X.out.alloc' _).trans ap);have aH:=G (an az (aI _));clear ap an)|(go_at_call 116;refine aH.out.mono ?_;rintro e ai ⟨rfl,ao⟩;have aE:=G (aF.out.trans ao);clear ao));go_ret;exact⟨by rw[e0.out];rfl,aE.out⟩
theorem Ja (nm:List UInt8) (w:World) (ad B C:Option Addr) (n c y X a V:Nat) (aT:n+y+a<=1073741824) (aF:nm.length<=1073741824) (r af:Bool) (av:F_ w ad n c r) (am:F9 w B C y X a V af):
  Calls prog 61 #[.agg #[.int i64 5,.string (Z nm),.slice ad n c,.slice B y X,.slice C a V]] w λe w'=>e=.returned (.bool ((nm==[]&&n==1&&a==0)&&r&&af))/\au w w':=by
 have aS:(n:Int)<=1073741824:=J
 have aR:(y:Int)<=1073741824:=J
 have aQ:(a:Int)<=1073741824:=J
 have H:=G (aq w 147 #[.int i64 5,.string (Z nm),.slice ad n c,.slice B y X,.slice C a V]);have ay:=G (aa w (.cells #[.int i64 5,.string (Z nm),.slice ad n c,.slice B y X,.slice C a V] 147));have ai:=G av;have aK:=G am;have ax:=G (dR nm aF);generalize an:(_&& _&& _:Bool)=R;have F:=G an;clear av am an;generalize eD nm=b at*;go_enter func61,ntmps61;go_wp2_with fail;refine dG 11 3 [(2,λv=>v=.bool b,λ_ _=>True)] [] [3,4,5,6,7,8,9,10] mixed Qb Qb Qb Qf ⟨λ_ _ _ _ _=>trivial,trivial⟩ (λi hi=>by simp at hi) ?_;repeat (refine sx ?_ (λaC o=> ?_) ?_;rotate_left;(focus have aG:=(H.out.ext o.un).cell;clear o;go_simp<;>with_reducible rfl);simp only[bE,bD,bC,bB,bA])
 refine so (λaj o ah K d=> ?_) ?_
 ·clear ah o;go_simp;refine(ax.out aj).mono ?_;rintro e aM ⟨rfl,rfl⟩;exact d _ _ (aI _) rfl trivial
 rintro _ rfl;simp only[bE,bD,bC,bB,bA];repeat (refine sx ?_ (λaC o=> ?_) ?_;rotate_left;(focus have aG:=(H.out.ext o.un).cell;clear o;go_simp<;>with_reducible rfl);simp only[bE,bD,bC,bB,bA])
 intro aO z ah aD;clear ah aD;simp only[ae,aw];refine aN Qf Qe (λK d=> ?_);go_simp;refine d _ _ z ?_;clear d;refine aN Qf Qe (λK d=> ?_);go_simp;refine d _ _ z ?_;clear d;refine aN Qf Qe (λK d=> ?_);go_simp;refine d _ _ z ?_;clear d;refine cQ ?_;have az:=G (H.out.ext z.un);have u:=G (ay.out.trans z.un);have aU:=az.out.cell;clear z H ay ax
 cases hnm:(nm==[])with
 |false=>
  have e0:=G (show R=false from by rw[<-F.out];simp[hnm]);go_wp2_with fail;go_ret;exact⟨by rw[e0.out];rfl,u.out⟩
 |true=>
  by_cases h1:n=1
  rotate_left
  ·have aW:((n:Int)==1)=false:=by rw[Qn];omega
   have e0:=G (show R=false from by rw[<-F.out];simp[hnm,h1]);go_wp2_with fail;go_ret;exact⟨by rw[e0.out];rfl,u.out⟩
  ·subst h1;generalize ag:decide (0<a)=aA at*
   cases aA with
   |true=>
    have aE: ¬a=0:=by have:=of_decide_eq_true ag;omega
    have e0:=G (show R=false from by rw[<-F.out];simp[hnm,aE]);go_wp2_with fail;go_ret;exact⟨by rw[e0.out];rfl,u.out⟩
   |false=>
    obtain rfl:a=0:=by have:=of_decide_eq_false ag;omega
    clear ag
    cases r with
    |false=>
     have e0:=G (show R=false from by rw[<-F.out];simp);go_wp2_with (go_at_call 113;refine(ai.out _ u.out).mono ?_;rintro e al ⟨rfl,A⟩;have I:=G (u.out.trans A);clear A);go_ret;exact⟨by rw[e0.out];rfl,I.out⟩
    |true=>
     have e0:=G (show R=af from by rw[<-F.out];simp[hnm]);go_wp2_with (first|(go_at_call 113;refine(ai.out _ u.out).mono ?_;rintro e al ⟨rfl,A⟩;have I:=G (u.out.trans A);have aV:=(az.out.ext A).cell;clear A ai)|(go_at_call 112;refine(aK.out _ _ (I.out.alloc' _) (aq al _ _)).mono ?_;rintro e aB ⟨D,aP,rfl,ar,ao⟩;have aJ:=G ((I.out.alloc' _).trans ar);have aL:=G (ao aB (aI _));clear ar ao)|(go_at_call 116;refine aL.out.mono ?_;rintro e aj ⟨rfl,ap⟩;have aH:=G (aJ.out.trans ap);clear ap));go_ret;exact⟨by rw[e0.out];rfl,aH.out⟩
theorem I' (nm:List UInt8) (y:World) (ad B C:Option Addr) (n c d X a V:Nat) (aX:n+d+a<=1073741824) (aJ:nm.length<=1073741824) (r af:Bool) (ax:F_ y ad n c r) (an:F9 y B C d X a V af):
  Calls prog 61 #[.agg #[.int i64 6,.string (Z nm),.slice ad n c,.slice B d X,.slice C a V]] y λe w'=>e=.returned (.bool ((nm==[]&&decide (n<=1)&&d==0&&a==0)&&r&&af))/\au y w':=by
 have aW:(n:Int)<=1073741824:=J
 have aV:(d:Int)<=1073741824:=J
 have aU:(a:Int)<=1073741824:=J
 have H:=G (aq y 147 #[.int i64 6,.string (Z nm),.slice ad n c,.slice B d X,.slice C a V]);have az:=G (aa y (.cells #[.int i64 6,.string (Z nm),.slice ad n c,.slice B d X,.slice C a V] 147));have aj:=G ax;have aP:=G an;have ay:=G (dR nm aJ);generalize ao:(_&& _&& _:Bool)=R;have F:=G ao;clear ax an ao;generalize eD nm=b at*;go_enter func61,ntmps61;go_wp2_with fail;refine dG 11 3 [(2,λv=>v=.bool b,λ_ _=>True)] [] [3,4,5,6,7,8,9,10] mixed Qb Qb Qb Qf ⟨λ_ _ _ _ _=>trivial,trivial⟩ (λi hi=>by simp at hi) ?_;repeat (refine sx ?_ (λaE w=> ?_) ?_;rotate_left;(focus have aL:=(H.out.ext w.un).cell;clear w;go_simp<;>with_reducible rfl);simp only[bE,bD,bC,bB,bA])
 refine so (λal w ai K o=> ?_) ?_
 ·clear ai w;go_simp;refine(ay.out al).mono ?_;rintro e aR ⟨rfl,rfl⟩;exact o _ _ (aI _) rfl trivial
 rintro _ rfl;simp only[bE,bD,bC,bB,bA];repeat (refine sx ?_ (λaE w=> ?_) ?_;rotate_left;(focus have aL:=(H.out.ext w.un).cell;clear w;go_simp<;>with_reducible rfl);simp only[bE,bD,bC,bB,bA])
 intro aS z ai aF;clear ai aF;simp only[ae,aw];refine aN Qf Qe (λK o=> ?_);go_simp;refine o _ _ z ?_;clear o;refine aN Qf Qe (λK o=> ?_);go_simp;refine o _ _ z ?_;clear o;refine aN Qf Qe (λK o=> ?_);go_simp;refine o _ _ z ?_;clear o;refine cQ ?_;have aA:=G (H.out.ext z.un);have u:=G (az.out.trans z.un);have aY:=aA.out.cell;clear z H az ay
 cases hnm:(nm==[])with
 |false=>
  have e0:=G (show R=false from by rw[<-F.out];simp[hnm]);go_wp2_with fail;go_ret;exact⟨by rw[e0.out];rfl,u.out⟩
 |true=>
  by_cases h1:n<=1
  rotate_left
  ·have aK: ¬(n:Int)<=1:=J
   have e0:=G (show R=false from by rw[<-F.out];simp[hnm,h1]);go_wp2_with fail;go_ret;exact⟨by rw[e0.out];rfl,u.out⟩
  ·have aK:(n:Int)<=1:=J
   generalize ah:decide (0<d)=aC at*
   cases aC with
   |true=>
    have aH: ¬d=0:=by have:=of_decide_eq_true ah;omega
    have e0:=G (show R=false from by rw[<-F.out];simp[hnm,h1,aH]);go_wp2_with fail;go_ret;exact⟨by rw[e0.out];rfl,u.out⟩
   |false=>
    obtain rfl:d=0:=by have:=of_decide_eq_false ah;omega
    clear ah;generalize ag:decide (0<a)=aB at*
    cases aB with
    |true=>
     have aG: ¬a=0:=by have:=of_decide_eq_true ag;omega
     have e0:=G (show R=false from by rw[<-F.out];simp[hnm,h1,aG]);go_wp2_with fail;go_ret;exact⟨by rw[e0.out];rfl,u.out⟩
    |false=>
     obtain rfl:a=0:=by have:=of_decide_eq_false ag;omega
     clear ag
     cases r with
     |false=>
      have e0:=G (show R=false from by rw[<-F.out];simp);go_wp2_with (go_at_call 113;refine(aj.out _ u.out).mono ?_;rintro e am ⟨rfl,A⟩;have I:=G (u.out.trans A);clear A);go_ret;exact⟨by rw[e0.out];rfl,I.out⟩
     |true=>
      have e0:=G (show R=af from by rw[<-F.out];simp[hnm,h1]);go_wp2_with (first|(go_at_call 113;refine(aj.out _ u.out).mono ?_;rintro e am ⟨rfl,A⟩;have I:=G (u.out.trans A);have aZ:=(aA.out.ext A).cell;clear A aj)|(go_at_call 112;refine(aP.out _ _ (I.out.alloc' _) (aq am _ _)).mono ?_;rintro e aD ⟨D,aT,rfl,av,ap⟩;have aO:=G ((I.out.alloc' _).trans av);have aQ:=G (ap aD (aI _));clear av ap)|(go_at_call 116;refine aQ.out.mono ?_;rintro e al ⟨rfl,ar⟩;have aM:=G (aO.out.trans ar);clear ar));go_ret;exact⟨by rw[e0.out];rfl,aM.out⟩
theorem I_ (nm:List UInt8) (w:World) (X B C:Option Addr) (n c d H a I:Nat) (a4:n+d+a<=1073741824) (aM:nm.length<=1073741824) (r ag:Bool) (aA:F_ w X n c r) (ar:F9 w B C d H a I ag) (ah:Int) (y:n=1-> ∃b ap,X=some ⟨b,ap,none⟩/\b<w.heap.size/\w.cell? ⟨b,ap,none⟩=some (.int i64 ah)):
  Calls prog 61 #[.agg #[.int i64 7,.string (Z nm),.slice X n c,.slice B d H,.slice C a I]] w λe w'=>e=.returned (.bool ((nm==[]&&n==1&&ah==5&&d==0&&a==0)&&r&&ag))/\au w w':=by
 have a3:(n:Int)<=1073741824:=J
 have a2:(d:Int)<=1073741824:=J
 have a1:(a:Int)<=1073741824:=J
 have af:=G (aq w 147 #[.int i64 7,.string (Z nm),.slice X n c,.slice B d H,.slice C a I]);have aC:=G (aa w (.cells #[.int i64 7,.string (Z nm),.slice X n c,.slice B d H,.slice C a I] 147));have am:=G aA;have aT:=G ar;have aV:=G y;clear y;have aB:=G (dR nm aM);generalize av:(_&& _&& _:Bool)=R;have A:=G av;clear aA ar av;generalize eD nm=b at*;go_enter func61,ntmps61;go_wp2_with fail;refine dG 11 3 [(2,λv=>v=.bool b,λ_ _=>True)] [] [3,4,5,6,7,8,9,10] mixed Qb Qb Qb Qf ⟨λ_ _ _ _ _=>trivial,trivial⟩ (λi hi=>by simp at hi) ?_;repeat (refine sx ?_ (λaH z=> ?_) ?_;rotate_left;(focus have aQ:=(af.out.ext z.un).cell;clear z;go_simp<;>with_reducible rfl);simp only[bE,bD,bC,bB,bA])
 refine so (λan z al K o=> ?_) ?_
 ·clear al z;go_simp;refine(aB.out an).mono ?_;rintro e aW ⟨rfl,rfl⟩;exact o _ _ (aI _) rfl trivial
 rintro _ rfl;simp only[bE,bD,bC,bB,bA];repeat (refine sx ?_ (λaH z=> ?_) ?_;rotate_left;(focus have aQ:=(af.out.ext z.un).cell;clear z;go_simp<;>with_reducible rfl);simp only[bE,bD,bC,bB,bA])
 intro aX F al aJ;clear al aJ;simp only[ae,aw];refine aN Qf Qe (λK o=> ?_);go_simp;refine o _ _ F ?_;clear o;refine aN Qf Qe (λK o=> ?_);go_simp;refine o _ _ F ?_;clear o;refine aN Qf Qe (λK o=> ?_);go_simp;refine o _ _ F ?_;clear o;refine cQ ?_;have aD:=G (af.out.ext F.un);have u:=G (aC.out.trans F.un);have a6:=aD.out.cell;clear F af aC aB
 cases hnm:(nm==[])with
 |false=>
  have e0:=G (show R=false from by rw[<-A.out];simp[hnm]);go_wp2_with fail;go_ret;exact⟨by rw[e0.out];rfl,u.out⟩
 |true=>
  by_cases h1:n=1
  rotate_left
  ·have a8:((n:Int)==1)=false:=by rw[Qn];omega
   have e0:=G (show R=false from by rw[<-A.out];simp[hnm,h1]);go_wp2_with fail;go_ret;exact⟨by rw[e0.out];rfl,u.out⟩
  ·subst h1;obtain⟨b0,aY,rfl,aP,aO⟩:=aV.out rfl;have a5:=(u.out.cell b0 _ aP).trans aO
   cases y:(ah==5)with
   |false=>
    have e0:=G (show R=false from by rw[<-A.out];simp[hnm,y]);go_wp2_with fail;go_ret;exact⟨by rw[e0.out];rfl,u.out⟩
   |true=>
    generalize aj:decide (0<d)=aF at*
    cases aF with
    |true=>
     have aL: ¬d=0:=by have:=of_decide_eq_true aj;omega
     have e0:=G (show R=false from by rw[<-A.out];simp[hnm,y,aL]);go_wp2_with fail;go_ret;exact⟨by rw[e0.out];rfl,u.out⟩
    |false=>
     obtain rfl:d=0:=by have:=of_decide_eq_false aj;omega
     clear aj;generalize ai:decide (0<a)=aE at*
     cases aE with
     |true=>
      have aK: ¬a=0:=by have:=of_decide_eq_true ai;omega
      have e0:=G (show R=false from by rw[<-A.out];simp[hnm,y,aK]);go_wp2_with fail;go_ret;exact⟨by rw[e0.out];rfl,u.out⟩
     |false=>
      obtain rfl:a=0:=by have:=of_decide_eq_false ai;omega
      clear ai
      cases r with
      |false=>
       have e0:=G (show R=false from by rw[<-A.out];simp);go_wp2_with (go_at_call 113;refine(am.out _ u.out).mono ?_;rintro e ao ⟨rfl,V⟩;have ad:=G (u.out.trans V);clear V);go_ret;exact⟨by rw[e0.out];rfl,ad.out⟩
      |true=>
       have e0:=G (show R=ag from by rw[<-A.out];simp[hnm,y]);go_wp2_with (first|(go_at_call 113;refine(am.out _ u.out).mono ?_;rintro e ao ⟨rfl,V⟩;have ad:=G (u.out.trans V);have a7:=(aD.out.ext V).cell;clear V am)|(go_at_call 112;refine(aT.out _ _ (ad.out.alloc' _) (aq ao _ _)).mono ?_;rintro e aG ⟨D,aZ,rfl,az,ax⟩;have aS:=G ((ad.out.alloc' _).trans az);have aU:=G (ax aG (aI _));clear az ax)|(go_at_call 116;refine aU.out.mono ?_;rintro e an ⟨rfl,ay⟩;have aR:=G (aS.out.trans ay);clear ay));go_ret;exact⟨by rw[e0.out];rfl,aR.out⟩
theorem Jf (k:Int) (d: ∀i:Int,1<=i->i<=7->k≠i) (nm:List UInt8) (z:World) (X B C:Option Addr) (n c y V w R:Nat) (av:n+y+w<=1073741824) (ah:nm.length<=1073741824):
  Calls prog 61 #[.agg #[.int i64 k,.string (Z nm),.slice X n c,.slice B y V,.slice C w R]] z λe w'=>e=.returned (.bool false)/\au z w':=by
 have I:=G (dR nm ah);generalize eD nm=b at*;have aE:(k==1)=false:=Qn.2 (d 1 Qd Qd);have aD:(k==2)=false:=Qn.2 (d 2 Qd Qd);have aC:(k==3)=false:=Qn.2 (d 3 Qd Qd);have aB:(k==4)=false:=Qn.2 (d 4 Qd Qd);have aA:(k==5)=false:=Qn.2 (d 5 Qd Qd);have az:(k==6)=false:=Qn.2 (d 6 Qd Qd);have ay:(k==7)=false:=Qn.2 (d 7 Qd Qd);have ar:(n:Int)<=1073741824:=J
 have ap:(y:Int)<=1073741824:=J
 have ao:(w:Int)<=1073741824:=J
 have A:=G (aq z 147 #[.int i64 k,.string (Z nm),.slice X n c,.slice B y V,.slice C w R]);have H:=G (aa z (.cells #[.int i64 k,.string (Z nm),.slice X n c,.slice B y V,.slice C w R] 147));clear d;go_enter func61,ntmps61;go_wp2_with fail;refine dG 11 3 [(2,λv=>v=.bool b,λ_ _=>True)] [] [3,4,5,6,7,8,9,10] mixed Qb Qb Qb Qf ⟨λ_ _ _ _ _=>trivial,trivial⟩ (λi hi=>by simp at hi) ?_;repeat (refine sx ?_ (λaf o=> ?_) ?_;rotate_left;(focus have ai:=(A.out.ext o.un).cell;clear o;go_simp<;>with_reducible rfl);simp only[bE,bD,bC,bB,bA])
 refine so (λad o F K a=> ?_) ?_
 ·clear F o;go_simp;refine(I.out ad).mono ?_;rintro e am ⟨rfl,rfl⟩;exact a _ _ (aI _) rfl trivial
 rintro _ rfl;simp only[bE,bD,bC,bB,bA];repeat (refine sx ?_ (λaf o=> ?_) ?_;rotate_left;(focus have ai:=(A.out.ext o.un).cell;clear o;go_simp<;>with_reducible rfl);simp only[bE,bD,bC,bB,bA])
 intro an u F ag;clear F ag;simp only[ae,aw];refine aN Qf Qe (λK a=> ?_);go_simp;refine a _ _ u ?_;clear a;refine aN Qf Qe (λK a=> ?_);go_simp;refine a _ _ u ?_;clear a;refine aN Qf Qe (λK a=> ?_);go_simp;refine a _ _ u ?_;clear a;refine cQ ?_;have al:=G (A.out.ext u.un);have aj:=G (H.out.trans u.un);have ax:=al.out.cell;clear u A H I;go_wp2_with fail;go_ret;exact⟨rfl,aj.out⟩
theorem ye: ∀l:List St,l.any (λa=> !a.ok)= !pM l
 | []=>rfl
 |x::r=>by simp only[iY,pM,ye r,Bool.not_and]
theorem Ei (a b:List St):pM (a++b)=(pM a&&pM b):=by rw[kY,kY,kY,jl]
theorem yO (a:St) (w':World) (B A z:Option Addr) (y w u:Nat) (R: ∀o,au w' o->Calls prog 61 #[.agg #[.int i64 a.k,.string (Z a.nm),.slice B a.ex.length y,.slice A a.body.length w,.slice z a.els.length u]] o λe d=>e=.returned (.bool a.ok)/\au o d):
  Calls prog 117 #[.agg #[.int i64 a.k,.string (Z a.nm),.slice B a.ex.length y,.slice A a.body.length w,.slice z a.els.length u]] w' λe d=>e=.returned (.bool (!a.ok))/\au w' d:=by
 have I:=G R;have V:=G (aa w' (.cells #[.int i64 a.k,.string (Z a.nm),.slice B a.ex.length y,.slice A a.body.length w,.slice z a.els.length u] 147));clear R;generalize a.ex.length=n at*;generalize a.body.length=ae at*;generalize a.els.length=ad at*;go_enter func117,ntmps117;go_wp2_with (refine(I.out _ V.out).mono ?_;rintro e H ⟨rfl,F⟩;have X:=G (V.out.trans F);clear F);go_ret;exact⟨rfl,X.out⟩
theorem qt: ∀(m:Nat) (x:St),x.wt<=m->x.wt<=1073741824-> ∀(P:Nat->Prop) (a:World) (y B C:Option Addr) (n c h w d u:Nat),dS a P (.slice y n c) x.ex->eq a P (.slice B h w) x.body->eq a P (.slice C d u) x.els->
  Calls prog 61 #[.agg #[.int i64 x.k,.string (Z x.nm),.slice y n c,.slice B h w,.slice C d u]] a λe w'=>e=.returned (.bool x.ok)/\au a w'
 |0,x,hm,_,_,_,_,_,_,_,_,_,_,_,_,_,_,_=>absurd hm (by have:=x.wt_eq;omega)
 |m+1,x,hm,hx,P,a,y,B,C,n,c,h,w,d,u,af,hRb,hRl=>by
  have aM:=x.wt_eq;have F:=af.len;have ae:=hRb.len;have I:=hRl.len;have aO:=d7 x.ex;have aP:=fx x.body;have aN:=fx x.els;have aa:F_ a y n c (r7 x.ex):=λw' ag=>by
   refine(zZ (λz=> !z.ok) x.ex P w' y n c (af.keep (.of_ext ag) (λ_ o _=>o)) J (λz an al B aA aI=> ?_)).mono ?_
   ·have am:=eE an;exact rO z al B aA (λaj aq=>qC _ z (ah _) J P aj B _ aA (aI.keep (.of_ext aq) (λ_ o _=>o))) _ (.inr rfl)
   ·rintro e al ⟨rfl,A⟩;exact⟨by rw[tB],A⟩
  have X:F9 a B C h w d u (pM x.body&&pM x.els):=λw' g ag aK=>by
   refine(rh P w' g B C h d w u x.body x.els aK (hRb.keep (.of_ext ag) (λ_ o _=>o)) (hRl.keep (.of_ext ag) (λ_ o _=>o)) J).mono ?_;rintro e al ⟨⟨D,k,rfl,aH⟩,aJ⟩;refine⟨D,k,rfl,aJ,λaj aq=> ?_⟩;refine(C1 (λz=> !z.ok) (x.body++x.els) _ aj D (h+d) k (aH.keep (.of_ext aq) (λ_ o _=>o)) (by simp only[H];omega) (λz an av aE aD aC az ay ax ao=> ?_)).mono ?_
   ·have am:z.wt<=m/\z.wt<=1073741824:=by
     rcases List.mem_append.1 an with ad|ad
     ·have:=cM ad;omega
     ·have:=cM ad;omega
    exact yO z av aE aD aC az ay ax (λaF ap=>qt m z am.1 am.2 _ aF aE aD aC _ az _ ay _ ax (ao.1.keep (.of_ext ap) (λ_ o _=>o)) (ao.2.1.keep (.of_ext ap) (λ_ o _=>o)) (ao.2.2.keep (.of_ext ap) (λ_ o _=>o)))
   ·rintro e av ⟨rfl,A⟩;exact⟨by rw[ye,Ei],A⟩
  have G:n+h+d<=1073741824:=J
  have R:x.nm.length<=1073741824:=J
  obtain⟨k,nm,xs,aB,aw⟩:=x;simp only[St.k,St.nm,St.ex,St.body,St.els]at*;have V: ∀ar,ar=St.ok (.mk k nm xs aB aw)->Calls prog 61 #[.agg #[.int i64 k,.string (Z nm),.slice y n c,.slice B h w,.slice C d u]] a (λe w'=>e=.returned (.bool ar)/\au a w')->Calls prog 61 #[.agg #[.int i64 k,.string (Z nm),.slice y n c,.slice B h w,.slice C d u]] a λe w'=>e=.returned (.bool (St.ok (.mk k nm xs aB aw)))/\au a w':=λar af ad=>by rw[<-af];exact ad
  by_cases h1:k=1
  ·subst h1;exact V _ (by rw[St.ok,if_pos rfl,<-F,<-ae,<-I]) (Je nm a y B C n c h w d u G R _ _ aa X)
  by_cases A:k=2
  ·subst A;exact V _ (by rw[St.ok,if_neg h1,if_pos rfl,<-F,<-ae,<-I]) (Jd nm a y B C n c h w d u G R _ _ aa X)
  by_cases h3:k=3
  ·subst h3;exact V _ (by rw[St.ok,if_neg h1,if_neg A,if_pos rfl,<-F,<-ae,<-I]) (Jc nm a y B C n c h w d u G R _ _ aa X)
  by_cases h4:k=4
  ·subst h4;exact V _ (by rw[St.ok,if_neg h1,if_neg A,if_neg h3,if_pos rfl,<-F]) (Jb nm a y B C n c h w d u G R _ _ aa X)
  by_cases h5:k=5
  ·subst h5;exact V _ (by rw[St.ok,if_neg h1,if_neg A,if_neg h3,if_neg h4,if_pos rfl,<-F,<-I]) (Ja nm a y B C n c h w d u G R _ _ aa X)
  by_cases h6:k=6
  ·subst h6;exact V _ (by rw[St.ok,if_neg h1,if_neg A,if_neg h3,if_neg h4,if_neg h5,if_pos rfl,<-F,<-ae,<-I]) (I' nm a y B C n c h w d u G R _ _ aa X)
  by_cases h7:k=7
  ·subst h7;refine V _ ?_ (I_ nm a y B C n c h w d u G R _ _ aa X ((xs.head?.map Ex.k).getD 0) λad=> ?_)
   ·rw[St.ok,if_neg h1,if_neg A,if_neg h3,if_neg h4,if_neg h5,if_neg h6,if_pos rfl,<-F,<-ae,<-I]
    cases xs with
    |nil=>simp only[ai]at F;subst F;simp
    |cons z r=>simp
   ·obtain⟨b,aG,aR,rfl,o,_,aL,_⟩:=af.at_ 0 J;refine⟨b,aG,rfl,o,?_⟩
    cases xs with
    |nil=>simp only[ai]at F;omega
    |cons z r=>simpa using aL
  ·refine V _ ?_ (Jf k (λi hi aQ=>by omega) nm a y B C n c h w d u G R);rw[St.ok,if_neg h1,if_neg A,if_neg h3,if_neg h4,if_neg h5,if_neg h6,if_neg h7];rfl
def Bu (w:World) (b:Nat) (l:List UInt8):Prop:=
 ∃p v,aO w b 217 #[p,v]/\w.ownsRow (b+1) 5 1 v l.length (Lib.byteCells l)/\(l=[]->v=.slice none 0 0)/\(p=.pointer none\/p=.pointer (some ⟨b,0,none⟩))
theorem Bu.lt {d:World} {b:Nat} {l:List UInt8} (a:Bu d b l):b<d.heap.size:=let⟨_,_,a,_⟩:=a;a.lt
theorem Bu.new (a:World):Bu (a.alloc (.cells #[.pointer none,.slice none 0 0] 217)) a.heap.size []:=⟨_,_,aq a _ _,World.ownsRow_nil _ _ _ 1,λ_=>rfl,.inl rfl⟩
theorem Bu.ext {a w':World} {b:Nat} {l:List UInt8} (y:Bu a b l) (d:au a w'):Bu w' b l:=by
 obtain⟨p,v,w,o,u,h⟩:=y;exact⟨p,v,w.ext d,World.ownsRow.kept o (d.grownBy none) (by cases v.ownBlock<;>simp),u,h⟩
theorem ub {b:Nat} {a w':World} (h:au a w') (d:b<=a.heap.size):Below b a w':=RowKit.Below.mono h d
structure FB (b:Nat) (w w':World):Prop where
 below:Below b w w'
 keep: ∀k t cs,k≠b->t≠5->aO w k t cs->aO w' k t cs
theorem FB.refl (b:Nat) (a:World):FB b a a:=⟨Below.refl _ _,λ_ _ _ _ _ d=>d⟩
theorem FB.trans {b:Nat} {d w' a:World} (u:FB b d w') (k:FB b w' a):FB b d a:=⟨Below.trans u.below k.below,λi t w o h y=>k.keep i t w o h (u.keep i t w o h y)⟩
theorem FB.of_ext {b:Nat} {a w':World} (d:au a w') (h:b<=a.heap.size):FB b a w':=⟨ub d h,λ_ _ _ _ _ k=>k.ext d⟩
theorem FB.set {b i:Nat} {v:Value} (a:World):FB b a (a.setCell ⟨b,i,none⟩ v):=⟨(Below.refl b a).setCell (p:=⟨b,i,none⟩) (ah _) _,λk t o h _ d=>d.far (p:=⟨b,i,none⟩) h v⟩
theorem FB.keepP {b:Nat} {a w':World} (d:FB b a w') {P:Nat->Prop} (o: ∀k,P k->k<b):dM P a w':=⟨d.below.size,λk h u=>d.below.block k (o k h)⟩
structure IN (b:Nat) (v:Value) (w w':World):Prop where
 blk:aO w' b 217 #[.pointer (some ⟨b,0,none⟩),v]
 below:FB b w w'
 size:w'.heap.size=w.heap.size
 own: ∀n xs,w.ownsRow (b+1) 5 1 v n xs->w'.ownsRow (b+1) 5 1 v n xs
theorem IN.set {b:Nat} {p v:Value} {a:World} (h:aO a b 217 #[p,v]):IN b v a (a.setCell ⟨b,0,none⟩ (.pointer (some ⟨b,0,none⟩))):=by
 refine⟨by have:=h.set 0 (.pointer (some ⟨b,0,none⟩));simpa using this,FB.set a,by simp[World.setCell],λn xs d=>World.ownsRow.kept d (fK a b 0 _) ?_⟩
 cases hv:v.ownBlock with
 |none=>exact .inl rfl
 |some k=>exact .inr λe=>by have:=(World.ownsRow.lt d k hv).1;injection e with e;omega
theorem xd (b:Nat) (p v:Value) (d:World) (a:aO d b 217 #[p,v]) (w:p=.pointer none\/p=.pointer (some ⟨b,0,none⟩)):
  Calls prog 170 #[.pointer (some ⟨b,0,none⟩)] d λe w'=>e=.returned (.tuple #[])/\IN b v d w':=by
 have V:=a.cell;have R:=a.frozen;have F:=G a;obtain⟨j,o,y⟩:=Option.map_eq_some_iff.1 (show(prog.info? 215).map (·.size)=some 2 from by kernel_rfl);rcases w with rfl|rfl
 ·have A:=G (IN.set a);have u:d.shape? b=some (217,2):=by unfold aO at a;simp[World.shape?,a]
  clear a;go_enter func170,ntmps170;go_wp2;rw[Lib.run_to_unsafe d ⟨b,0,none⟩ underlying213 underlying288 o (by rw[y];decide) u (Nat.zero_lt_succ 1)];simp only[Result.andThen];rw[Oper.upon_value];go_wp2;rw[run_callFunc_extern func211 Qb Qb Qb (e:=Extern.AbiNoEscape.same) Qb];rw[Lib.run_noEscape];simp only[Result.andThen];rw[Oper.upon_value];go_wp2;rw[Lib.run_from_unsafe d ⟨b,0,none⟩ underlying288 underlying213 o u Qb];simp only[Result.andThen];rw[Oper.upon_value];go_wp2
  go_end0
  exact⟨rfl,A.out⟩
 ·clear a;go_enter func170,ntmps170;go_wp2;rw[Lib.run_neq_ptr_same d _ underlying213 o];go_wp2
  go_end0
  exact⟨rfl,F.out,FB.refl _ _,rfl,λ_ _ z=>z⟩
theorem D' {h d a:World} {b n:Nat} {v:Value} {xs:List Value} (w:IN b v h d) (o:h.ownsRow (b+1) 5 1 v n xs) (u:d.grownBy a v.ownBlock):aO a b 217 #[.pointer (some ⟨b,0,none⟩),v]:=
 w.blk.grown u λe=>by have:=(World.ownsRow.lt o b e.symm).1;omega
theorem BP {d:World} {base n k:Nat} {e:TypeId} {v:Value} {xs:List Value} (h:d.ownsRow base e k v n xs): ∃o m c,v=.slice o m c:=by
 rcases h.2 with⟨a,_⟩|⟨g,cap,cur,a,_⟩
 ·exact⟨_,_,_,a⟩
 ·exact⟨_,_,_,a⟩
theorem rL (l s:List UInt8):Lib.byteCells (l++s)=Lib.byteCells l++Lib.strCells (Z s):=by simp[Lib.byteCells,Lib.strCells,Z]
theorem c_ (b:Nat) (l s:List UInt8) (u:World) (az:Bu u b l) (aI:l.length+s.length<=1000000000):
  Calls prog 118 #[.pointer (some ⟨b,0,none⟩),.string (Z s)] u λe w'=>e=.returned (.tuple #[.int i64 s.length,.nilIface])/\Bu w' b (l++s)/\FB b u w':=by
 obtain⟨ap,hi,au,ar,aq⟩:=info_parts (show(prog.info? 5).map (λi=>(i.zero,i.size,i.bytes))=some (some (.int .u8 0),1,1)from by kernel_rfl);obtain⟨p,v,d,ae,ag,ad⟩:=az;have al:=G (xd b p v u d ad);have y:=G ae;have aE:=G ag;have R:(Z s).size=s.length:=aZ s;have ax:=d.lt;clear d ae ag ad;go_enter func118,ntmps118;go_wp2_with (go_at_call 170;refine al.out.mono ?_);rintro e ao ⟨rfl,a⟩;have z:=G a;have aj:=a.blk.cell 0;have c1:=a.blk.cell 1;simp only[eT,cP,dh]at aj c1;have aw:=a.own _ _ y.out;have aG:=a.size;clear a al;go_wp2_with (at_builtin;refine Lib.wpList_append_own_string _ rfl _ _ 36 9 rfl (b+1) 5 ap underlying36 underlying9 hi au ar aq _ _ _ rfl aw (Z s) rfl ?c3 ?c4 ?c5 ?_)
 case c3=>rw[R];unfold maxLen;omega
 case c4=>rw[R];omega
 case c5=>omega
 intro v' A V X af;have am:=G V;have an:=G X;have aD:=G af;have o:=D' z.out y.out X;have aB:=o.cell 0;have aA:=o.cell 1;have aJ:=o.frozen 1;simp only[eT,cP,dh]at aB aA;have aF:=G o;have ay:=BP V;clear V X af o aj c1;obtain⟨aa,F,w,rfl⟩:=ay;go_wp2;go_ret2;have aH:=ax;refine⟨rfl,?_,?_⟩
 ·refine⟨_,_,?_,World.ownsRow.kept (show A.ownsRow (b+1) 5 1 (.slice aa F w) (l++s).length (Lib.byteCells (l++s))from ?_) (fK A b 1 _) ?_,λe=> ?_,.inr rfl⟩
  ·have:=aF.out.set 1 (.slice aa F w);simpa using this
  ·have:=am.out;rw[H,rL];first|exact this|(rw[R]at this;exact this)
  ·cases hv:Value.ownBlock (.slice aa F w)with
   |none=>exact .inl rfl
   |some k=>exact .inr λe=>by have:=(World.ownsRow.lt am.out k hv).1;injection e with e;omega
  ·have ai:=List.append_eq_nil_iff.1 e;exact aD.out.2 ⟨aE.out ai.1,by have:=ai.2;simp[this]⟩
 ·refine z.out.below.trans (FB.trans ⟨?_,λk t aC ah av d=>d.grown an.out λe=> ?_⟩ (FB.set A))
  ·exact(Below.refl b ao).grown an.out (by have:=z.out.size;omega) (λk ah=>by have:=(World.ownsRow.lt y.out k ah).1;omega)
  ·rcases(z.out.own _ _ y.out).2 with⟨rfl,_⟩|⟨g,w,cur,rfl,_,hg,_⟩
   ·cases e
   ·have e:k=g:=I e;subst e;have:some (Obj.cells aC t (0,0))=some (Obj.cells cur 5 (0,0)):=d.symm.trans hg;injection this with this;injection this with _ this _;exact av this
theorem BB (b:Nat) (l:List UInt8) (a:World) (ad:Bu a b l) (ah:l.length<=1000000000):
  Calls prog 122 #[.pointer (some ⟨b,0,none⟩)] a λe w'=>e=.returned (.string (Z l))/\Below b a w':=by
 obtain⟨p,v,u,w,y,z⟩:=ad;by_cases h0:l=[]
 ·subst h0;obtain rfl:=y rfl;have I: ∀(W:World) (q:Option Addr),(Builtin.unsafeString_ #[268,3] 9 #[.pointer q,.int i64 0]).run prog W=.ok (.string .empty) W:=λW q=>Lib.run_unsafeString_none W _ _ _ q;have c1:a.drew.cell? ⟨b,1,none⟩=some (.slice none 0 0):=u.cell 1;have H:(Builtin.unsafeSliceData_ #[36] 268 #[.slice none 0 0]).run prog a.drew=.ok (.pointer none) a.drew:=rfl;clear u w y z;have G:=mixed;go_enter func122,ntmps122;go_wp2
  go_region_o
  all_goals (go_wp2;go_ret;exact⟨rfl,Below.drew (Below.refl b a)⟩)
 ·have R:l.length≠0:=by simpa using h0
  have ag:=u.lt;obtain⟨g,d,o,rfl,aj,X,af,aa,ai,ae⟩: ∃g d o,v=.slice (some ⟨g,0,none⟩) l.length d/\b+1<=g/\a.heap[g]? =some (.cells o 5 (0,0))/\l.length<=d/\d<=maxLen/\o.size=d*1/\o.toList.take (l.length*1)=Lib.byteCells l:=by
   rcases w.2 with⟨_,A⟩|⟨g,d,o,hv,r⟩
   ·exact absurd A R
   ·exact⟨g,d,o,hv,r⟩
  have c1:a.drew.cell? ⟨b,1,none⟩=some (.slice (some ⟨g,0,none⟩) l.length d):=u.cell 1;have H:(Builtin.unsafeSliceData_ #[36] 268 #[.slice (some ⟨g,0,none⟩) l.length d]).run prog a.drew=.ok (.pointer (some ⟨g,0,none⟩)) a.drew:=
   Lib.run_unsafeSliceData_row _ _ _ _ _ _ J
  have I:(Builtin.unsafeString_ #[268,3] 9 #[.pointer (some ⟨g,0,none⟩),.int i64 l.length]).run prog a.drew=.ok (.string ⟨l.toArray⟩) (a.drew.freeze ⟨g,0,none⟩ l.length):=by
   refine Lib.run_unsafeString_row a.drew 268 3 9 5 underlying268 Qb g o.size (by have V:a.drew.heap[g]? =some (.cells o 5 (0,0)):=X;simp[World.shape?,V]) l h0 J (by unfold maxLen at aa;omega) ?_;intro j x F;have:=w.cells (g:=g) rfl j (.int .u8 x.toNat) (by simp[Lib.byteCells,F]);exact this
  clear u w y z;have G:=mixed;go_enter func122,ntmps122;go_wp2
  go_region_o
  all_goals (go_wp2;go_ret;exact⟨rfl,Lib.below_freeze (Below.drew (Below.refl b a)) (p:=⟨g,0,none⟩) (by show b<=g;omega) _⟩)
def aW:=@FB.of_ext
end
end Go.Proofs.YtoedmpgicdekmaaGreatDoor
