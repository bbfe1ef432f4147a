/- Parts of the proof. -/
import Derived.Test.YtoedmpgicdekmaaGreatDoorCl09
set_option maxRecDepth 100000
set_option maxHeartbeats 8000000
set_option linter.all false
namespace Go.Proofs.YtoedmpgicdekmaaGreatDoor
open Value renaming int->Zr,slice->Zs,string->Zt,agg->Zu,bool->Zv,pointer->Zw
open Go.Proofs.Tryz
section
open Go.RowKit
def Ft (w:World) (A:Option Addr) (n c:Nat) (r:Bool):Prop:= ∀w',au w w'->Calls prog 113 #[Zs A n c, .func (Fn.func 114) #[] #[]] w' λe w''=>e= .returned (Zv (!r))/\au w' w''
def Fs (w:World) (B C:Option Addr) (nb cb nl cl:Nat) (r:Bool):Prop:= ∀w' g,au w w'->aM w' g 78 #[Zs B nb cb,Zs C nl cl]->
 Calls prog 112 #[Zs (some ⟨g,0,none⟩) 2 2] w' λe w''=> ∃D k,e= .returned (Zs D (nb+nl) k)/\au w' w''/\ ∀w3,au w'' w3->
  Calls prog 116 #[Zs D (nb+nl) k, .func (Fn.func 117) #[] #[]] w3 λe w4=>e= .returned (Zv (!r))/\au w3 w4
theorem IZ (nm:Zy) (y:World) (M B C:Option Addr) (n c d I a H:Nat) (aT:n+d+a<=1073741824) (aD:nm.length<=1073741824) (r V:Bool) (an:Ft y M n c r) (ah:Fs y B C d I a H V):
  Calls prog 61 #[Zu #[Zr .i64 1,Zt (ak nm),Zs M n c,Zs B d I,Zs C a H]] y λe w'=>e= .returned (Zv ((eB nm&&decide (n<=1)&&d==0&&a==0)&&r&&V))/\au y w':=by
 have aS:(n:Int)<=1073741824:=Qa
 have aR:(d:Int)<=1073741824:=Qa
 have aQ:(a:Int)<=1073741824:=Qa
 obtain⟨K,ap,ad,aK,ao⟩:=Zi (aq y 147 #[Zr .i64 1,Zt (ak nm),Zs M n c,Zs B d I,Zs C a H]) (aa y (.cells #[Zr .i64 1,Zt (ak nm),Zs M n c,Zs B d I,Zs C a H] 147)) an ah (dJ nm aD);generalize ai:(_&& _&& _:Bool)=R;have F:=G ai;clear an ah ai;generalize eB nm=b at*;go_enter func61,ntmps61;go_wp2_with fail;refine dA 11 3 [(2,λv=>v=Zv b,λ_ _=>True)] [] [3,4,5,6,7,8,9,10] mixed Qb Qb Qb Qf ⟨λ_ _ _ _ _=>trivial,trivial⟩ (λi aE=>by simp at aE) ?_;repeat (refine Zc (λ_ w=>(K.o.ext w.un).cell) ?_;simp only[Za])
 refine so (λaf w ab ac o=> ?_) ?_
 ·clear ab w;go_simp;refine(ao.o af).mono ?_;rintro e aM ⟨rfl,rfl⟩;exact o _ _ (aG _) rfl trivial
 rintro _ rfl;simp only[Za];repeat (refine Zc (λ_ w=>(K.o.ext w.un).cell) ?_;simp only[Za])
 intro aN z ab aA;clear ab aA;simp only[ae,aw];refine aO Qf Qe (λac o=> ?_);go_simp;refine o _ _ z ?_;clear o;refine aO Qf Qe (λac o=> ?_);go_simp;refine o _ _ z ?_;clear o;refine aO Qf Qe (λac o=> ?_);go_simp;refine o _ _ z ?_;clear o;refine cL ?_;obtain⟨ar,u⟩:=Zf (K.o.ext z.un) (ap.o.trans z.un);have aU:=ar.o.cell;clear z K ap ao
 cases b with
 |false=>
  have e0:=G (show R=false from by rw[<-F.o];rfl);go_wp2_with fail;go_ret;exact⟨by rw[e0.o];rfl,u⟩
 |true=>
  by_cases h1:n<=1
  rotate_left
  ·have aF: ¬(n:Int)<=1:=Qa
   have e0:=G (show R=false from by rw[<-F.o];simp[h1]);go_wp2_with fail;go_ret;exact⟨by rw[e0.o];rfl,u⟩
  ·have aF:(n:Int)<=1:=Qa
   generalize Z:decide (0<d)=ax at*
   cases ax with
   |true=>
    have aC: ¬d=0:=by have:=of_decide_eq_true Z;omega
    have e0:=G (show R=false from by rw[<-F.o];simp[h1,aC]);go_wp2_with fail;go_ret;exact⟨by rw[e0.o];rfl,u⟩
   |false=>
    obtain rfl:d=0:=by have:=of_decide_eq_false Z;omega
    clear Z;generalize X:decide (0<a)=av at*
    cases av with
    |true=>
     have aB: ¬a=0:=by have:=of_decide_eq_true X;omega
     have e0:=G (show R=false from by rw[<-F.o];simp[h1,aB]);go_wp2_with fail;go_ret;exact⟨by rw[e0.o];rfl,u⟩
    |false=>
     obtain rfl:a=0:=by have:=of_decide_eq_false X;omega
     clear X
     cases r with
     |false=>
      have e0:=G (show R=false from by rw[<-F.o];simp);go_wp2_with (go_at_call 113;refine(ad.o _ u).mono ?_;rintro e ag ⟨rfl,A⟩;have J:=G (u.o.trans A);clear A);go_ret;exact⟨by rw[e0.o];rfl,J⟩
     |true=>
      have e0:=G (show R=V from by rw[<-F.o];simp[h1]);go_wp2_with (first|(go_at_call 113;refine(ad.o _ u).mono ?_;rintro e ag ⟨rfl,A⟩;have J:=G (u.o.trans A);have aV:=(ar.o.ext A).cell;clear A ad)|(go_at_call 112;refine(aK.o _ _ (J.o.alloc' _) (aq ag _ _)).mono ?_;rintro e ay ⟨D,aP,rfl,am,aj⟩;obtain⟨aJ,aL⟩:=Zf ((J.o.alloc' _).trans am) (aj ay (aG _));clear am aj)|(go_at_call 116;refine aL.o.mono ?_;rintro e af ⟨rfl,al⟩;have aI:=G (aJ.o.trans al);clear al));go_ret;exact⟨by rw[e0.o];rfl,aI⟩
theorem IY (nm:Zy) (y:World) (M B C:Option Addr) (n c d I a H:Nat) (aS:n+d+a<=1073741824) (aD:nm.length<=1073741824) (r V:Bool) (an:Ft y M n c r) (ah:Fs y B C d I a H V):
  Calls prog 61 #[Zu #[Zr .i64 2,Zt (ak nm),Zs M n c,Zs B d I,Zs C a H]] y λe w'=>e= .returned (Zv ((eB nm&&n==1&&d==0&&a==0)&&r&&V))/\au y w':=by
 have aR:(n:Int)<=1073741824:=Qa
 have aQ:(d:Int)<=1073741824:=Qa
 have aP:(a:Int)<=1073741824:=Qa
 obtain⟨K,ap,ad,aJ,ao⟩:=Zi (aq y 147 #[Zr .i64 2,Zt (ak nm),Zs M n c,Zs B d I,Zs C a H]) (aa y (.cells #[Zr .i64 2,Zt (ak nm),Zs M n c,Zs B d I,Zs C a H] 147)) an ah (dJ nm aD);generalize ai:(_&& _&& _:Bool)=R;have F:=G ai;clear an ah ai;generalize eB nm=b at*;go_enter func61,ntmps61;go_wp2_with fail;refine dA 11 3 [(2,λv=>v=Zv b,λ_ _=>True)] [] [3,4,5,6,7,8,9,10] mixed Qb Qb Qb Qf ⟨λ_ _ _ _ _=>trivial,trivial⟩ (λi aE=>by simp at aE) ?_;repeat (refine Zc (λ_ w=>(K.o.ext w.un).cell) ?_;simp only[Za])
 refine so (λaf w ab ac o=> ?_) ?_
 ·clear ab w;go_simp;refine(ao.o af).mono ?_;rintro e aL ⟨rfl,rfl⟩;exact o _ _ (aG _) rfl trivial
 rintro _ rfl;simp only[Za];repeat (refine Zc (λ_ w=>(K.o.ext w.un).cell) ?_;simp only[Za])
 intro aM z ab aA;clear ab aA;simp only[ae,aw];refine aO Qf Qe (λac o=> ?_);go_simp;refine o _ _ z ?_;clear o;refine aO Qf Qe (λac o=> ?_);go_simp;refine o _ _ z ?_;clear o;refine aO Qf Qe (λac o=> ?_);go_simp;refine o _ _ z ?_;clear o;refine cL ?_;obtain⟨ar,u⟩:=Zf (K.o.ext z.un) (ap.o.trans z.un);have aT:=ar.o.cell;clear z K ap ao
 cases b with
 |false=>
  have e0:=G (show R=false from by rw[<-F.o];rfl);go_wp2_with fail;go_ret;exact⟨by rw[e0.o];rfl,u⟩
 |true=>
  by_cases h1:n=1
  rotate_left
  ·have aV:((n:Int)==1)=false:=by rw[Qn];omega
   have e0:=G (show R=false from by rw[<-F.o];simp[h1]);go_wp2_with fail;go_ret;exact⟨by rw[e0.o];rfl,u⟩
  ·subst h1;generalize Z:decide (0<d)=ax at*
   cases ax with
   |true=>
    have aC: ¬d=0:=by have:=of_decide_eq_true Z;omega
    have e0:=G (show R=false from by rw[<-F.o];simp[aC]);go_wp2_with fail;go_ret;exact⟨by rw[e0.o];rfl,u⟩
   |false=>
    obtain rfl:d=0:=by have:=of_decide_eq_false Z;omega
    clear Z;generalize X:decide (0<a)=av at*
    cases av with
    |true=>
     have aB: ¬a=0:=by have:=of_decide_eq_true X;omega
     have e0:=G (show R=false from by rw[<-F.o];simp[aB]);go_wp2_with fail;go_ret;exact⟨by rw[e0.o];rfl,u⟩
    |false=>
     obtain rfl:a=0:=by have:=of_decide_eq_false X;omega
     clear X
     cases r with
     |false=>
      have e0:=G (show R=false from by rw[<-F.o];simp);go_wp2_with (go_at_call 113;refine(ad.o _ u).mono ?_;rintro e ag ⟨rfl,A⟩;have J:=G (u.o.trans A);clear A);go_ret;exact⟨by rw[e0.o];rfl,J⟩
     |true=>
      have e0:=G (show R=V from by rw[<-F.o];simp[]);go_wp2_with (first|(go_at_call 113;refine(ad.o _ u).mono ?_;rintro e ag ⟨rfl,A⟩;have J:=G (u.o.trans A);have aU:=(ar.o.ext A).cell;clear A ad)|(go_at_call 112;refine(aJ.o _ _ (J.o.alloc' _) (aq ag _ _)).mono ?_;rintro e ay ⟨D,aN,rfl,am,aj⟩;obtain⟨aI,aK⟩:=Zf ((J.o.alloc' _).trans am) (aj ay (aG _));clear am aj)|(go_at_call 116;refine aK.o.mono ?_;rintro e af ⟨rfl,al⟩;have aH:=G (aI.o.trans al);clear al));go_ret;exact⟨by rw[e0.o];rfl,aH⟩
theorem IX (nm:Zy) (y:World) (M B C:Option Addr) (n c d I a H:Nat) (aS:n+d+a<=1073741824) (aD:nm.length<=1073741824) (r V:Bool) (an:Ft y M n c r) (ah:Fs y B C d I a H V):
  Calls prog 61 #[Zu #[Zr .i64 3,Zt (ak nm),Zs M n c,Zs B d I,Zs C a H]] y λe w'=>e= .returned (Zv ((eB nm&&n==2&&d==0&&a==0)&&r&&V))/\au y w':=by
 have aR:(n:Int)<=1073741824:=Qa
 have aQ:(d:Int)<=1073741824:=Qa
 have aP:(a:Int)<=1073741824:=Qa
 obtain⟨K,ap,ad,aJ,ao⟩:=Zi (aq y 147 #[Zr .i64 3,Zt (ak nm),Zs M n c,Zs B d I,Zs C a H]) (aa y (.cells #[Zr .i64 3,Zt (ak nm),Zs M n c,Zs B d I,Zs C a H] 147)) an ah (dJ nm aD);generalize ai:(_&& _&& _:Bool)=R;have F:=G ai;clear an ah ai;generalize eB nm=b at*;go_enter func61,ntmps61;go_wp2_with fail;refine dA 11 3 [(2,λv=>v=Zv b,λ_ _=>True)] [] [3,4,5,6,7,8,9,10] mixed Qb Qb Qb Qf ⟨λ_ _ _ _ _=>trivial,trivial⟩ (λi aE=>by simp at aE) ?_;repeat (refine Zc (λ_ w=>(K.o.ext w.un).cell) ?_;simp only[Za])
 refine so (λaf w ab ac o=> ?_) ?_
 ·clear ab w;go_simp;refine(ao.o af).mono ?_;rintro e aL ⟨rfl,rfl⟩;exact o _ _ (aG _) rfl trivial
 rintro _ rfl;simp only[Za];repeat (refine Zc (λ_ w=>(K.o.ext w.un).cell) ?_;simp only[Za])
 intro aM z ab aA;clear ab aA;simp only[ae,aw];refine aO Qf Qe (λac o=> ?_);go_simp;refine o _ _ z ?_;clear o;refine aO Qf Qe (λac o=> ?_);go_simp;refine o _ _ z ?_;clear o;refine aO Qf Qe (λac o=> ?_);go_simp;refine o _ _ z ?_;clear o;refine cL ?_;obtain⟨ar,u⟩:=Zf (K.o.ext z.un) (ap.o.trans z.un);have aT:=ar.o.cell;clear z K ap ao
 cases b with
 |false=>
  have e0:=G (show R=false from by rw[<-F.o];rfl);go_wp2_with fail;go_ret;exact⟨by rw[e0.o];rfl,u⟩
 |true=>
  by_cases h2:n=2
  rotate_left
  ·have aV:((n:Int)==2)=false:=by rw[Qn];omega
   have e0:=G (show R=false from by rw[<-F.o];simp[h2]);go_wp2_with fail;go_ret;exact⟨by rw[e0.o];rfl,u⟩
  ·subst h2;generalize Z:decide (0<d)=ax at*
   cases ax with
   |true=>
    have aC: ¬d=0:=by have:=of_decide_eq_true Z;omega
    have e0:=G (show R=false from by rw[<-F.o];simp[aC]);go_wp2_with fail;go_ret;exact⟨by rw[e0.o];rfl,u⟩
   |false=>
    obtain rfl:d=0:=by have:=of_decide_eq_false Z;omega
    clear Z;generalize X:decide (0<a)=av at*
    cases av with
    |true=>
     have aB: ¬a=0:=by have:=of_decide_eq_true X;omega
     have e0:=G (show R=false from by rw[<-F.o];simp[aB]);go_wp2_with fail;go_ret;exact⟨by rw[e0.o];rfl,u⟩
    |false=>
     obtain rfl:a=0:=by have:=of_decide_eq_false X;omega
     clear X
     cases r with
     |false=>
      have e0:=G (show R=false from by rw[<-F.o];simp);go_wp2_with (go_at_call 113;refine(ad.o _ u).mono ?_;rintro e ag ⟨rfl,A⟩;have J:=G (u.o.trans A);clear A);go_ret;exact⟨by rw[e0.o];rfl,J⟩
     |true=>
      have e0:=G (show R=V from by rw[<-F.o];simp[]);go_wp2_with (first|(go_at_call 113;refine(ad.o _ u).mono ?_;rintro e ag ⟨rfl,A⟩;have J:=G (u.o.trans A);have aU:=(ar.o.ext A).cell;clear A ad)|(go_at_call 112;refine(aJ.o _ _ (J.o.alloc' _) (aq ag _ _)).mono ?_;rintro e ay ⟨D,aN,rfl,am,aj⟩;obtain⟨aI,aK⟩:=Zf ((J.o.alloc' _).trans am) (aj ay (aG _));clear am aj)|(go_at_call 116;refine aK.o.mono ?_;rintro e af ⟨rfl,al⟩;have aH:=G (aI.o.trans al);clear al));go_ret;exact⟨by rw[e0.o];rfl,aH⟩
theorem IW (nm:Zy) (o:World) (M B C:Option Addr) (n c w H u F:Nat) (aL:n+w+u<=1073741824) (ax:nm.length<=1073741824) (r V:Bool) (al:Ft o M n c r) (af:Fs o B C w H u F V):
  Calls prog 61 #[Zu #[Zr .i64 4,Zt (ak nm),Zs M n c,Zs B w H,Zs C u F]] o λe w'=>e= .returned (Zv ((nm==[]&&n==1)&&r&&V))/\au o w':=by
 have aK:(n:Int)<=1073741824:=Qa
 have aJ:(w:Int)<=1073741824:=Qa
 have aI:(u:Int)<=1073741824:=Qa
 obtain⟨K,an,ab,aC,am⟩:=Zi (aq o 147 #[Zr .i64 4,Zt (ak nm),Zs M n c,Zs B w H,Zs C u F]) (aa o (.cells #[Zr .i64 4,Zt (ak nm),Zs M n c,Zs B w H,Zs C u F] 147)) al af (dJ nm ax);generalize ag:(_&& _&& _:Bool)=R;have J:=G ag;clear al af ag;generalize eB nm=b at*;go_enter func61,ntmps61;go_wp2_with fail;refine dA 11 3 [(2,λv=>v=Zv b,λ_ _=>True)] [] [3,4,5,6,7,8,9,10] mixed Qb Qb Qb Qf ⟨λ_ _ _ _ _=>trivial,trivial⟩ (λi ay=>by simp at ay) ?_;repeat (refine Zc (λ_ d=>(K.o.ext d.un).cell) ?_;simp only[Za])
 refine so (λac d X Z a=> ?_) ?_
 ·clear X d;go_simp;refine(am.o ac).mono ?_;rintro e aE ⟨rfl,rfl⟩;exact a _ _ (aG _) rfl trivial
 rintro _ rfl;simp only[Za];repeat (refine Zc (λ_ d=>(K.o.ext d.un).cell) ?_;simp only[Za])
 intro aF y X av;clear X av;simp only[ae,aw];refine aO Qf Qe (λZ a=> ?_);go_simp;refine a _ _ y ?_;clear a;refine aO Qf Qe (λZ a=> ?_);go_simp;refine a _ _ y ?_;clear a;refine aO Qf Qe (λZ a=> ?_);go_simp;refine a _ _ y ?_;clear a;refine cL ?_;obtain⟨ao,A⟩:=Zf (K.o.ext y.un) (an.o.trans y.un);have aM:=ao.o.cell;clear y K an am
 cases hnm:(nm==[])with
 |false=>
  have e0:=G (show R=false from by rw[<-J.o];simp[hnm]);go_wp2_with fail;go_ret;exact⟨by rw[e0.o];rfl,A⟩
 |true=>
  by_cases h1:n=1
  rotate_left
  ·have aP:((n:Int)==1)=false:=by rw[Qn];omega
   have e0:=G (show R=false from by rw[<-J.o];simp[hnm,h1]);go_wp2_with fail;go_ret;exact⟨by rw[e0.o];rfl,A⟩
  ·subst h1
   cases r with
   |false=>
    have e0:=G (show R=false from by rw[<-J.o];simp);go_wp2_with (go_at_call 113;refine(ab.o _ A).mono ?_;rintro e ad ⟨rfl,z⟩;have I:=G (A.o.trans z);clear z);go_ret;exact⟨by rw[e0.o];rfl,I⟩
   |true=>
    have e0:=G (show R=V from by rw[<-J.o];simp[hnm]);go_wp2_with (first|(go_at_call 113;refine(ab.o _ A).mono ?_;rintro e ad ⟨rfl,z⟩;have I:=G (A.o.trans z);have aN:=(ao.o.ext z).cell;clear z ab)|(go_at_call 112;refine(aC.o _ _ (I.o.alloc' _) (aq ad _ _)).mono ?_;rintro e ap ⟨D,aH,rfl,aj,ah⟩;obtain⟨aB,aD⟩:=Zf ((I.o.alloc' _).trans aj) (ah ap (aG _));clear aj ah)|(go_at_call 116;refine aD.o.mono ?_;rintro e ac ⟨rfl,ai⟩;have aA:=G (aB.o.trans ai);clear ai));go_ret;exact⟨by rw[e0.o];rfl,aA⟩
theorem IV (nm:Zy) (w:World) (M B C:Option Addr) (n c y I a H:Nat) (aP:n+y+a<=1073741824) (aA:nm.length<=1073741824) (r V:Bool) (am:Ft w M n c r) (ag:Fs w B C y I a H V):
  Calls prog 61 #[Zu #[Zr .i64 5,Zt (ak nm),Zs M n c,Zs B y I,Zs C a H]] w λe w'=>e= .returned (Zv ((nm==[]&&n==1&&a==0)&&r&&V))/\au w w':=by
 have aN:(n:Int)<=1073741824:=Qa
 have aM:(y:Int)<=1073741824:=Qa
 have aL:(a:Int)<=1073741824:=Qa
 obtain⟨K,ao,ac,aF,an⟩:=Zi (aq w 147 #[Zr .i64 5,Zt (ak nm),Zs M n c,Zs B y I,Zs C a H]) (aa w (.cells #[Zr .i64 5,Zt (ak nm),Zs M n c,Zs B y I,Zs C a H] 147)) am ag (dJ nm aA);generalize ah:(_&& _&& _:Bool)=R;have F:=G ah;clear am ag ah;generalize eB nm=b at*;go_enter func61,ntmps61;go_wp2_with fail;refine dA 11 3 [(2,λv=>v=Zv b,λ_ _=>True)] [] [3,4,5,6,7,8,9,10] mixed Qb Qb Qb Qf ⟨λ_ _ _ _ _=>trivial,trivial⟩ (λi aB=>by simp at aB) ?_;repeat (refine Zc (λ_ o=>(K.o.ext o.un).cell) ?_;simp only[Za])
 refine so (λad o Z ab d=> ?_) ?_
 ·clear Z o;go_simp;refine(an.o ad).mono ?_;rintro e aI ⟨rfl,rfl⟩;exact d _ _ (aG _) rfl trivial
 rintro _ rfl;simp only[Za];repeat (refine Zc (λ_ o=>(K.o.ext o.un).cell) ?_;simp only[Za])
 intro aJ z Z ay;clear Z ay;simp only[ae,aw];refine aO Qf Qe (λab d=> ?_);go_simp;refine d _ _ z ?_;clear d;refine aO Qf Qe (λab d=> ?_);go_simp;refine d _ _ z ?_;clear d;refine aO Qf Qe (λab d=> ?_);go_simp;refine d _ _ z ?_;clear d;refine cL ?_;obtain⟨ap,u⟩:=Zf (K.o.ext z.un) (ao.o.trans z.un);have aQ:=ap.o.cell;clear z K ao an
 cases hnm:(nm==[])with
 |false=>
  have e0:=G (show R=false from by rw[<-F.o];simp[hnm]);go_wp2_with fail;go_ret;exact⟨by rw[e0.o];rfl,u⟩
 |true=>
  by_cases h1:n=1
  rotate_left
  ·have aS:((n:Int)==1)=false:=by rw[Qn];omega
   have e0:=G (show R=false from by rw[<-F.o];simp[hnm,h1]);go_wp2_with fail;go_ret;exact⟨by rw[e0.o];rfl,u⟩
  ·subst h1;generalize X:decide (0<a)=ar at*
   cases ar with
   |true=>
    have az: ¬a=0:=by have:=of_decide_eq_true X;omega
    have e0:=G (show R=false from by rw[<-F.o];simp[hnm,az]);go_wp2_with fail;go_ret;exact⟨by rw[e0.o];rfl,u⟩
   |false=>
    obtain rfl:a=0:=by have:=of_decide_eq_false X;omega
    clear X
    cases r with
    |false=>
     have e0:=G (show R=false from by rw[<-F.o];simp);go_wp2_with (go_at_call 113;refine(ac.o _ u).mono ?_;rintro e af ⟨rfl,A⟩;have J:=G (u.o.trans A);clear A);go_ret;exact⟨by rw[e0.o];rfl,J⟩
    |true=>
     have e0:=G (show R=V from by rw[<-F.o];simp[hnm]);go_wp2_with (first|(go_at_call 113;refine(ac.o _ u).mono ?_;rintro e af ⟨rfl,A⟩;have J:=G (u.o.trans A);have aR:=(ap.o.ext A).cell;clear A ac)|(go_at_call 112;refine(aF.o _ _ (J.o.alloc' _) (aq af _ _)).mono ?_;rintro e av ⟨D,aK,rfl,al,ai⟩;obtain⟨aE,aH⟩:=Zf ((J.o.alloc' _).trans al) (ai av (aG _));clear al ai)|(go_at_call 116;refine aH.o.mono ?_;rintro e ad ⟨rfl,aj⟩;have aD:=G (aE.o.trans aj);clear aj));go_ret;exact⟨by rw[e0.o];rfl,aD⟩
theorem IU (nm:Zy) (y:World) (M B C:Option Addr) (n c d I a H:Nat) (aT:n+d+a<=1073741824) (aD:nm.length<=1073741824) (r V:Bool) (an:Ft y M n c r) (ah:Fs y B C d I a H V):
  Calls prog 61 #[Zu #[Zr .i64 6,Zt (ak nm),Zs M n c,Zs B d I,Zs C a H]] y λe w'=>e= .returned (Zv ((nm==[]&&decide (n<=1)&&d==0&&a==0)&&r&&V))/\au y w':=by
 have aS:(n:Int)<=1073741824:=Qa
 have aR:(d:Int)<=1073741824:=Qa
 have aQ:(a:Int)<=1073741824:=Qa
 obtain⟨K,ap,ad,aK,ao⟩:=Zi (aq y 147 #[Zr .i64 6,Zt (ak nm),Zs M n c,Zs B d I,Zs C a H]) (aa y (.cells #[Zr .i64 6,Zt (ak nm),Zs M n c,Zs B d I,Zs C a H] 147)) an ah (dJ nm aD);generalize ai:(_&& _&& _:Bool)=R;have F:=G ai;clear an ah ai;generalize eB nm=b at*;go_enter func61,ntmps61;go_wp2_with fail;refine dA 11 3 [(2,λv=>v=Zv b,λ_ _=>True)] [] [3,4,5,6,7,8,9,10] mixed Qb Qb Qb Qf ⟨λ_ _ _ _ _=>trivial,trivial⟩ (λi aE=>by simp at aE) ?_;repeat (refine Zc (λ_ w=>(K.o.ext w.un).cell) ?_;simp only[Za])
 refine so (λaf w ab ac o=> ?_) ?_
 ·clear ab w;go_simp;refine(ao.o af).mono ?_;rintro e aM ⟨rfl,rfl⟩;exact o _ _ (aG _) rfl trivial
 rintro _ rfl;simp only[Za];repeat (refine Zc (λ_ w=>(K.o.ext w.un).cell) ?_;simp only[Za])
 intro aN z ab aA;clear ab aA;simp only[ae,aw];refine aO Qf Qe (λac o=> ?_);go_simp;refine o _ _ z ?_;clear o;refine aO Qf Qe (λac o=> ?_);go_simp;refine o _ _ z ?_;clear o;refine aO Qf Qe (λac o=> ?_);go_simp;refine o _ _ z ?_;clear o;refine cL ?_;obtain⟨ar,u⟩:=Zf (K.o.ext z.un) (ap.o.trans z.un);have aU:=ar.o.cell;clear z K ap ao
 cases hnm:(nm==[])with
 |false=>
  have e0:=G (show R=false from by rw[<-F.o];simp[hnm]);go_wp2_with fail;go_ret;exact⟨by rw[e0.o];rfl,u⟩
 |true=>
  by_cases h1:n<=1
  rotate_left
  ·have aF: ¬(n:Int)<=1:=Qa
   have e0:=G (show R=false from by rw[<-F.o];simp[hnm,h1]);go_wp2_with fail;go_ret;exact⟨by rw[e0.o];rfl,u⟩
  ·have aF:(n:Int)<=1:=Qa
   generalize Z:decide (0<d)=ax at*
   cases ax with
   |true=>
    have aC: ¬d=0:=by have:=of_decide_eq_true Z;omega
    have e0:=G (show R=false from by rw[<-F.o];simp[hnm,h1,aC]);go_wp2_with fail;go_ret;exact⟨by rw[e0.o];rfl,u⟩
   |false=>
    obtain rfl:d=0:=by have:=of_decide_eq_false Z;omega
    clear Z;generalize X:decide (0<a)=av at*
    cases av with
    |true=>
     have aB: ¬a=0:=by have:=of_decide_eq_true X;omega
     have e0:=G (show R=false from by rw[<-F.o];simp[hnm,h1,aB]);go_wp2_with fail;go_ret;exact⟨by rw[e0.o];rfl,u⟩
    |false=>
     obtain rfl:a=0:=by have:=of_decide_eq_false X;omega
     clear X
     cases r with
     |false=>
      have e0:=G (show R=false from by rw[<-F.o];simp);go_wp2_with (go_at_call 113;refine(ad.o _ u).mono ?_;rintro e ag ⟨rfl,A⟩;have J:=G (u.o.trans A);clear A);go_ret;exact⟨by rw[e0.o];rfl,J⟩
     |true=>
      have e0:=G (show R=V from by rw[<-F.o];simp[hnm,h1]);go_wp2_with (first|(go_at_call 113;refine(ad.o _ u).mono ?_;rintro e ag ⟨rfl,A⟩;have J:=G (u.o.trans A);have aV:=(ar.o.ext A).cell;clear A ad)|(go_at_call 112;refine(aK.o _ _ (J.o.alloc' _) (aq ag _ _)).mono ?_;rintro e ay ⟨D,aP,rfl,am,aj⟩;obtain⟨aJ,aL⟩:=Zf ((J.o.alloc' _).trans am) (aj ay (aG _));clear am aj)|(go_at_call 116;refine aL.o.mono ?_;rintro e af ⟨rfl,al⟩;have aI:=G (aJ.o.trans al);clear al));go_ret;exact⟨by rw[e0.o];rfl,aI⟩
theorem IT (nm:Zy) (w:World) (I B C:Option Addr) (n c d K a J:Nat) (aZ:n+d+a<=1073741824) (aH:nm.length<=1073741824) (r X:Bool) (ar:Ft w I n c r) (al:Fs w B C d K a J X) (Z:Int) (y:n=1-> ∃b aj,I=some ⟨b,aj,none⟩/\b<w.heap.size/\w.cell? ⟨b,aj,none⟩=some (Zr .i64 Z)):
  Calls prog 61 #[Zu #[Zr .i64 7,Zt (ak nm),Zs I n c,Zs B d K,Zs C a J]] w λe w'=>e= .returned (Zv ((nm==[]&&n==1&&Z==5&&d==0&&a==0)&&r&&X))/\au w w':=by
 have aY:(n:Int)<=1073741824:=Qa
 have aX:(d:Int)<=1073741824:=Qa
 have aW:(a:Int)<=1073741824:=Qa
 obtain⟨V,ax,ag,aP,aR⟩:=Zi (aq w 147 #[Zr .i64 7,Zt (ak nm),Zs I n c,Zs B d K,Zs C a J]) (aa w (.cells #[Zr .i64 7,Zt (ak nm),Zs I n c,Zs B d K,Zs C a J] 147)) ar al y;clear y;have av:=G (dJ nm aH);generalize am:(_&& _&& _:Bool)=R;have A:=G am;clear ar al am;generalize eB nm=b at*;go_enter func61,ntmps61;go_wp2_with fail;refine dA 11 3 [(2,λv=>v=Zv b,λ_ _=>True)] [] [3,4,5,6,7,8,9,10] mixed Qb Qb Qb Qf ⟨λ_ _ _ _ _=>trivial,trivial⟩ (λi aJ=>by simp at aJ) ?_;repeat (refine Zc (λ_ z=>(V.o.ext z.un).cell) ?_;simp only[Za])
 refine so (λah z ad af o=> ?_) ?_
 ·clear ad z;go_simp;refine(av.o ah).mono ?_;rintro e aS ⟨rfl,rfl⟩;exact o _ _ (aG _) rfl trivial
 rintro _ rfl;simp only[Za];repeat (refine Zc (λ_ z=>(V.o.ext z.un).cell) ?_;simp only[Za])
 intro aT F ad aD;clear ad aD;simp only[ae,aw];refine aO Qf Qe (λaf o=> ?_);go_simp;refine o _ _ F ?_;clear o;refine aO Qf Qe (λaf o=> ?_);go_simp;refine o _ _ F ?_;clear o;refine aO Qf Qe (λaf o=> ?_);go_simp;refine o _ _ F ?_;clear o;refine cL ?_;obtain⟨ay,u⟩:=Zf (V.o.ext F.un) (ax.o.trans F.un);have a2:=ay.o.cell;clear F V ax av
 cases hnm:(nm==[])with
 |false=>
  have e0:=G (show R=false from by rw[<-A.o];simp[hnm]);go_wp2_with fail;go_ret;exact⟨by rw[e0.o];rfl,u⟩
 |true=>
  by_cases h1:n=1
  rotate_left
  ·have a4:((n:Int)==1)=false:=by rw[Qn];omega
   have e0:=G (show R=false from by rw[<-A.o];simp[hnm,h1]);go_wp2_with fail;go_ret;exact⟨by rw[e0.o];rfl,u⟩
  ·subst h1;obtain⟨b0,aU,rfl,aK,aI⟩:=aR.o rfl;have a1:=(u.o.cell b0 _ aK).trans aI
   cases y:(Z==5)with
   |false=>
    have e0:=G (show R=false from by rw[<-A.o];simp[hnm,y]);go_wp2_with fail;go_ret;exact⟨by rw[e0.o];rfl,u⟩
   |true=>
    generalize ac:decide (0<d)=aA at*
    cases aA with
    |true=>
     have aF: ¬d=0:=by have:=of_decide_eq_true ac;omega
     have e0:=G (show R=false from by rw[<-A.o];simp[hnm,y,aF]);go_wp2_with fail;go_ret;exact⟨by rw[e0.o];rfl,u⟩
    |false=>
     obtain rfl:d=0:=by have:=of_decide_eq_false ac;omega
     clear ac;generalize ab:decide (0<a)=az at*
     cases az with
     |true=>
      have aE: ¬a=0:=by have:=of_decide_eq_true ab;omega
      have e0:=G (show R=false from by rw[<-A.o];simp[hnm,y,aE]);go_wp2_with fail;go_ret;exact⟨by rw[e0.o];rfl,u⟩
     |false=>
      obtain rfl:a=0:=by have:=of_decide_eq_false ab;omega
      clear ab
      cases r with
      |false=>
       have e0:=G (show R=false from by rw[<-A.o];simp);go_wp2_with (go_at_call 113;refine(ag.o _ u).mono ?_;rintro e ai ⟨rfl,H⟩;have M:=G (u.o.trans H);clear H);go_ret;exact⟨by rw[e0.o];rfl,M⟩
      |true=>
       have e0:=G (show R=X from by rw[<-A.o];simp[hnm,y]);go_wp2_with (first|(go_at_call 113;refine(ag.o _ u).mono ?_;rintro e ai ⟨rfl,H⟩;have M:=G (u.o.trans H);have a3:=(ay.o.ext H).cell;clear H ag)|(go_at_call 112;refine(aP.o _ _ (M.o.alloc' _) (aq ai _ _)).mono ?_;rintro e aB ⟨D,aV,rfl,ap,an⟩;obtain⟨aN,aQ⟩:=Zf ((M.o.alloc' _).trans ap) (an aB (aG _));clear ap an)|(go_at_call 116;refine aQ.o.mono ?_;rintro e ah ⟨rfl,ao⟩;have aM:=G (aN.o.trans ao);clear ao));go_ret;exact⟨by rw[e0.o];rfl,aM⟩
theorem I0 (k:Int) (d: ∀i:Int,1<=i->i<=7->k≠i) (nm:Zy) (z:World) (K B C:Option Addr) (n c y I w H:Nat) (an:n+y+w<=1073741824) (ab:nm.length<=1073741824):
  Calls prog 61 #[Zu #[Zr .i64 k,Zt (ak nm),Zs K n c,Zs B y I,Zs C w H]] z λe w'=>e= .returned (Zv false)/\au z w':=by
 have M:=G (dJ nm ab);generalize eB nm=b at*;have aA:(k==1)=false:=Qn.2 (d 1 Qd Qd);have az:(k==2)=false:=Qn.2 (d 2 Qd Qd);have ay:(k==3)=false:=Qn.2 (d 3 Qd Qd);have ax:(k==4)=false:=Qn.2 (d 4 Qd Qd);have av:(k==5)=false:=Qn.2 (d 5 Qd Qd);have ar:(k==6)=false:=Qn.2 (d 6 Qd Qd);have ap:(k==7)=false:=Qn.2 (d 7 Qd Qd);have am:(n:Int)<=1073741824:=Qa
 have al:(y:Int)<=1073741824:=Qa
 have aj:(w:Int)<=1073741824:=Qa
 obtain⟨A,R⟩:=Zf (aq z 147 #[Zr .i64 k,Zt (ak nm),Zs K n c,Zs B y I,Zs C w H]) (aa z (.cells #[Zr .i64 k,Zt (ak nm),Zs K n c,Zs B y I,Zs C w H] 147));clear d;go_enter func61,ntmps61;go_wp2_with fail;refine dA 11 3 [(2,λv=>v=Zv b,λ_ _=>True)] [] [3,4,5,6,7,8,9,10] mixed Qb Qb Qb Qf ⟨λ_ _ _ _ _=>trivial,trivial⟩ (λi ac=>by simp at ac) ?_;repeat (refine Zc (λ_ o=>(A.o.ext o.un).cell) ?_;simp only[Za])
 refine so (λV o F J a=> ?_) ?_
 ·clear F o;go_simp;refine(M.o V).mono ?_;rintro e ah ⟨rfl,rfl⟩;exact a _ _ (aG _) rfl trivial
 rintro _ rfl;simp only[Za];repeat (refine Zc (λ_ o=>(A.o.ext o.un).cell) ?_;simp only[Za])
 intro ai u F Z;clear F Z;simp only[ae,aw];refine aO Qf Qe (λJ a=> ?_);go_simp;refine a _ _ u ?_;clear a;refine aO Qf Qe (λJ a=> ?_);go_simp;refine a _ _ u ?_;clear a;refine aO Qf Qe (λJ a=> ?_);go_simp;refine a _ _ u ?_;clear a;refine cL ?_;obtain⟨ag,af⟩:=Zf (A.o.ext u.un) (R.o.trans u.un);have ao:=ag.o.cell;clear u A R M;go_wp2_with fail;go_ret;exact⟨rfl,af⟩
theorem xy: ∀l:List St,l.any (λa=> !a.ok)= !rD l
 | []=>rfl
 |x::r=>by simp only[iu,rD,xy r,Bool.not_and]
theorem Du (a b:List St):rD (a++b)=(rD a&&rD b):=by rw[kH,kH,kH,iU]
theorem x8 (a:St) (w':World) (B A z:Option Addr) (y w u:Nat) (H: ∀o,au w' o->Calls prog 61 #[Zu #[Zr .i64 a.k,Zt (ak a.nm),Zs B a.ex.length y,Zs A a.body.length w,Zs z a.els.length u]] o λe d=>e= .returned (Zv a.ok)/\au o d):
  Calls prog 117 #[Zu #[Zr .i64 a.k,Zt (ak a.nm),Zs B a.ex.length y,Zs A a.body.length w,Zs z a.els.length u]] w' λe d=>e= .returned (Zv (!a.ok))/\au w' d:=by
 obtain⟨K,I⟩:=Zf H (aa w' (.cells #[Zr .i64 a.k,Zt (ak a.nm),Zs B a.ex.length y,Zs A a.body.length w,Zs z a.els.length u] 147));clear H;generalize a.ex.length=n at*;generalize a.body.length=V at*;generalize a.els.length=R at*;go_enter func117,ntmps117;go_wp2_with (refine(K.o _ I).mono ?_;rintro e M ⟨rfl,F⟩;have J:=G (I.o.trans F);clear F);go_ret;exact⟨rfl,J⟩
theorem pY: ∀(m:Nat) (x:St),x.wt<=m->x.wt<=1073741824-> ∀(P:Nat->Prop) (a:World) (y B C:Option Addr) (n c h w d u:Nat),dL a P (Zs y n c) x.ex->ed a P (Zs B h w) x.body->ed a P (Zs C d u) x.els->
  Calls prog 61 #[Zu #[Zr .i64 x.k,Zt (ak x.nm),Zs y n c,Zs B h w,Zs C d u]] a λe w'=>e= .returned (Zv x.ok)/\au a w'
 |0,x,hm,_,_,_,_,_,_,_,_,_,_,_,_,_,_,_=>absurd hm (by have:=x.wt_eq;omega)
 |m+1,x,hm,hx,P,a,y,B,C,n,c,h,w,d,u,X,hRb,hRl=>by
  obtain⟨aG,F,V,M,aI,aJ,aH⟩:=Zq x.wt_eq X.len hRb.len hRl.len (eg x.ex) (fd x.body) (fd x.els);have K:Ft a y n c (zD x.ex):=λw' Z=>by
   refine(zg (λz=> !z.ok) x.ex P w' y n c (X.keep (.of_ext Z) (λ_ o _=>o)) Qa (λz ae ab B ar aC=> ?_)).mono ?_
   ·have ad:=em ae;exact rp z ab B ar (λaa aj=>qa _ z (ah _) Qa P aa B _ ar (aC.keep (.of_ext aj) (λ_ o _=>o))) _ (.inr rfl)
   ·rintro e ab ⟨rfl,A⟩;exact⟨by rw[sM],A⟩
  have J:Fs a B C h w d u (rD x.body&&rD x.els):=λw' g Z aE=>by
   refine(qB P w' g B C h d w u x.body x.els aE (hRb.keep (.of_ext Z) (λ_ o _=>o)) (hRl.keep (.of_ext Z) (λ_ o _=>o)) Qa).mono ?_;rintro e ab ⟨⟨D,k,rfl,aB⟩,aD⟩;refine⟨D,k,rfl,aD,λaa aj=> ?_⟩;refine(BU (λz=> !z.ok) (x.body++x.els) _ aa D (h+d) k (aB.keep (.of_ext aj) (λ_ o _=>o)) (by simp only[ac];omega) (λz ae am ay ax aw aq ap ao af=> ?_)).mono ?_
   ·have ad:z.wt<=m/\z.wt<=1073741824:=by
     rcases List.mem_append.1 ae with R|R
     ·have:=cI R;omega
     ·have:=cI R;omega
    exact x8 z am ay ax aw aq ap ao (λaz ag=>pY m z ad.1 ad.2 _ az ay ax aw _ aq _ ap _ ao (af.1.keep (.of_ext ag) (λ_ o _=>o)) (af.2.1.keep (.of_ext ag) (λ_ o _=>o)) (af.2.2.keep (.of_ext ag) (λ_ o _=>o)))
   ·rintro e am ⟨rfl,A⟩;exact⟨by rw[xy,Du],A⟩
  have G:n+h+d<=1073741824:=Qa
  have H:x.nm.length<=1073741824:=Qa
  obtain⟨k,nm,xs,av,an⟩:=x;simp only[St.k,St.nm,St.ex,St.body,St.els]at*;have I: ∀al,al=St.ok (.mk k nm xs av an)->Calls prog 61 #[Zu #[Zr .i64 k,Zt (ak nm),Zs y n c,Zs B h w,Zs C d u]] a (λe w'=>e= .returned (Zv al)/\au a w')->Calls prog 61 #[Zu #[Zr .i64 k,Zt (ak nm),Zs y n c,Zs B h w,Zs C d u]] a λe w'=>e= .returned (Zv (St.ok (.mk k nm xs av an)))/\au a w':=λal X R=>by rw[<-X];exact R
  by_cases h1:k=1
  ·subst h1;exact I _ (by rw[St.ok,if_pos rfl,<-F,<-V,<-M]) (IZ nm a y B C n c h w d u G H _ _ K J)
  by_cases A:k=2
  ·subst A;exact I _ (by rw[St.ok,if_neg h1,if_pos rfl,<-F,<-V,<-M]) (IY nm a y B C n c h w d u G H _ _ K J)
  by_cases h3:k=3
  ·subst h3;exact I _ (by rw[St.ok,if_neg h1,if_neg A,if_pos rfl,<-F,<-V,<-M]) (IX nm a y B C n c h w d u G H _ _ K J)
  by_cases h4:k=4
  ·subst h4;exact I _ (by rw[St.ok,if_neg h1,if_neg A,if_neg h3,if_pos rfl,<-F]) (IW nm a y B C n c h w d u G H _ _ K J)
  by_cases h5:k=5
  ·subst h5;exact I _ (by rw[St.ok,if_neg h1,if_neg A,if_neg h3,if_neg h4,if_pos rfl,<-F,<-M]) (IV nm a y B C n c h w d u G H _ _ K J)
  by_cases h6:k=6
  ·subst h6;exact I _ (by rw[St.ok,if_neg h1,if_neg A,if_neg h3,if_neg h4,if_neg h5,if_pos rfl,<-F,<-V,<-M]) (IU nm a y B C n c h w d u G H _ _ K J)
  by_cases h7:k=7
  ·subst h7;refine I _ ?_ (IT nm a y B C n c h w d u G H _ _ K J ((xs.head?.map Ex.k).getD 0) λR=> ?_)
   ·rw[St.ok,if_neg h1,if_neg A,if_neg h3,if_neg h4,if_neg h5,if_neg h6,if_pos rfl,<-F,<-V,<-M]
    cases xs with
    |nil=>simp only[ai]at F;subst F;simp
    |cons z r=>simp
   ·obtain⟨b,aA,aM,rfl,o,_,aF,_⟩:=X.at_ 0 Qa;refine⟨b,aA,rfl,o,?_⟩
    cases xs with
    |nil=>simp only[ai]at F;omega
    |cons z r=>simpa using aF
  ·refine I _ ?_ (I0 k (λi aL aK=>by omega) nm a y B C n c h w d u G H);rw[St.ok,if_neg h1,if_neg A,if_neg h3,if_neg h4,if_neg h5,if_neg h6,if_neg h7];rfl
def Bu (w:World) (b:Nat) (l:Zy):Prop:=
 ∃p v,aM w b 217 #[p,v]/\w.ownsRow (b+1) 5 1 v l.length (Lib.byteCells l)/\(l=[]->v=Zs none 0 0)/\(p=Zw none\/p=Zw (some ⟨b,0,none⟩))
theorem Bu.lt {d:World} {b:Nat} {l:Zy} (a:Bu d b l):b<d.heap.size:=let⟨_,_,a,_⟩:=a;a.lt
theorem Bu.new (a:World):Bu (a.alloc (.cells #[Zw none,Zs none 0 0] 217)) a.heap.size []:=⟨_,_,aq a _ _,World.ownsRow_nil _ _ _ 1,λ_=>rfl, .inl rfl⟩
theorem Bu.ext {a w':World} {b:Nat} {l:Zy} (y:Bu a b l) (d:au a w'):Bu w' b l:=by
 obtain⟨p,v,w,o,u,h⟩:=y;exact⟨p,v,w.ext d,World.ownsRow.kept o (d.grownBy none) (by cases v.ownBlock<;>simp),u,h⟩
theorem tz {b:Nat} {a w':World} (h:au a w') (d:b<=a.heap.size):Below b a w':=RowKit.Below.mono h d
structure FB (b:Nat) (w w':World):Prop where
 below:Below b w w'
 keep: ∀k t cs,k≠b->t≠5->aM w k t cs->aM w' k t cs
theorem FB.refl (b:Nat) (a:World):FB b a a:=⟨Below.refl _ _,λ_ _ _ _ _ d=>d⟩
theorem FB.trans {b:Nat} {d w' a:World} (u:FB b d w') (k:FB b w' a):FB b d a:=⟨Below.trans u.below k.below,λi t w o h y=>k.keep i t w o h (u.keep i t w o h y)⟩
theorem FB.of_ext {b:Nat} {a w':World} (d:au a w') (h:b<=a.heap.size):FB b a w':=⟨tz d h,λ_ _ _ _ _ k=>k.ext d⟩
theorem FB.set {b i:Nat} {v:Value} (a:World):FB b a (a.setCell ⟨b,i,none⟩ v):=⟨(Below.refl b a).setCell (p:=⟨b,i,none⟩) (ah _) _,λk t o h _ d=>d.far (p:=⟨b,i,none⟩) h v⟩
theorem FB.keepP {b:Nat} {a w':World} (d:FB b a w') {P:Nat->Prop} (o: ∀k,P k->k<b):dE P a w':=⟨d.below.size,λk h u=>d.below.block k (o k h)⟩
structure IB (b:Nat) (v:Value) (w w':World):Prop where
 blk:aM w' b 217 #[Zw (some ⟨b,0,none⟩),v]
 below:FB b w w'
 size:w'.heap.size=w.heap.size
 own: ∀n xs,w.ownsRow (b+1) 5 1 v n xs->w'.ownsRow (b+1) 5 1 v n xs
theorem IB.set {b:Nat} {p v:Value} {a:World} (h:aM a b 217 #[p,v]):IB b v a (a.setCell ⟨b,0,none⟩ (Zw (some ⟨b,0,none⟩))):=by
 refine⟨by have:=h.set 0 (Zw (some ⟨b,0,none⟩));simpa using this,FB.set a,by simp[World.setCell],λn xs d=>World.ownsRow.kept d (fu a b 0 _) ?_⟩
 cases hv:v.ownBlock with
 |none=>exact .inl rfl
 |some k=>exact .inr λe=>by have:=(World.ownsRow.lt d k hv).1;injection e with e;omega
theorem wf (b:Nat) (p v:Value) (d:World) (a:aM d b 217 #[p,v]) (w:p=Zw none\/p=Zw (some ⟨b,0,none⟩)):
  Calls prog 170 #[Zw (some ⟨b,0,none⟩)] d λe w'=>e= .returned (.tuple #[])/\IB b v d w':=by
 obtain⟨I,H,F⟩:=Zm a.cell a.frozen (G a);obtain⟨j,o,y⟩:=Option.map_eq_some_iff.1 (show(prog.info? 215).map (·.size)=some 2 from by kernel_rfl);rcases w with rfl|rfl
 ·have A:=G (IB.set a);have u:d.shape? b=some (217,2):=by unfold aM at a;simp[World.shape?,a]
  clear a;go_enter func170,ntmps170;go_wp2;rw[Lib.run_to_unsafe d ⟨b,0,none⟩ underlying213 underlying288 o (by rw[y];decide) u (Nat.zero_lt_succ 1)];simp only[Result.andThen];rw[Oper.upon_value];go_wp2;rw[run_callFunc_extern func211 Qb Qb Qb (e:=Extern.AbiNoEscape.same) Qb];rw[Lib.run_noEscape];simp only[Result.andThen];rw[Oper.upon_value];go_wp2;rw[Lib.run_from_unsafe d ⟨b,0,none⟩ underlying288 underlying213 o u Qb];simp only[Result.andThen];rw[Oper.upon_value];go_wp2
  go_end0
  exact⟨rfl,A⟩
 ·clear a;go_enter func170,ntmps170;go_wp2;rw[Lib.run_neq_ptr_same d _ underlying213 o];go_wp2
  go_end0
  exact⟨rfl,F,FB.refl _ _,rfl,λ_ _ z=>z⟩
theorem Dk {h d a:World} {b n:Nat} {v:Value} {xs:List Value} (w:IB b v h d) (o:h.ownsRow (b+1) 5 1 v n xs) (u:d.grownBy a v.ownBlock):aM a b 217 #[Zw (some ⟨b,0,none⟩),v]:=
 w.blk.grown u λe=>by have:=(World.ownsRow.lt o b e.symm).1;omega
theorem AX {d:World} {base n k:Nat} {e:TypeId} {v:Value} {xs:List Value} (h:d.ownsRow base e k v n xs): ∃o m c,v=Zs o m c:=by
 rcases h.2 with⟨a,_⟩|⟨g,cap,cur,a,_⟩
 ·exact⟨_,_,_,a⟩
 ·exact⟨_,_,_,a⟩
theorem rk (l s:Zy):Lib.byteCells (l++s)=Lib.byteCells l++Lib.strCells (ak s):=by simp[Lib.byteCells,Lib.strCells,ak]
theorem cY (b:Nat) (l s:Zy) (u:World) (au:Bu u b l) (aD:l.length+s.length<=1000000000):
  Calls prog 118 #[Zw (some ⟨b,0,none⟩),Zt (ak s)] u λe w'=>e= .returned (.tuple #[Zr .i64 s.length, .nilIface])/\Bu w' b (l++s)/\FB b u w':=by
 obtain⟨ai,aq,am,al,aj⟩:=info_parts (show(prog.info? 5).map (λi=>(i.zero,i.size,i.bytes))=some (some (Zr .u8 0),1,1)from by kernel_rfl);obtain⟨p,v,d,R,X,M⟩:=au;obtain⟨ae,y,az⟩:=Zg (wf b p v u d M) R X;have H:(ak s).size=s.length:=a7 s;have ap:=d.lt;clear d R X M;go_enter func118,ntmps118;go_wp2_with (go_at_call 170;refine ae.o.mono ?_);rintro e ah ⟨rfl,a⟩;have z:=G a;have ad:=a.blk.cell 0;have c1:=a.blk.cell 1;simp only[eL,cK,dg]at ad c1;have ao:=a.own _ _ y;have aB:=a.size;clear a ae;go_wp2_with (at_builtin;refine Lib.wpList_append_own_string _ rfl _ _ 36 9 rfl (b+1) 5 ai underlying36 underlying9 aq am al aj _ _ _ rfl ao (ak s) rfl ?c3 ?c4 ?c5 ?_)
 case c3=>rw[H];unfold maxLen;omega
 case c4=>rw[H];omega
 case c5=>omega
 intro v' A I J V;obtain⟨af,ag,ay,o⟩:=Zn (G I) (G J) (G V) (Dk z y J);have aw:=o.cell 0;have av:=o.cell 1;have aE:=o.frozen 1;simp only[eL,cK,dg]at aw av;have aA:=G o;have ar:=AX I;clear I J V o ad c1;obtain⟨K,F,w,rfl⟩:=ar;go_wp2;go_ret2;have aC:=ap;refine⟨rfl,?_,?_⟩
 ·refine⟨_,_,?_,World.ownsRow.kept (show A.ownsRow (b+1) 5 1 (Zs K F w) (l++s).length (Lib.byteCells (l++s))from ?_) (fu A b 1 _) ?_,λe=> ?_, .inr rfl⟩
  ·have:=aA.o.set 1 (Zs K F w);simpa using this
  ·have:=af.o;rw[ac,rk];first|exact this|(rw[H]at this;exact this)
  ·cases hv:Value.ownBlock (Zs K F w)with
   |none=>exact .inl rfl
   |some k=>exact .inr λe=>by have:=(World.ownsRow.lt af k hv).1;injection e with e;omega
  ·have aa:=List.append_eq_nil_iff.1 e;exact ay.o.2 ⟨az.o aa.1,by have:=aa.2;simp[this]⟩
 ·refine z.o.below.trans (FB.trans ⟨?_,λk t ax Z an d=>d.grown ag λe=> ?_⟩ (FB.set A))
  ·exact(Below.refl b ah).grown ag.o (by have:=z.o.size;omega) (λk Z=>by have:=(World.ownsRow.lt y k Z).1;omega)
  ·rcases(z.o.own _ _ y).2 with⟨rfl,_⟩|⟨g,w,cur,rfl,_,hg,_⟩
   ·cases e
   ·have e:k=g:=ab e;subst e;have:some (Obj.cells ax t (0,0))=some (Obj.cells cur 5 (0,0)):=d.symm.trans hg;injection this with this;injection this with _ this _;exact an this
theorem AJ (b:Nat) (l:Zy) (a:World) (V:Bu a b l) (ab:l.length<=1000000000):
  Calls prog 122 #[Zw (some ⟨b,0,none⟩)] a λe w'=>e= .returned (Zt (ak l))/\Below b a w':=by
 obtain⟨p,v,u,w,y,z⟩:=V;by_cases h0:l=[]
 ·subst h0;obtain rfl:=y rfl;have M: ∀(W:World) (q:Option Addr),(Builtin.unsafeString_ #[268,3] 9 #[Zw q,Zr .i64 0]).run prog W= .ok (Zt .empty) W:=λW q=>Lib.run_unsafeString_none W _ _ _ q;have c1:a.drew.cell? ⟨b,1,none⟩=some (Zs none 0 0):=u.cell 1;have R:(Builtin.unsafeSliceData_ #[36] 268 #[Zs none 0 0]).run prog a.drew= .ok (Zw none) a.drew:=rfl;clear u w y z;have G:=mixed;go_enter func122,ntmps122;go_wp2
  go_region_o
  all_goals (go_wp2;go_ret;exact⟨rfl,Below.drew (Below.refl b a)⟩)
 ·have H:l.length≠0:=by simpa using h0
  have aa:=u.lt;obtain⟨g,d,o,rfl,ad,J,Z,K,ac,X⟩: ∃g d o,v=Zs (some ⟨g,0,none⟩) l.length d/\b+1<=g/\a.heap[g]? =some (.cells o 5 (0,0))/\l.length<=d/\d<=maxLen/\o.size=d*1/\o.toList.take (l.length*1)=Lib.byteCells l:=by
   rcases w.2 with⟨_,A⟩|⟨g,d,o,hv,r⟩
   ·exact absurd A H
   ·exact⟨g,d,o,hv,r⟩
  have c1:a.drew.cell? ⟨b,1,none⟩=some (Zs (some ⟨g,0,none⟩) l.length d):=u.cell 1;have R:(Builtin.unsafeSliceData_ #[36] 268 #[Zs (some ⟨g,0,none⟩) l.length d]).run prog a.drew= .ok (Zw (some ⟨g,0,none⟩)) a.drew:=
   Lib.run_unsafeSliceData_row _ _ _ _ _ _ Qa
  have M:(Builtin.unsafeString_ #[268,3] 9 #[Zw (some ⟨g,0,none⟩),Zr .i64 l.length]).run prog a.drew= .ok (Zt ⟨l.toArray⟩) (a.drew.freeze ⟨g,0,none⟩ l.length):=by
   refine Lib.run_unsafeString_row a.drew 268 3 9 5 underlying268 Qb g o.size (by have I:a.drew.heap[g]? =some (.cells o 5 (0,0)):=J;simp[World.shape?,I]) l h0 Qa (by unfold maxLen at K;omega) ?_;intro j x F;have:=w.cells (g:=g) rfl j (Zr .u8 x.toNat) (by simp[Lib.byteCells,F]);exact this
  clear u w y z;have G:=mixed;go_enter func122,ntmps122;go_wp2
  go_region_o
  all_goals (go_wp2;go_ret;exact⟨rfl,Lib.below_freeze (Below.drew (Below.refl b a)) (p:=⟨g,0,none⟩) (by show b<=g;omega) _⟩)
def aV:=@FB.of_ext
end
end Go.Proofs.YtoedmpgicdekmaaGreatDoor
