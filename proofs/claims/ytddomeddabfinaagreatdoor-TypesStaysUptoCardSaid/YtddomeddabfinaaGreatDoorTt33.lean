/- Parts of the proof. -/
import Derived.Test.YtddomeddabfinaaGreatDoorTt00
import Derived.Test.YtddomeddabfinaaGreatDoorTt26
import Derived.Test.YtddomeddabfinaaGreatDoorTt31
import Derived.Test.YtddomeddabfinaaGreatDoorTt32
set_option maxRecDepth 100000
set_option maxHeartbeats 8000000
set_option linter.unusedVariables false
set_option linter.unusedSimpArgs false
set_option linter.unusedSectionVars false
namespace Go.Proofs.YtddomeddabfinaaGreatDoor
open IntKind(i64)
open Go.Proofs.Tryz
open Go.RowKit
theorem pP (s:List UInt8) (p:Pg) (z:lQ s=(p,0,0)) (a:World) (o:EZ a) (w:dP a a.heap.size):Calls prog 32 #[.string (J s)] a λe w'=>az a w'/\ ∃h n c B m d,e=.returned (.tuple #[.agg #[.slice h n c,.slice B m d],.int i64 0,.int i64 0])/\ik w' (λ_=>True) (.slice h n c) p.vs/\jl w' (λ_=>True) (.slice B m d) p.fs:=by
 refine(yr s a o w).mono λe w' j=> ?_;rw[z]at j;obtain⟨M,h,n,c,B,m,d,A,G,K⟩:=j;exact⟨M,h,n,c,B,m,d,A,G.keep (.of_ext (.refl _)) (λ_ _ _=>trivial),K.keep (.of_ext (.refl _)) (λ_ _ _=>trivial)⟩
theorem Ac (p:Pg) (A:jo p<=6000000) (G:(gF p).2=0) (w:Rs) (z:Value) (a:World) (h B:Option Addr) (n c m d:Nat) (K:ik a (λ_=>True) (.slice h n c) p.vs) (R:jl a (λ_=>True) (.slice B m d) p.fs) (M:dP a a.heap.size) (X:BT a) (O:lD a (λ_=>True) z w) (j:Nat) (I:j<=3000):
  Calls prog 17 #[.agg #[.slice h n c,.slice B m d],z,.int i64 (j:Int)] a λe w'=>az a w'/\ ∃h c,e=.returned (.tuple #[Cd (kn p w j) h c,.int i64 0])/\Sl w' h c (kn p w j).data:=by
 refine(pp p A _ a h B n c m d K R M X w z O (j:Int) Qa Qa).mono λe w' o=> ?_;obtain⟨V,o⟩:=o;rw[if_pos G]at o;exact⟨V,o⟩
theorem oN (z:World) (af:EZ z) (K:dP z z.heap.size) (ah:BT z):Calls prog 11 #[] z λe w'=>e=.returned (.bool true)/\az z w':=by
 have a9:=O af;have ba:=O K;have bb:=O ah;have aJ:=O (show Calls prog 32 #[.string ⟨#[102,117,110,99,32,109,97,105,110,40,41,32,123,32,114,101,116,117,114,110,32,51,48,48,59,32,125]⟩] z λe w'=>az z w'/\ ∃j n c B m d,e=.returned (.tuple #[.agg #[.slice j n c,.slice B m d],.int i64 0,.int i64 0])/\ik w' (λ_=>True) (.slice j n c) mE.vs/\jl w' (λ_=>True) (.slice B m d) mE.fs from pP EJ mE Cv z af K);have aI:=O (show ∀W,az z W->Calls prog 32 #[.string ⟨#[118,97,114,32,97,91,51,93,59,32,102,117,110,99,32,109,97,105,110,40,41,32,123,32,97,91,51,93,32,61,32,49,59,32,125]⟩] W λe w'=>az W w'/\ ∃j n c B m d,e=.returned (.tuple #[.agg #[.slice j n c,.slice B m d],.int i64 0,.int i64 0])/\ik w' (λ_=>True) (.slice j n c) ly.vs/\jl w' (λ_=>True) (.slice B m d) ly.fs from λW a=>pP EH ly Cs W (af.ext a) (dN K a))
 have aH:=O (show ∀(W:World) (j B:Option Addr) (n c m d:Nat),az z W->ik W (λ_=>True) (.slice j n c) mE.vs->jl W (λ_=>True) (.slice B m d) mE.fs->Calls prog 17 #[.agg #[.slice j n c,.slice B m d],.slice none 0 0,.int i64 100] W λe w'=>az W w'/\ ∃j c,e=.returned (.tuple #[.agg #[.int i64 1,.int i64 0,.int i64 44,.int i64 0,.int i64 0,.slice j 0 c,.int i64 0],.int i64 0])from λW j B n c m d a A G=>by
  refine(Ac mE F5 EI [] _ W j B n c m d A G (dN K a) (ah.ext a) ⟨none,0,rfl,.inl rfl⟩ 100 Qc).mono λe w' ag=> ?_;rw[Cu]at ag;obtain⟨ao,j,c,ae,_⟩:=ag
  exact⟨ao,j,c,ae⟩)
 have aG:=O (show ∀(W:World) (j B:Option Addr) (n c m d:Nat),az z W->ik W (λ_=>True) (.slice j n c) ly.vs->jl W (λ_=>True) (.slice B m d) ly.fs->Calls prog 17 #[.agg #[.slice j n c,.slice B m d],.slice none 0 0,.int i64 100] W λe w'=>az W w'/\ ∃(ad ac ab I:Int) (X:Option Addr) (V R:Nat) (M:Int),e=.returned (.tuple #[.agg #[.int i64 2,.int i64 ad,.int i64 ac,.int i64 ab,.int i64 I,.slice X V R,.int i64 M],.int i64 0])from λW j B n c m d a A G=>by
  refine(Ac ly F4 EG [] _ W j B n c m d A G (dN K a) (ah.ext a) ⟨none,0,rfl,.inl rfl⟩ 100 Qc).mono λe w' ag=> ?_;obtain⟨ao,j,c,ae,_⟩:=ag;unfold Cd at ae;rw[Cr]at ae
  exact⟨ao,_,_,_,_,_,_,_,_,ae⟩)
 have aX:=O (λW=>Ik 44 0 0 44 0 0 W);generalize mE.vs=vs at*;generalize mE.fs=a3 at*;generalize ly.vs=a1 at*;generalize ly.fs=a2 at*;clear af K ah;go_enter func11,ntmps11
 go_upto_region 2 with(go_at_call 32;refine aJ.out.mono ?_;rintro e al ⟨a,j,n,c,B,m,d,rfl,A,G⟩;have o:=Z al (.cells #[.slice j n c,.slice B m d] 34);have ax:=O (a.trans o);have aS:=O (aw al 34 #[.slice j n c,.slice B m d]);have aF:=O (A.keep (.of_ext o) (Q:=λ_=>True) (λ_ w _=>w));have aN:=O (G.keep (.of_ext o) (Q:=λ_=>True) (λ_ w _=>w));clear a A G o aJ)
 generalize al.alloc (.cells #[.slice j n c,.slice B m d] 34)=a8 at*
 go_upto_region 3 with(go_at_call 32;refine(aI.out _ ax.out).mono ?_;rintro e ak ⟨a,aB,J,ar,ay,an,ap,rfl,A,G⟩;have o:=Z ak (.cells #[.slice aB J ar,.slice ay an ap] 34);have av:=O (ax.out.trans (a.trans o));have aQ:=O (aw ak 34 #[.slice aB J ar,.slice ay an ap]);have aR:=O (aS.out.ext (a.trans o));have aE:=O (aF.out.keep (.of_ext (a.trans o)) (Q:=λ_=>True) (λ_ w _=>w));have aM:=O (aN.out.keep (.of_ext (a.trans o)) (Q:=λ_=>True) (λ_ w _=>w));have aD:=O (A.keep (.of_ext o) (Q:=λ_=>True) (λ_ w _=>w));have aL:=O (G.keep (.of_ext o) (Q:=λ_=>True) (λ_ w _=>w));clear a A G o aI aS aF aN ax)
 generalize ak.alloc (.cells #[.slice aB J ar,.slice ay an ap] 34)=a7 at*;have aU:=aR.out.cell
 go_upto_region 4 with(go_at_call 17;refine(aH.out _ _ _ _ _ _ _ av.out aE.out aM.out).mono ?_;rintro e aj ⟨a,aA,aq,rfl⟩;have o:=Z aj (.cells #[.int i64 1,.int i64 0,.int i64 44,.int i64 0,.int i64 0,.slice aA 0 aq,.int i64 0] 42);have au:=O (av.out.trans (a.trans o));have aO:=O (aw aj 42 #[.int i64 1,.int i64 0,.int i64 44,.int i64 0,.int i64 0,.slice aA 0 aq,.int i64 0]);have aP:=O (aQ.out.ext (a.trans o));have aC:=O (aD.out.keep (.of_ext (a.trans o)) (Q:=λ_=>True) (λ_ w _=>w));have aK:=O (aL.out.keep (.of_ext (a.trans o)) (Q:=λ_=>True) (λ_ w _=>w));clear a o aH aQ aD aL av aU aR aE aM)
 generalize aj.alloc (.cells #[.int i64 1,.int i64 0,.int i64 44,.int i64 0,.int i64 0,.slice aA 0 aq,.int i64 0] 42)=a6 at*;have aT:=aP.out.cell
 go_upto_region 5 with(go_at_call 17;refine(aG.out _ _ _ _ _ _ _ au.out aC.out aK.out).mono ?_;rintro e ai ⟨a,ad,ac,ab,I,X,V,R,M,rfl⟩;have o:=Z ai (.cells #[.int i64 2,.int i64 ad,.int i64 ac,.int i64 ab,.int i64 I,.slice X V R,.int i64 M] 42);have aW:=O (au.out.trans (a.trans o));have aY:=O (aw ai 42 #[.int i64 2,.int i64 ad,.int i64 ac,.int i64 ab,.int i64 I,.slice X V R,.int i64 M]);have aZ:=O (aO.out.ext (a.trans o));clear a o aG aO au aT aP aC aK)
 generalize ai.alloc (.cells #[.int i64 2,.int i64 ad,.int i64 ac,.int i64 ab,.int i64 I,.slice X V R,.int i64 M] 42)=aV at*;have a5:=aZ.out.cell;have a4:=aY.out.cell;have q:=aX.out aV;go_wp2_with fail;go_ret;exact⟨pL Qd,aW.out⟩
end Go.Proofs.YtddomeddabfinaaGreatDoor
