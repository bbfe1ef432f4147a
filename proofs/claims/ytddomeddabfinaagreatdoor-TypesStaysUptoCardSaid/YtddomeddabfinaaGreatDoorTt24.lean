/- Parts of the proof. -/
import Derived.Test.YtddomeddabfinaaGreatDoorTt00
import Derived.Defers
import Derived.Recover
import Derived.Laws.Pointers
import Derived.BigRegion
import Derived.WalkLawsBesides
import Derived.Test.YtddomeddabfinaaGreatDoorTt05
set_option maxRecDepth 100000
set_option maxHeartbeats 8000000
set_option linter.unusedVariables false
set_option linter.unusedSimpArgs false
set_option linter.unusedSectionVars false
namespace Go.Proofs.YtddomeddabfinaaGreatDoor
open Go.Proofs.Tryz
open Go.RowKit
theorem Ht {A o:World} {a j h:Nat} {R O M:TypeId} {ab I y X:Value} (z w q r:Value) (ae:az A o) (ah:aU o a R #[ab,I]) (ag:aU o j O #[y]) (af:aU o h M #[X])
  (l0:A.heap.size<=a) (ad:A.heap.size<=j) (ac:A.heap.size<=h) (K:a≠j) (G:a≠h) (V:j≠h):
  az A ((((o.setCell ⟨a,0,none⟩ z).setCell ⟨a,1,none⟩ w).setCell ⟨j,0,none⟩ q).setCell ⟨h,0,none⟩ r)/\aU ((((o.setCell ⟨a,0,none⟩ z).setCell ⟨a,1,none⟩ w).setCell ⟨j,0,none⟩ q).setCell ⟨h,0,none⟩ r) a R #[z,w]/\
   aU ((((o.setCell ⟨a,0,none⟩ z).setCell ⟨a,1,none⟩ w).setCell ⟨j,0,none⟩ q).setCell ⟨h,0,none⟩ r) j O #[q]/\aU ((((o.setCell ⟨a,0,none⟩ z).setCell ⟨a,1,none⟩ w).setCell ⟨j,0,none⟩ q).setCell ⟨h,0,none⟩ r) h M #[r]:=by
 refine⟨(((ae.set l0 _).set l0 _).set ad _).set ac _,?_,?_,?_⟩
 ·have:=(((ah.set 0 z).set 1 w).far (p:=⟨j,0,none⟩) K q).far (p:=⟨h,0,none⟩) G r;simpa using this
 ·have:=(((ag.far (p:=⟨a,0,none⟩) (gp K) z).far (p:=⟨a,1,none⟩) (gp K) w).set 0 q).far (p:=⟨h,0,none⟩) V r;simpa using this
 ·have:=(((af.far (p:=⟨a,0,none⟩) (gp G) z).far (p:=⟨a,1,none⟩) (gp G) w).far (p:=⟨j,0,none⟩) (gp V) q).set 0 r;simpa using this
theorem qc (z w o:Value) (a:World):
  CallsD prog 59 #[z,w,o] .returning a λe j w'=>e=.returned (.tuple #[])/\j=.returning/\w'=a:=by
 refine callsD_of_wpS func59 rfl λG K A=> ?_;apply wpS_seq;apply wpS_region;simp[wpOpsS,go_sem,recoverD,A,ntmps59,Exit.thenS];apply wpS_seq;apply wpS_region;simp[wpOpsS,go_sem,Exit.thenS];refine wpS_cond (t:=false) (by simp[Act.eval]) ?_;simp only[aT,if_false];refine wpS_of_wp (wp_skip ?_)
 cases G;simp_all[bodyPostS,results,results59]
theorem ul (G a:World) (w o j:Nat) (ak aj y ai:Value) (z n:Int) (ae:List PanicEntry) (ag:az G a) (V:aU a w 34 #[ak,aj]) (R:aU a o 3 #[y]) (M:aU a j 28 #[ai])
  (l0:G.heap.size<=w) (aq:G.heap.size<=o) (ap:G.heap.size<=j) (ao:w≠o) (an:w≠j) (J:o≠j):
  CallsD prog 59 #[.pointer (some ⟨w,0,none⟩),.pointer (some ⟨o,0,none⟩),.pointer (some ⟨j,0,none⟩)] (.panicking ({v:=.iface 151 (.agg #[.int .i64 z,.int .i64 n]),recovered:=false}::ae)) a λe al w'=>
   e=.returned (.tuple #[])/\al=.panicking ({v:=.iface 151 (.agg #[.int .i64 z,.int .i64 n]),recovered:=true}::ae)/\
   az G w'/\aU w' w 34 #[.slice none 0 0,.slice none 0 0]/\aU w' o 3 #[.int .i64 z]/\aU w' j 28 #[.int .i64 n]:=by
 have A:=Z a (.cells #[.int .i64 z,.int .i64 n] 151);have ah:=aw a 151 #[.int .i64 z,.int .i64 n];have aB:=O (ag.trans A);have ac:=O (V.ext A);have ab:=O (R.ext A);have I:=O (M.ext A);have aC:=O ah;have av:w≠a.heap.size:=λe=>by have:=V.lt;omega
 have au:o≠a.heap.size:=λe=>by have:=R.lt;omega
 have ar:j≠a.heap.size:=λe=>by have:=M.lt;omega
 clear A ah ag V R M;refine callsD_of_wpS func59 rfl λaM aN ay=> ?_;apply wpS_seq;apply wpS_region;simp[wpOpsS,go_sem,recoverD,ay,ntmps59,Exit.thenS];have af: ∀v X b c:Value,#[X,b,c]++((Array.replicate 19 undef).setIfInBounds 3 v).setIfInBounds 0 v= #[X,b,c,v,undef,undef,v,undef,undef,undef,undef,undef,undef,undef,undef,undef,undef,undef,undef,undef,undef,undef]:=by
  intro v X b c;apply kI;simp[i_]
 rw[af];clear af;apply wpS_seq;apply wpS_region;simp[wpOpsS,go_sem,Exit.thenS];refine wpS_cond (t:=true) (by simp[Act.eval]) ?_;simp only[if_true];refine wpS_of_wp ?_;have aA: ∀(v:Value) (ad:TypeId) (a:World),(Instr.typeAssert (.iface 151 v) ad 151 true).run prog a=.ok (.tuple #[v,.bool true]) a:=λv ad a=>by simp[Instr.typeAssert,run_underlying underlying151]
 go_wp2_with fail;clear aA;have ax:a.heap.size≠w/\a.heap.size≠o/\a.heap.size≠j:=⟨λe=>av e.symm,λe=>au e.symm,λe=>ar e.symm⟩
 obtain⟨aK,aJ,aI⟩:=ax;have aL:=aC.out.cell;have aQ:=ac.out.cell;have aP:=ab.out.cell;have aO:=I.out.cell;have aF:=ac.out.frozen;have aE:=ab.out.frozen;have aD:=I.out.frozen;generalize a.alloc (.cells #[.int .i64 z,.int .i64 n] 151)=aH at*;generalize a.heap.size=aG at*;go_region;have K:=Ht (.slice none 0 0) (.slice none 0 0) (.int .i64 z) (.int .i64 n) aB.out ac.out ab.out I.out l0 aq ap ao an J;refine⟨rfl,_,rfl,.tuple #[],?_,rfl,rfl,K.1.drew,K.2.1.drew,K.2.2.1.drew,K.2.2.2.drew⟩;simp[results,results59]
end Go.Proofs.YtddomeddabfinaaGreatDoor
