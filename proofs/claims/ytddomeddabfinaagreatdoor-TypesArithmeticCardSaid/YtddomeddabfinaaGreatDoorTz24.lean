/-
  Parts of the proof: PaA.
-/
import Derived.Test.YtddomeddabfinaaGreatDoorTz00
import Derived.Defers
import Derived.Recover
import Derived.Laws.Pointers
import Derived.BigRegion
import Derived.WalkLawsBesides
import Derived.Test.YtddomeddabfinaaGreatDoorTz05
set_option maxRecDepth 100000
set_option maxHeartbeats 8000000
set_option linter.unusedVariables false
set_option linter.unusedSimpArgs false
set_option linter.unusedSectionVars false
namespace Go.Proofs.YtddomeddabfinaaGreatDoor
open Go.Proofs.Tryz
open Go.RowKit
theorem Ef {W0 w:World} {b0 b1 b2:Nat} {t0 t1 t2:TypeId} {x0 x1 y z:Value} (p0 p1 q r:Value) (hE:aq W0 w) (h0:aL w b0 t0 #[x0,x1]) (h1:aL w b1 t1 #[y]) (h2:aL w b2 t2 #[z])
  (l0:W0.heap.size<=b0) (l1:W0.heap.size<=b1) (l2:W0.heap.size<=b2) (n01:b0≠b1) (n02:b0≠b2) (n12:b1≠b2):
  aq W0 ((((w.setCell ⟨b0,0,none⟩ p0).setCell ⟨b0,1,none⟩ p1).setCell ⟨b1,0,none⟩ q).setCell ⟨b2,0,none⟩ r)/\aL ((((w.setCell ⟨b0,0,none⟩ p0).setCell ⟨b0,1,none⟩ p1).setCell ⟨b1,0,none⟩ q).setCell ⟨b2,0,none⟩ r) b0 t0 #[p0,p1]/\
   aL ((((w.setCell ⟨b0,0,none⟩ p0).setCell ⟨b0,1,none⟩ p1).setCell ⟨b1,0,none⟩ q).setCell ⟨b2,0,none⟩ r) b1 t1 #[q]/\aL ((((w.setCell ⟨b0,0,none⟩ p0).setCell ⟨b0,1,none⟩ p1).setCell ⟨b1,0,none⟩ q).setCell ⟨b2,0,none⟩ r) b2 t2 #[r]:=by
 refine⟨(((hE.set l0 _).set l0 _).set l1 _).set l2 _,?_,?_,?_⟩
 ·have:=(((h0.set 0 p0).set 1 p1).far (p:=⟨b1,0,none⟩) n01 q).far (p:=⟨b2,0,none⟩) n02 r;simpa using this
 ·have:=(((h1.far (p:=⟨b0,0,none⟩) (ff n01) p0).far (p:=⟨b0,1,none⟩) (ff n01) p1).set 0 q).far (p:=⟨b2,0,none⟩) n12 r;simpa using this
 ·have:=(((h2.far (p:=⟨b0,0,none⟩) (ff n02) p0).far (p:=⟨b0,1,none⟩) (ff n02) p1).far (p:=⟨b1,0,none⟩) (ff n12) q).set 0 r;simpa using this
theorem ou (p0 p1 p2:Value) (w:World):
  CallsD prog 59 #[p0,p1,p2] .returning w fun e u' w'=>e= .returned (.tuple #[])/\u'= .returning/\w'=w:=by
 refine callsD_of_wpS func59 rfl fun c₀ cs hu=> ?_;apply wpS_seq;apply wpS_region;simp[wpOpsS,go_sem,recoverD,hu,ntmps59,Exit.thenS];apply wpS_seq;apply wpS_region;simp[wpOpsS,go_sem,Exit.thenS];refine wpS_cond (t:=false) (by simp[Act.eval]) ?_;simp only[aN,if_false];refine wpS_of_wp (wp_skip ?_)
 cases c₀;simp_all[bodyPostS,results,results59]
theorem rL (W0 w:World) (b0 b1 b2:Nat) (x0 x1 y z:Value) (at_ n:Int) (older:List PanicEntry) (hE:aq W0 w) (h0:aL w b0 34 #[x0,x1]) (h1:aL w b1 3 #[y]) (h2:aL w b2 28 #[z])
  (l0:W0.heap.size<=b0) (l1:W0.heap.size<=b1) (l2:W0.heap.size<=b2) (n01:b0≠b1) (n02:b0≠b2) (n12:b1≠b2):
  CallsD prog 59 #[.pointer (some ⟨b0,0,none⟩), .pointer (some ⟨b1,0,none⟩), .pointer (some ⟨b2,0,none⟩)] (.panicking ({v:= .iface 151 (.agg #[.int .i64 at_, .int .i64 n]),recovered:=false}::older)) w fun e u' w'=>
   e= .returned (.tuple #[])/\u'= .panicking ({v:= .iface 151 (.agg #[.int .i64 at_, .int .i64 n]),recovered:=true}::older)/\
   aq W0 w'/\aL w' b0 34 #[.slice none 0 0, .slice none 0 0]/\aL w' b1 3 #[.int .i64 at_]/\aL w' b2 28 #[.int .i64 n]:=by
 have hx:=O w (.cells #[.int .i64 at_, .int .i64 n] 151);have hBw:=an w 151 #[.int .i64 at_, .int .i64 n];have HE:=G (hE.trans hx);have H0:=G (h0.ext hx);have H1:=G (h1.ext hx);have H2:=G (h2.ext hx);have HBw:=G hBw;have k0:b0≠w.heap.size:=fun e=>by have:=h0.lt;omega
 have k1:b1≠w.heap.size:=fun e=>by have:=h1.lt;omega
 have k2:b2≠w.heap.size:=fun e=>by have:=h2.lt;omega
 clear hx hBw hE h0 h1 h2;refine callsD_of_wpS func59 rfl fun c₀ cs hu=> ?_;apply wpS_seq;apply wpS_region;simp[wpOpsS,go_sem,recoverD,hu,ntmps59,Exit.thenS];have hT: ∀v a b c:Value,#[a,b,c]++((Array.replicate 19 undef).setIfInBounds 3 v).setIfInBounds 0 v= #[a,b,c,v,undef,undef,v,undef,undef,undef,undef,undef,undef,undef,undef,undef,undef,undef,undef,undef,undef,undef]:=by
  intro v a b c;apply jl;simp[gJ]
 rw[hT];clear hT;apply wpS_seq;apply wpS_region;simp[wpOpsS,go_sem,Exit.thenS];refine wpS_cond (t:=true) (by simp[Act.eval]) ?_;simp only[if_true];refine wpS_of_wp ?_;have hta: ∀(v:Value) (xT:TypeId) (w:World),(Instr.typeAssert (.iface 151 v) xT 151 true).run prog w= .ok (.tuple #[v, .bool true]) w:=fun v xT w=>by simp[Instr.typeAssert,run_underlying underlying151]
 go_wp2_with fail;clear hta;have hwb:w.heap.size≠b0/\w.heap.size≠b1/\w.heap.size≠b2:=⟨fun e=>k0 e.symm,fun e=>k1 e.symm,fun e=>k2 e.symm⟩
 obtain⟨m0,m1,m2⟩:=hwb;have hb:=HBw.out.cell;have c0:=H0.out.cell;have c1:=H1.out.cell;have c2:=H2.out.cell;have z0:=H0.out.frozen;have z1:=H1.out.frozen;have z2:=H2.out.frozen;generalize w.alloc (.cells #[.int .i64 at_, .int .i64 n] 151)=w5 at*;generalize w.heap.size=wb at*;go_region;have hfin:=Ef (.slice none 0 0) (.slice none 0 0) (.int .i64 at_) (.int .i64 n) HE.out H0.out H1.out H2.out l0 l1 l2 n01 n02 n12;refine⟨rfl,_,rfl, .tuple #[],?_,rfl,rfl,hfin.1.drew,hfin.2.1.drew,hfin.2.2.1.drew,hfin.2.2.2.drew⟩;simp[results,results59]
end Go.Proofs.YtddomeddabfinaaGreatDoor
