/-
  It is proved that CodeSource returns true for every string. There is no condition but that the listed package-level variables start as the program's text lays them, which the card ties to that text.
-/
import Derived.Deep.DeepHandedRow
import Derived.Test.YtoedmpgicdekmaaGreatDoorCo45
set_option maxRecDepth 100000
set_option maxHeartbeats 8000000
set_option linter.all false
namespace Go.Proofs.YtoedmpgicdekmaaGreatDoor.lawCSource
open Go.Proofs.Tryz
open Go.ChangeShapes Go.WideShapes Go.ChangeAt Go.RowKit
open Go.ChangeMaps (open_string shut_string)
theorem own:ownKnob prog.godebug=none:=Qb
theorem laidOut:laidOutB prog=true:=Qb
theorem contract (V:Type) (enc:TypeId×Value->V) (W:World) (base:Nat) (args:Array Value) (F al:List (DataW V)) (am:List MemPlace)
  (h: ∀(j:Nat) t v,Tryz.f6.params[j]? =some t->args[j]? =some v->Value.okWide prog W .any base t v)
  (u:DataW.Whole enc prog Tryz.f6.params.toList Rows.codeSourceSpec.vars false W args.toList F al am) (w:laidMetH prog Rows.codeSourceRow.laid W):
  Calls prog 6 args W λe R=> ∃v,e=.returned v/\Rows.codeSourceSpec.post enc prog Tryz.f6 false true false false W args v R:=by
 obtain⟨H,ad,ah⟩:=rE w Qb (.tail _ (.tail _ (.tail _ (.tail _ (.head _))))) (.tail _ (.tail _ (.tail _ (.head _)))) (.tail _ (.tail _ (.head _))) (.tail _ (.tail _ (.tail _ (.tail _ (.tail _ (.tail _ (.head _)))))));have af:=xz w Qb (.tail _ (.tail _ (.tail _ (.tail _ (.tail _ (.head _))))));have o: ∀(j:Nat) t v,Tryz.f6.params[j]? =some t->args[j]? =some v->Value.okWide prog W .any base t v:=h;have ai:=u;obtain⟨p,q,y,aj,rfl,aq,ap⟩:=u;have z:DataW.TrodAll enc prog W 0 (λ_=>true) true Tryz.f6.params.toList args.toList F p:=y;rw[Tryz.params6]at z o;obtain⟨a,an,av,au,aa,ao,ar,rfl,rfl,A,X⟩:=trodAll_cons z;obtain⟨rfl,rfl,rfl⟩:=trodAll_nil X;obtain rfl:args= #[a]:=by cases args;simp_all
 obtain⟨rfl,rfl⟩:=trodVars_none aj;have d:=A;have I: ∀x∈aa,x.block<W.heap.size:=by obtain⟨m,ae⟩:=d;exact DataW.trod_lt m _ _ _ ae
 obtain⟨a0,rfl,rfl,rfl,w0⟩:=open_string underlying9 (o 0 9 a rfl rfl) A;clear y h;refine(DX a0 W H ad ah af).mono λe R ⟨ag,G⟩=> ?_;subst ag;exact⟨_,rfl,_,_,_,[],_,[],ai,trodAll_mk1 (shut_bool underlying4 _),(trodAll_cons_mk (Below.trod laidOut Qb (of_decide_eq_true Qb) d G I) trodAll_mk0),rfl,Below.frame G _,λZ=>by cases Z⟩
theorem reads (d:Os) {h:Type} (enc:TypeId×Value->h): ∃a,DataW.whole enc prog ((World.laidAll prog d Rows.codeSourceRow.laid).forCall (λ_ _=>0) ⟨#[],#[.string ⟨#[]⟩],[]⟩).memory Tryz.f6.params.toList Rows.codeSourceSpec.vars false (#[.string ⟨#[]⟩]:Array Value).toList 8=some ([.lit (.string [])],[],a):=
 ⟨[],by kernel_rfl⟩
theorem lifted (a:Os) (h:a.Started) (d:Type) (enc:TypeId×Value->d) (R:Stop.Interp):
  ReturnsInHanded {} Tryz.checked a 6 .any ((OpenSpec.ofChange Rows.codeSourceSpec).preRow enc prog Tryz.f6 Rows.codeSourceRow.domain false Rows.codeSourceRow.laid) (((OpenSpec.ofChange Rows.codeSourceSpec).at R).post enc prog Tryz.f6 false true false false):=by
 obtain⟨V,o⟩:=reads a enc;refine returnsInHanded_of_row (C:=Tryz.checked) (s:=OpenSpec.ofChange Rows.codeSourceSpec) own h Qb func6
  (witness_row_at (enc:=enc) (C:=Tryz.checked) false (World.laidAll prog a Rows.codeSourceRow.laid) #[.string ⟨#[]⟩] (World.laidAll_os _ _ _) Qb Qb Qb
   (OpenSpec.preRow_of_cond 8 o Qb (λk w=>by cases w) Qb (by rw[MakeChecks.laidMetH_plain _ _ _ Qb];exact laidMet_laidAll _ Qb Qb))) ?_
 intro W base args F A G u y _ X _ z _ _;exact contract d enc W base args F A G u y z
theorem over:Rows.codeSourceRow.holds Tryz.pinned (OpenSpec.ofChange Rows.codeSourceSpec):=
 OpenClaim.holds_of_cond 6 Tryz.f6 rfl rfl rfl rfl rfl rfl rfl ⟨rfl,rfl,rfl,rfl,rfl⟩ rfl rfl rfl rfl rfl Qb func6 Qb
  (of_decide_eq_true Qb) (by unfold Func.isWrapper;first|(rw[if_pos Ql];kernel_rfl)|(rw[if_neg Ql];exact⟨rfl,rfl⟩))
  (λd a h enc _ o=>by rw[OpenClaim.pre_eq_preRow];exact lifted d a h enc o)
theorem proved:Rows.CodeSourceCardSaid:=
 Claim7.holds_tied_plain_at .later [] _ _ _ _ over (λ_ d=>by cases d) Qb (λ_ d=>by cases d) codeSource_row_tie rfl ⟨rfl,rfl⟩ Qb rfl
  (λf fn o h=>by
   obtain rfl:f=6:=I ((show prog.funcNamed "ratoon/ratoonlaw50.CodeSource" =some 6 by kernel_rfl).symm.trans o)|>.symm;obtain rfl:fn=Tryz.f6:=(I (func6.symm.trans h)).symm
   exact⟨by kernel_rfl,λj t a=>by
    rw[Tryz.params6]at a
    match j,a with
    |0,a=>
     obtain rfl:t=9:=by simpa using a.symm
     exact(by kernel_rfl:prog.wantsStandIn 9=false)
    |j+1,a=>simp at a⟩)
  Qb
#print axioms proved
end Go.Proofs.YtoedmpgicdekmaaGreatDoor.lawCSource
