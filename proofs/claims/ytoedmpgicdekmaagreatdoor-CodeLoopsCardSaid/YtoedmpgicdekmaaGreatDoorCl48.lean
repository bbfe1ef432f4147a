/-
  It is proved that CodeLoops returns true for every byte. There is no condition but that the listed package-level variables start as the program's text lays them, which the card ties to that text.
-/
import Derived.Test.YtoedmpgicdekmaaGreatDoorCl00
import Derived.Deep.DeepHandedRow
import Derived.Test.YtoedmpgicdekmaaGreatDoorCl23
import Derived.Test.YtoedmpgicdekmaaGreatDoorCl47
set_option maxRecDepth 100000
set_option maxHeartbeats 8000000
set_option linter.unusedVariables false
set_option linter.unusedSimpArgs false
set_option linter.unusedSectionVars false
namespace Go.Proofs.YtoedmpgicdekmaaGreatDoor.lawCLoops
open Go.Proofs.Tryz
open Go.ChangeShapes Go.WideShapes Go.ChangeAt Go.RowKit
open Go.ChangeMaps (open_string shut_string)
theorem own:ownKnob prog.godebug=none:=Qb
theorem laidOut:laidOutB prog=true:=Qb
theorem contract (I:Type) (enc:TypeId×Value->I) (W:World) (base:Nat) (args:Array Value) (F af:List (DataW I)) (ag:List MemPlace)
  (h: ∀(j:Nat) t v,Tryz.f5.params[j]? =some t->args[j]? =some v->Value.okWide prog W .any base t v)
  (u:DataW.Whole enc prog Tryz.f5.params.toList Rows.codeLoopsSpec.vars false W args.toList F af ag) (w:laidMetH prog Rows.codeLoopsRow.laid W):
  Calls prog 5 args W λe H=> ∃v,e= .returned v/\Rows.codeLoopsSpec.post enc prog Tryz.f5 false true false false W args v H:=by
 obtain⟨R,V,ab⟩:=qW w Qb (.tail _ (.tail _ (.tail _ (.tail _ (.head _))))) (.tail _ (.tail _ (.tail _ (.head _)))) (.tail _ (.tail _ (.head _))) (.tail _ (.tail _ (.tail _ (.tail _ (.tail _ (.tail _ (.head _)))))));have Z:=wH w Qb (.tail _ (.tail _ (.tail _ (.tail _ (.tail _ (.head _))))));have o: ∀(j:Nat) t v,Tryz.f5.params[j]? =some t->args[j]? =some v->Value.okWide prog W .any base t v:=h;have ac:=u;obtain⟨p,q,y,ad,rfl,ak,aj⟩:=u;have z:DataW.TrodAll enc prog W 0 (λ_=>true) true Tryz.f5.params.toList args.toList F p:=y;rw[Tryz.params5]at z o;obtain⟨a,ah,an,am,K,ai,al,rfl,rfl,A,J⟩:=trodAll_cons z;obtain⟨rfl,rfl,rfl⟩:=trodAll_nil J;obtain rfl:args= #[a]:=by cases args;simp_all
 obtain⟨rfl,rfl⟩:=trodVars_none ad;have d:=A;have M: ∀x∈K,x.block<W.heap.size:=by obtain⟨m,X⟩:=d;exact DataW.trod_lt m _ _ _ X
 obtain⟨a0,rfl,rfl,rfl,w0⟩:=open_int underlying5 (o 0 5 a rfl rfl) A;clear y h;refine(yM a0 (bounds_u8 w0).1 (by have:=(bounds_u8 w0).2;omega) W R V ab Z).mono λe H ⟨aa,G⟩=> ?_;subst aa;exact⟨_,rfl,_,_,_,[],_,[],ac,trodAll_mk1 (shut_bool underlying4 _),(trodAll_cons_mk (Below.trod laidOut Qb (of_decide_eq_true Qb) d G M) trodAll_mk0),rfl,Below.frame G _,λae=>by cases ae⟩
theorem reads (d:Os) {h:Type} (enc:TypeId×Value->h): ∃a,DataW.whole enc prog ((World.laidAll prog d Rows.codeLoopsRow.laid).forCall (λ_ _=>0) ⟨#[],#[.int .u8 0],[]⟩).memory Tryz.f5.params.toList Rows.codeLoopsSpec.vars false (#[.int .u8 0]:Array Value).toList 8=some ([.lit (.int .u8 0)],[],a):=
 ⟨[],by kernel_rfl⟩
theorem lifted (a:Os) (h:a.Started) (d:Type) (enc:TypeId×Value->d) (H:Stop.Interp):
  ReturnsInHanded {} Tryz.checked a 5 .any ((OpenSpec.ofChange Rows.codeLoopsSpec).preRow enc prog Tryz.f5 Rows.codeLoopsRow.domain false Rows.codeLoopsRow.laid) (((OpenSpec.ofChange Rows.codeLoopsSpec).at H).post enc prog Tryz.f5 false true false false):=by
 obtain⟨I,o⟩:=reads a enc;refine returnsInHanded_of_row (C:=Tryz.checked) (s:=OpenSpec.ofChange Rows.codeLoopsSpec) own h Qb func5
  (witness_row_at (enc:=enc) (C:=Tryz.checked) false (World.laidAll prog a Rows.codeLoopsRow.laid) #[.int .u8 0] (World.laidAll_os _ _ _) Qb Qb Qb
   (OpenSpec.preRow_of_cond 8 o Qb (λk w=>by cases w) Qb (by rw[MakeChecks.laidMetH_plain _ _ _ Qb];exact laidMet_laidAll _ Qb Qb))) ?_
 intro W base args F A G u y _ J _ z _ _;exact contract d enc W base args F A G u y z
theorem over:Rows.codeLoopsRow.holds Tryz.pinned (OpenSpec.ofChange Rows.codeLoopsSpec):=
 OpenClaim.holds_of_cond 5 Tryz.f5 rfl rfl rfl rfl rfl rfl rfl ⟨rfl,rfl,rfl,rfl,rfl⟩ rfl rfl rfl rfl rfl Qb func5 Qb
  (of_decide_eq_true Qb) (by unfold Func.isWrapper;first|(rw[if_pos Qk];kernel_rfl)|(rw[if_neg Qk];exact⟨rfl,rfl⟩))
  (λd a h enc _ o=>by rw[OpenClaim.pre_eq_preRow];exact lifted d a h enc o)
theorem proved:Rows.CodeLoopsCardSaid:=
 Claim7.holds_tied_plain_at .later [] _ _ _ _ over (λ_ d=>by cases d) Qb (λ_ d=>by cases d) codeLoops_row_tie rfl ⟨rfl,rfl⟩ Qb rfl
  (λf fn o h=>by
   obtain rfl:f=5:=ab ((show prog.funcNamed "ratoon/ratoonlaw50.CodeLoops" =some 5 by kernel_rfl).symm.trans o)|>.symm;obtain rfl:fn=Tryz.f5:=(ab (func5.symm.trans h)).symm
   exact⟨by kernel_rfl,λj t a=>by
    rw[Tryz.params5]at a
    match j,a with
    |0,a=>
     obtain rfl:t=5:=by simpa using a.symm
     exact(by kernel_rfl:prog.wantsStandIn 5=false)
    |j+1,a=>simp at a⟩)
  Qb
#print axioms proved
end Go.Proofs.YtoedmpgicdekmaaGreatDoor.lawCLoops
