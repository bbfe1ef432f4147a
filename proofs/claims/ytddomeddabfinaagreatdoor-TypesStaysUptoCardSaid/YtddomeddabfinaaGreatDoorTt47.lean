/-
  It is proved that TypesStays returns true for every program and every slice of results, and that both read afterwards as they did. There is no condition but that what it reads is of bulk at most 1048576, and that the listed package-level variables start as the program's text lays them, which the card ties to that text.
-/
import Derived.Test.YtddomeddabfinaaGreatDoorTt00
import Derived.Deep.DeepHandedRow
import Derived.Test.YtddomeddabfinaaGreatDoorTt34
import Derived.Test.YtddomeddabfinaaGreatDoorTt42
import Derived.Test.YtddomeddabfinaaGreatDoorTt46
set_option maxRecDepth 100000
set_option maxHeartbeats 8000000
set_option linter.unusedVariables false
set_option linter.unusedSimpArgs false
set_option linter.unusedSectionVars false
namespace Go.Proofs.YtddomeddabfinaaGreatDoor.lawTStays
open Go.Proofs.Tryz
open Go.ChangeShapes Go.WideShapes Go.ChangeAt Go.RowKit
open Go.ChangeMaps (open_string shut_string)
theorem own:ownKnob prog.godebug=none:=Qb
theorem laidOut:laidOutB prog=true:=Qb
theorem contract (H:Type) (enc:TypeId×Value->H) (W:World) (base:Nat) (args:Array Value) (w ad:List (DataW H)) (aI:List MemPlace)
  (R: ∀(a:Nat) t v,Tryz.f9.params[a]? =some t->args[a]? =some v->Value.okWide prog W .any base t v)
  (V:DataW.Whole enc prog Tryz.f9.params.toList Rows.typesStaysSpec.vars false W args.toList w ad aI) (o:Rows.uptoSmall H (w++ad)=true) (aB:laidMetH prog Rows.typesStaysUptoRow.laid W):
  Calls prog 9 args W λe af=> ∃v,e=.returned v/\Rows.typesStaysSpec.post enc prog Tryz.f9 false true false false W args v af:=by
 obtain⟨au,av,ay⟩:=qw aB Qb (.tail _ (.tail _ (.tail _ (.tail _ (.head _))))) (.tail _ (.tail _ (.tail _ (.head _)))) (.tail _ (.tail _ (.head _))) (.tail _ (.tail _ (.tail _ (.tail _ (.tail _ (.head _))))));have h: ∀(a:Nat) t v,Tryz.f9.params[a]? =some t->args[a]? =some v->Value.okWide prog W .any base t v:=R;have az:=V;obtain⟨p,q,X,aA,rfl,aR,aQ⟩:=V;have I:DataW.TrodAll enc prog W 0 (λ_=>true) true Tryz.f9.params.toList args.toList w p:=X;rw[Tryz.params9]at I h;obtain⟨G,aN,aV,aU,an,aO,aS,rfl,rfl,ac,al⟩:=trodAll_cons I;obtain⟨A,aM,aF,aT,J,K,rfl,rfl,rfl,ab,ak⟩:=trodAll_cons al;obtain⟨rfl,rfl,rfl⟩:=trodAll_nil ak;obtain rfl:args= #[G,A]:=by cases args;simp_all
 obtain⟨rfl,rfl⟩:=trodVars_none aA;have O:=ac;have ar: ∀x∈an,x.block<W.heap.size:=by obtain⟨m,j⟩:=O;exact DataW.trod_lt m _ _ _ j
 have M:=ab;have aq: ∀x∈J,x.block<W.heap.size:=by obtain⟨m,j⟩:=M;exact DataW.trod_lt m _ _ _ j
 have o:=of_decide_eq_true o;simp only[cT,Rows.uptoBulkAll]at o;obtain⟨aL,aK,ao,aH,ap,aE,aD,rfl,ah,aj,aW⟩:=C7 (h 0 25 G rfl rfl) ac;obtain⟨aJ,K,aG,rfl⟩:=okWide_slice underlying37 (h 1 37 A rfl rfl);obtain⟨aP,aw⟩:=ab;obtain⟨ag,ai,ae⟩:=sk aw;have ae:ag.length+1<=Rows.uptoBulk aF:=ae;clear X R;refine(E0 aD Qa ag Qa _ W aL aK aJ ao aH ap aE K aG ah aj ai au av ay).mono λe af ⟨ax,z⟩=> ?_;subst ax;exact⟨_,rfl,_,_,_,[],_,[],az,trodAll_mk1 (shut_bool underlying4 _),(trodAll_cons_mk (Below.trod laidOut Qb (of_decide_eq_true Qb) O z ar) (trodAll_cons_mk (Below.trod laidOut Qb (of_decide_eq_true Qb) M z aq) trodAll_mk0)),rfl,Below.frame z _,λaC=>by cases aC⟩
theorem reads (h:Os) {H:Type} (enc:TypeId×Value->H): ∃a,DataW.whole enc prog ((World.laidAll prog h Rows.typesStaysUptoRow.laid).forCall (λ_ _=>0) ⟨#[],#[.agg #[.slice none 0 0,.slice none 0 0],.slice none 0 0],[]⟩).memory Tryz.f9.params.toList Rows.typesStaysSpec.vars false (#[.agg #[.slice none 0 0,.slice none 0 0],.slice none 0 0]:Array Value).toList 8=some ([.agg [.nil,.nil],.nil],[],a):=
 ⟨[],by kernel_rfl⟩
theorem lifted (a:Os) (h:a.Started) (H:Type) (enc:TypeId×Value->H) (F:Stop.Interp):
  ReturnsInHanded {} Tryz.checked a 9 .any ((Rows.OpenSpec.upto Rows.typesStaysSpec).preRow enc prog Tryz.f9 Rows.typesStaysUptoRow.domain false Rows.typesStaysUptoRow.laid) (((Rows.OpenSpec.upto Rows.typesStaysSpec).at F).post enc prog Tryz.f9 false true false false):=by
 obtain⟨R,j⟩:=reads a enc;refine returnsInHanded_of_row (C:=Tryz.checked) (s:=Rows.OpenSpec.upto Rows.typesStaysSpec) own h Qb func9
  (witness_row_at (enc:=enc) (C:=Tryz.checked) false (World.laidAll prog a Rows.typesStaysUptoRow.laid) #[.agg #[.slice none 0 0,.slice none 0 0],.slice none 0 0] (World.laidAll_os _ _ _) Qb Qb Qb
   (OpenSpec.preRow_of_cond 8 j Qb (λk w=>by cases w;kernel_rfl) Qb (by rw[MakeChecks.laidMetH_plain _ _ _ Qb];exact laidMet_laidAll _ Qb Qb))) ?_
 intro W base args M K O o A _ z _ G _ _;exact contract H enc W base args M K O o A (z _ rfl) G
theorem over:Rows.typesStaysUptoRow.holds Tryz.pinned (Rows.OpenSpec.upto Rows.typesStaysSpec):=
 OpenClaim.holds_of_cond 9 Tryz.f9 rfl rfl rfl rfl rfl rfl rfl ⟨rfl,rfl,rfl,rfl,rfl⟩ rfl rfl rfl rfl rfl Qb func9 Qb
  (of_decide_eq_true Qb) (by unfold Func.isWrapper;first|(rw[if_pos Qj];kernel_rfl)|(rw[if_neg Qj];exact⟨rfl,rfl⟩))
  (λh a H enc _ F=>by rw[OpenClaim.pre_eq_preRow];exact lifted h a H enc F)
theorem proved:Rows.TypesStaysUptoCardSaid:=
 Claim7.holds_tied_plain_at .later [] _ _ _ _ over (λ_ h=>by cases h) Qb (λ_ h=>by cases h) typesStaysUpto_row_tie rfl ⟨rfl,rfl⟩ Qb rfl
  (λf fn w o=>by
   obtain rfl:f=9:=I ((show prog.funcNamed "ratoon/ratoonlaw49.TypesStays" =some 9 by kernel_rfl).symm.trans w)|>.symm;obtain rfl:fn=Tryz.f9:=(I (func9.symm.trans o)).symm
   exact⟨by kernel_rfl,λj t a=>by
    rw[Tryz.params9]at a
    match j,a with
    |0,a=>
     obtain rfl:t=25:=by simpa using a.symm
     exact(by kernel_rfl:prog.wantsStandIn 25=false)
    |1,a=>
     obtain rfl:t=37:=by simpa using a.symm
     exact(by kernel_rfl:prog.wantsStandIn 37=false)
    |j+2,a=>simp at a⟩)
  Qb
#print axioms proved
end Go.Proofs.YtddomeddabfinaaGreatDoor.lawTStays
