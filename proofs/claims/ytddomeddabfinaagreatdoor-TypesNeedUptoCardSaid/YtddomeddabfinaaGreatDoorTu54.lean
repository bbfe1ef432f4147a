/-
  It is proved that TypesNeed returns true for every program and every string, and that the program reads afterwards as it did. There is no condition but that what it reads is of bulk at most 1048576, and that the listed package-level variables start as the program's text lays them, which the card ties to that text.
-/
import Derived.Test.YtddomeddabfinaaGreatDoorTu00
import Derived.Deep.DeepHandedRow
import Derived.Test.YtddomeddabfinaaGreatDoorTu30
import Derived.Test.YtddomeddabfinaaGreatDoorTu36
import Derived.Test.YtddomeddabfinaaGreatDoorTu53
set_option maxRecDepth 100000
set_option maxHeartbeats 8000000
set_option linter.unusedVariables false
set_option linter.unusedSimpArgs false
set_option linter.unusedSectionVars false
namespace Go.Proofs.YtddomeddabfinaaGreatDoor.lawTNeed
open Go.Proofs.Tryz
open Go.ChangeShapes Go.WideShapes Go.ChangeAt Go.RowKit
open Go.ChangeMaps (open_string shut_string)
theorem own:ownKnob prog.godebug=none:=by kernel_rfl
theorem laidOut:laidOutB prog=true:=by kernel_rfl
theorem contract (H:Type) (enc:TypeId×Value->H) (W:World) (base:Nat) (args:Array Value) (ds gs:List (DataW H)) (before:List MemPlace)
  (hval0: ∀(j:Nat) t v,Tryz.f5.params[j]? =some t->args[j]? =some v->Value.okWide prog W .any base t v)
  (hW:DataW.Whole enc prog Tryz.f5.params.toList Rows.typesNeedSpec.vars false W args.toList ds gs before) (hk:Rows.uptoSmall H (ds++gs)=true) (hL:laidMetH prog Rows.typesNeedUptoRow.laid W):
  Calls prog 5 args W fun e W'=> ∃v,e= .returned v/\Rows.typesNeedSpec.post enc prog Tryz.f5 false true false false W args v W':=by
 obtain⟨hz,ht,hb⟩:=jY hL (by kernel_rfl) (.tail _ (.tail _ (.tail _ (.tail _ (.head _))))) (.tail _ (.tail _ (.tail _ (.head _)))) (.tail _ (.tail _ (.head _))) (.tail _ (.tail _ (.tail _ (.tail _ (.tail _ (.head _))))));have hval: ∀(j:Nat) t v,Tryz.f5.params[j]? =some t->args[j]? =some v->Value.okWide prog W .any base t v:=hval0;have hW':=hW;obtain⟨p,q,hA0,hV,rfl,hfz,hnd⟩:=hW;have hA:DataW.TrodAll enc prog W 0 (fun _=>true) true Tryz.f5.params.toList args.toList ds p:=hA0;rw[Tryz.params5]at hA hval;obtain⟨v0,vs0,d0,ds0,p0,q0,hargs,rfl,rfl,h0,r0⟩:=trodAll_cons hA;obtain⟨v1,vs1,d1,ds1,p1,q1,rfl,rfl,rfl,h1,r1⟩:=trodAll_cons r0;obtain⟨rfl,rfl,rfl⟩:=trodAll_nil r1;obtain rfl:args= #[v0,v1]:=by cases args;simp_all
 obtain⟨rfl,rfl⟩:=trodVars_none hV;have k0:=h0;have lt0: ∀x∈p0,x.block<W.heap.size:=by obtain⟨m,hm⟩:=k0;exact DataW.trod_lt m _ _ _ hm
 have k1:=h1;have lt1: ∀x∈p1,x.block<W.heap.size:=by obtain⟨m,hm⟩:=k1;exact DataW.trod_lt m _ _ _ hm
 have hk:=of_decide_eq_true hk;simp only[cO,Rows.uptoBulkAll]at hk;obtain⟨A0,B0,n0,c0,m0,e0,g0,rfl,rv0,rf0,b0⟩:=rZ (hval 0 25 v0 rfl rfl) h0;obtain⟨a1,rfl,rfl,rfl,w1⟩:=open_string underlying9 (hval 1 9 v1 rfl rfl) h1;clear hA0 hval0;refine(wJ g0 (by omega) a1 _ W A0 B0 n0 c0 m0 e0 rv0 rf0 hz ht hb).mono fun e W' ⟨he,bel⟩=> ?_;subst he;exact⟨_,rfl,_,_,_,[],_,[],hW',trodAll_mk1 (shut_bool underlying4 _),(trodAll_cons_mk (Below.trod laidOut (by kernel_rfl) (of_decide_eq_true (by kernel_rfl)) k0 bel lt0) (trodAll_cons_mk (Below.trod laidOut (by kernel_rfl) (of_decide_eq_true (by kernel_rfl)) k1 bel lt1) trodAll_mk0)),rfl,Below.frame bel _,fun h=>by cases h⟩
theorem reads (os:Os) {H:Type} (enc:TypeId×Value->H): ∃places,DataW.whole enc prog ((World.laidAll prog os Rows.typesNeedUptoRow.laid).forCall (fun _ _=>0) ⟨#[],#[.agg #[.slice none 0 0, .slice none 0 0], .string ⟨#[]⟩],[]⟩).memory Tryz.f5.params.toList Rows.typesNeedSpec.vars false (#[.agg #[.slice none 0 0, .slice none 0 0], .string ⟨#[]⟩]:Array Value).toList 8=some ([.agg [.nil, .nil], .lit (.string [])],[],places):=
 ⟨[],by kernel_rfl⟩
theorem lifted (os:Os) (started:os.Started) (H:Type) (enc:TypeId×Value->H) (F:Stop.Interp):
  ReturnsInHanded {} Tryz.checked os 5 .any ((Rows.OpenSpec.upto Rows.typesNeedSpec).preRow enc prog Tryz.f5 Rows.typesNeedUptoRow.domain false Rows.typesNeedUptoRow.laid) (((Rows.OpenSpec.upto Rows.typesNeedSpec).at F).post enc prog Tryz.f5 false true false false):=by
 obtain⟨places,hx⟩:=reads os enc;refine returnsInHanded_of_row (C:=Tryz.checked) (s:=Rows.OpenSpec.upto Rows.typesNeedSpec) own started (by kernel_rfl) func5
  (witness_row_at (enc:=enc) (C:=Tryz.checked) false (World.laidAll prog os Rows.typesNeedUptoRow.laid) #[.agg #[.slice none 0 0, .slice none 0 0], .string ⟨#[]⟩] (World.laidAll_os _ _ _) (by kernel_rfl) (by kernel_rfl) (by kernel_rfl)
   (OpenSpec.preRow_of_cond 8 hx (by kernel_rfl) (fun k hk=>by cases hk;kernel_rfl) (by kernel_rfl) (by rw[MakeChecks.laidMetH_plain _ _ _ (by kernel_rfl)];exact laidMet_laidAll _ (by kernel_rfl) (by kernel_rfl)))) ?_
 intro W base args ds gs before hval hW _ hcond _ hL _ _;exact contract H enc W base args ds gs before hval hW (hcond _ rfl) hL
theorem over:Rows.typesNeedUptoRow.holds Tryz.pinned (Rows.OpenSpec.upto Rows.typesNeedSpec):=
 OpenClaim.holds_of_cond 5 Tryz.f5 rfl rfl rfl rfl rfl rfl rfl ⟨rfl,rfl,rfl,rfl,rfl⟩ rfl rfl rfl rfl rfl (by kernel_rfl) func5 (by kernel_rfl)
  (of_decide_eq_true (by kernel_rfl)) (by unfold Func.isWrapper;first|(rw[if_pos (by decide+kernel)];kernel_rfl)|(rw[if_neg (by decide+kernel)];exact⟨rfl,rfl⟩))
  (fun os started H enc _ F=>by rw[OpenClaim.pre_eq_preRow];exact lifted os started H enc F)
theorem proved:Rows.TypesNeedUptoCardSaid:=
 Claim7.holds_tied_plain_at .later [] _ _ _ _ over (fun _ h=>by cases h) (by kernel_rfl) (fun _ h=>by cases h) typesNeedUpto_row_tie rfl ⟨rfl,rfl⟩ (by kernel_rfl) rfl
  (fun f fn hf hfn=>by
   obtain rfl:f=5:=aw ((show prog.funcNamed "ratoon/ratoonlaw49.TypesNeed" =some 5 by kernel_rfl).symm.trans hf)|>.symm;obtain rfl:fn=Tryz.f5:=(aw (func5.symm.trans hfn)).symm
   exact⟨by kernel_rfl,fun j t ht=>by
    rw[Tryz.params5]at ht
    match j,ht with
    |0,ht=>
     obtain rfl:t=25:=by simpa using ht.symm
     exact(by kernel_rfl:prog.wantsStandIn 25=false)
    |1,ht=>
     obtain rfl:t=9:=by simpa using ht.symm
     exact(by kernel_rfl:prog.wantsStandIn 9=false)
    |j+2,ht=>simp at ht⟩)
  (by kernel_rfl)
#print axioms proved
end Go.Proofs.YtddomeddabfinaaGreatDoor.lawTNeed
