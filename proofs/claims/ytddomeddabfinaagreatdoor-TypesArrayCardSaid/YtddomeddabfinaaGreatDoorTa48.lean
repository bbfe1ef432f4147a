/-
  It is proved that TypesArray returns true for every slice of bytes and every two numbers, and that the slice reads afterwards as it did. There is no condition but that the listed package-level variables start as the program's text lays them, which the card ties to that text.
-/
import Derived.Test.YtddomeddabfinaaGreatDoorTa00
import Derived.Deep.DeepHandedRow
import Derived.Test.YtddomeddabfinaaGreatDoorTa45
import Derived.Test.YtddomeddabfinaaGreatDoorTa46
import Derived.Test.YtddomeddabfinaaGreatDoorTa47
set_option maxRecDepth 100000
set_option maxHeartbeats 8000000
set_option linter.unusedVariables false
set_option linter.unusedSimpArgs false
set_option linter.unusedSectionVars false
namespace Go.Proofs.YtddomeddabfinaaGreatDoor.lawTArray
open Go.Proofs.Tryz
open Go.ChangeShapes Go.WideShapes Go.ChangeAt Go.RowKit
open Go.ChangeMaps (open_string shut_string)
theorem own:ownKnob prog.godebug=none:=by kernel_rfl
theorem laidOut:laidOutB prog=true:=by kernel_rfl
theorem contract (H:Type) (enc:TypeId×Value->H) (W:World) (base:Nat) (args:Array Value) (ds gs:List (DataW H)) (before:List MemPlace)
  (hval0: ∀(j:Nat) t v,Tryz.f8.params[j]? =some t->args[j]? =some v->Value.okWide prog W .any base t v)
  (hW:DataW.Whole enc prog Tryz.f8.params.toList Rows.typesArraySpec.vars false W args.toList ds gs before) (hL:laidMetH prog Rows.typesArrayRow.laid W):
  Calls prog 8 args W fun e W'=> ∃v,e= .returned v/\Rows.typesArraySpec.post enc prog Tryz.f8 false true false false W args v W':=by
 obtain⟨hz,ht,hb⟩:=ot hL (by kernel_rfl) (.tail _ (.tail _ (.tail _ (.tail _ (.head _))))) (.tail _ (.tail _ (.tail _ (.head _)))) (.tail _ (.tail _ (.head _))) (.tail _ (.tail _ (.tail _ (.tail _ (.tail _ (.head _))))));have hval: ∀(j:Nat) t v,Tryz.f8.params[j]? =some t->args[j]? =some v->Value.okWide prog W .any base t v:=hval0;have hW':=hW;obtain⟨p,q,hA0,hV,rfl,hfz,hnd⟩:=hW;have hA:DataW.TrodAll enc prog W 0 (fun _=>true) true Tryz.f8.params.toList args.toList ds p:=hA0;rw[Tryz.params8]at hA hval;obtain⟨v0,vs0,d0,ds0,p0,q0,hargs,rfl,rfl,h0,r0⟩:=trodAll_cons hA;obtain⟨v1,vs1,d1,ds1,p1,q1,rfl,rfl,rfl,h1,r1⟩:=trodAll_cons r0;obtain⟨v2,vs2,d2,ds2,p2,q2,rfl,rfl,rfl,h2,r2⟩:=trodAll_cons r1;obtain⟨rfl,rfl,rfl⟩:=trodAll_nil r2;obtain rfl:args= #[v0,v1,v2]:=by cases args;simp_all
 obtain⟨rfl,rfl⟩:=trodVars_none hV;have k0:=h0;have lt0: ∀x∈p0,x.block<W.heap.size:=by obtain⟨m,hm⟩:=k0;exact DataW.trod_lt m _ _ _ hm
 have k1:=h1;have lt1: ∀x∈p1,x.block<W.heap.size:=by obtain⟨m,hm⟩:=k1;exact DataW.trod_lt m _ _ _ hm
 have k2:=h2;have lt2: ∀x∈p2,x.block<W.heap.size:=by obtain⟨m,hm⟩:=k2;exact DataW.trod_lt m _ _ _ hm
 obtain⟨A0,c0,l0,rfl,s0⟩:=sh underlying40 underlying5 (by kernel_rfl) (hval 0 40 v0 rfl rfl) h0;obtain⟨a1,rfl,rfl,rfl,w1⟩:=open_int underlying82 (hval 1 82 v1 rfl rfl) h1;obtain⟨a2,rfl,rfl,rfl,w2⟩:=open_int underlying82 (hval 2 82 v2 rfl rfl) h2;clear hA0 hval0;refine(qo l0 A0 c0 a1 a2 (p6 w1).1 (p6 w1).2 (p6 w2).1 (p6 w2).2 W s0 hz ht hb).mono fun e W' ⟨he,bel⟩=> ?_;subst he;exact⟨_,rfl,_,_,_,[],_,[],hW',trodAll_mk1 (shut_bool underlying4 _),(trodAll_cons_mk (Below.trod laidOut (by kernel_rfl) (of_decide_eq_true (by kernel_rfl)) k0 bel lt0) (trodAll_cons_mk (Below.trod laidOut (by kernel_rfl) (of_decide_eq_true (by kernel_rfl)) k1 bel lt1) (trodAll_cons_mk (Below.trod laidOut (by kernel_rfl) (of_decide_eq_true (by kernel_rfl)) k2 bel lt2) trodAll_mk0))),rfl,Below.frame bel _,fun h=>by cases h⟩
theorem reads (os:Os) {H:Type} (enc:TypeId×Value->H): ∃places,DataW.whole enc prog ((World.laidAll prog os Rows.typesArrayRow.laid).forCall (fun _ _=>0) ⟨#[],#[.slice none 0 0, .int .i16 0, .int .i16 0],[]⟩).memory Tryz.f8.params.toList Rows.typesArraySpec.vars false (#[.slice none 0 0, .int .i16 0, .int .i16 0]:Array Value).toList 8=some ([.nil, .lit (.int .i16 0), .lit (.int .i16 0)],[],places):=
 ⟨[],by kernel_rfl⟩
theorem lifted (os:Os) (started:os.Started) (H:Type) (enc:TypeId×Value->H) (F:Stop.Interp):
  ReturnsInHanded {} Tryz.checked os 8 .any ((OpenSpec.ofChange Rows.typesArraySpec).preRow enc prog Tryz.f8 Rows.typesArrayRow.domain false Rows.typesArrayRow.laid) (((OpenSpec.ofChange Rows.typesArraySpec).at F).post enc prog Tryz.f8 false true false false):=by
 obtain⟨places,hx⟩:=reads os enc;refine returnsInHanded_of_row (C:=Tryz.checked) (s:=OpenSpec.ofChange Rows.typesArraySpec) own started (by kernel_rfl) func8
  (witness_row_at (enc:=enc) (C:=Tryz.checked) false (World.laidAll prog os Rows.typesArrayRow.laid) #[.slice none 0 0, .int .i16 0, .int .i16 0] (World.laidAll_os _ _ _) (by kernel_rfl) (by kernel_rfl) (by kernel_rfl)
   (OpenSpec.preRow_of_cond 8 hx (by kernel_rfl) (fun k hk=>by cases hk) (by kernel_rfl) (by rw[MakeChecks.laidMetH_plain _ _ _ (by kernel_rfl)];exact laidMet_laidAll _ (by kernel_rfl) (by kernel_rfl)))) ?_
 intro W base args ds gs before hval hW _ hcond _ hL _ _;exact contract H enc W base args ds gs before hval hW hL
theorem over:Rows.typesArrayRow.holds Tryz.pinned (OpenSpec.ofChange Rows.typesArraySpec):=
 OpenClaim.holds_of_cond 8 Tryz.f8 rfl rfl rfl rfl rfl rfl rfl ⟨rfl,rfl,rfl,rfl,rfl⟩ rfl rfl rfl rfl rfl (by kernel_rfl) func8 (by kernel_rfl)
  (of_decide_eq_true (by kernel_rfl)) (by unfold Func.isWrapper;first|(rw[if_pos (by decide+kernel)];kernel_rfl)|(rw[if_neg (by decide+kernel)];exact⟨rfl,rfl⟩))
  (fun os started H enc _ F=>by rw[OpenClaim.pre_eq_preRow];exact lifted os started H enc F)
theorem proved:Rows.TypesArrayCardSaid:=
 Claim7.holds_tied_plain_at .later [] _ _ _ _ over (fun _ h=>by cases h) (by kernel_rfl) (fun _ h=>by cases h) typesArray_row_tie rfl ⟨rfl,rfl⟩ (by kernel_rfl) rfl
  (fun f fn hf hfn=>by
   obtain rfl:f=8:=O ((show prog.funcNamed "ratoon/ratoonlaw49.TypesArray" =some 8 by kernel_rfl).symm.trans hf)|>.symm;obtain rfl:fn=Tryz.f8:=(O (func8.symm.trans hfn)).symm
   exact⟨by kernel_rfl,fun j t ht=>by
    rw[Tryz.params8]at ht
    match j,ht with
    |0,ht=>
     obtain rfl:t=40:=by simpa using ht.symm
     exact(by kernel_rfl:prog.wantsStandIn 40=false)
    |1,ht=>
     obtain rfl:t=82:=by simpa using ht.symm
     exact(by kernel_rfl:prog.wantsStandIn 82=false)
    |2,ht=>
     obtain rfl:t=82:=by simpa using ht.symm
     exact(by kernel_rfl:prog.wantsStandIn 82=false)
    |j+3,ht=>simp at ht⟩)
  (by kernel_rfl)
#print axioms proved
end Go.Proofs.YtddomeddabfinaaGreatDoor.lawTArray
