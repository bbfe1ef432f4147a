/-
  It is proved that CodePrefix returns true for every file, every slice of results and every byte, and that the file and the results read afterwards as they did. There is no condition but that what it reads is of bulk at most 1048576, and that the listed package-level variables start as the program's text lays them, which the card ties to that text.
-/
import Derived.Test.YtoedmpgicdekmaaGreatDoorCq00
import Derived.Deep.DeepHandedRow
import Derived.Test.YtoedmpgicdekmaaGreatDoorCq21
import Derived.Test.YtoedmpgicdekmaaGreatDoorCq27
import Derived.Test.YtoedmpgicdekmaaGreatDoorCq42
set_option maxRecDepth 100000
set_option maxHeartbeats 8000000
set_option linter.unusedVariables false
set_option linter.unusedSimpArgs false
set_option linter.unusedSectionVars false
namespace Go.Proofs.YtoedmpgicdekmaaGreatDoor.lawCPrefix
open Go.Proofs.Tryz
open Go.ChangeShapes Go.WideShapes Go.ChangeAt Go.RowKit
open Go.ChangeMaps (open_string shut_string)
theorem own:ownKnob prog.godebug=none:=by kernel_rfl
theorem laidOut:laidOutB prog=true:=by kernel_rfl
theorem contract (H:Type) (enc:TypeId×Value->H) (W:World) (base:Nat) (args:Array Value) (ds gs:List (DataW H)) (before:List MemPlace)
  (hval0: ∀(j:Nat) t v,Tryz.f4.params[j]? =some t->args[j]? =some v->Value.okWide prog W .any base t v)
  (hW:DataW.Whole enc prog Tryz.f4.params.toList Rows.codePrefixSpec.vars false W args.toList ds gs before) (hk:Rows.uptoSmall H (ds++gs)=true) (hL:laidMetH prog Rows.codePrefixUptoRow.laid W):
  Calls prog 4 args W fun e W'=> ∃v,e= .returned v/\Rows.codePrefixSpec.post enc prog Tryz.f4 false true false false W args v W':=by
 obtain⟨hz,ht,hb⟩:=pj hL (by kernel_rfl) (.tail _ (.tail _ (.tail _ (.tail _ (.head _))))) (.tail _ (.tail _ (.tail _ (.head _)))) (.tail _ (.tail _ (.head _))) (.tail _ (.tail _ (.tail _ (.tail _ (.tail _ (.tail _ (.head _)))))));have hf:=um hL (by kernel_rfl) (.tail _ (.tail _ (.tail _ (.tail _ (.tail _ (.head _))))));have hval: ∀(j:Nat) t v,Tryz.f4.params[j]? =some t->args[j]? =some v->Value.okWide prog W .any base t v:=hval0;have hW':=hW;obtain⟨p,q,hA0,hV,rfl,hfz,hnd⟩:=hW;have hA:DataW.TrodAll enc prog W 0 (fun _=>true) true Tryz.f4.params.toList args.toList ds p:=hA0;rw[Tryz.params4]at hA hval;obtain⟨v0,vs0,d0,ds0,p0,q0,hargs,rfl,rfl,h0,r0⟩:=trodAll_cons hA;obtain⟨v1,vs1,d1,ds1,p1,q1,rfl,rfl,rfl,h1,r1⟩:=trodAll_cons r0;obtain⟨v2,vs2,d2,ds2,p2,q2,rfl,rfl,rfl,h2,r2⟩:=trodAll_cons r1;obtain⟨rfl,rfl,rfl⟩:=trodAll_nil r2;obtain rfl:args= #[v0,v1,v2]:=by cases args;simp_all
 obtain⟨rfl,rfl⟩:=trodVars_none hV;have k0:=h0;have lt0: ∀x∈p0,x.block<W.heap.size:=by obtain⟨m,hm⟩:=k0;exact DataW.trod_lt m _ _ _ hm
 have k1:=h1;have lt1: ∀x∈p1,x.block<W.heap.size:=by obtain⟨m,hm⟩:=k1;exact DataW.trod_lt m _ _ _ hm
 have k2:=h2;have lt2: ∀x∈p2,x.block<W.heap.size:=by obtain⟨m,hm⟩:=k2;exact DataW.trod_lt m _ _ _ hm
 have hk:=of_decide_eq_true hk;simp only[dH,Rows.uptoBulkAll]at hk;obtain⟨A0,B0,c0,e0,f0,rfl,s0,t0⟩:=wC (hval 0 43 v0 rfl rfl) h0;obtain⟨C1,q1,cc1,rfl⟩:=okWide_slice underlying44 (hval 1 44 v1 rfl rfl);obtain⟨m1,hm1⟩:=h1;obtain⟨R1,rr1,b1⟩:=qC hm1;have b1:R1.length+1<=Rows.uptoBulk d1:=b1;obtain⟨a2,rfl,rfl,rfl,w2⟩:=open_int underlying5 (hval 2 5 v2 rfl rfl) h2;clear hA0 hval0;refine(BU f0 R1 (by omega) a2 (bounds_u8 w2) _ W A0 B0 C1 c0 e0 q1 cc1 s0 t0 rr1 hz ht hb hf).mono fun e W' ⟨he,bel⟩=> ?_;subst he;exact⟨_,rfl,_,_,_,[],_,[],hW',trodAll_mk1 (shut_bool underlying4 _),(trodAll_cons_mk (Below.trod laidOut (by kernel_rfl) (of_decide_eq_true (by kernel_rfl)) k0 bel lt0) (trodAll_cons_mk (Below.trod laidOut (by kernel_rfl) (of_decide_eq_true (by kernel_rfl)) k1 bel lt1) (trodAll_cons_mk (Below.trod laidOut (by kernel_rfl) (of_decide_eq_true (by kernel_rfl)) k2 bel lt2) trodAll_mk0))),rfl,Below.frame bel _,fun h=>by cases h⟩
theorem reads (os:Os) {H:Type} (enc:TypeId×Value->H): ∃places,DataW.whole enc prog ((World.laidAll prog os Rows.codePrefixUptoRow.laid).forCall (fun _ _=>0) ⟨#[],#[.agg #[.slice none 0 0, .slice none 0 0, .int .i64 0, .int .i64 0], .slice none 0 0, .int .u8 0],[]⟩).memory Tryz.f4.params.toList Rows.codePrefixSpec.vars false (#[.agg #[.slice none 0 0, .slice none 0 0, .int .i64 0, .int .i64 0], .slice none 0 0, .int .u8 0]:Array Value).toList 8=some ([.agg [.nil, .nil, .lit (.int .i64 0), .lit (.int .i64 0)], .nil, .lit (.int .u8 0)],[],places):=
 ⟨[],by kernel_rfl⟩
theorem lifted (os:Os) (started:os.Started) (H:Type) (enc:TypeId×Value->H) (F:Stop.Interp):
  ReturnsInHanded {} Tryz.checked os 4 .any ((Rows.OpenSpec.upto Rows.codePrefixSpec).preRow enc prog Tryz.f4 Rows.codePrefixUptoRow.domain false Rows.codePrefixUptoRow.laid) (((Rows.OpenSpec.upto Rows.codePrefixSpec).at F).post enc prog Tryz.f4 false true false false):=by
 obtain⟨places,hx⟩:=reads os enc;refine returnsInHanded_of_row (C:=Tryz.checked) (s:=Rows.OpenSpec.upto Rows.codePrefixSpec) own started (by kernel_rfl) func4
  (witness_row_at (enc:=enc) (C:=Tryz.checked) false (World.laidAll prog os Rows.codePrefixUptoRow.laid) #[.agg #[.slice none 0 0, .slice none 0 0, .int .i64 0, .int .i64 0], .slice none 0 0, .int .u8 0] (World.laidAll_os _ _ _) (by kernel_rfl) (by kernel_rfl) (by kernel_rfl)
   (OpenSpec.preRow_of_cond 8 hx (by kernel_rfl) (fun k hk=>by cases hk;kernel_rfl) (by kernel_rfl) (by rw[MakeChecks.laidMetH_plain _ _ _ (by kernel_rfl)];exact laidMet_laidAll _ (by kernel_rfl) (by kernel_rfl)))) ?_
 intro W base args ds gs before hval hW _ hcond _ hL _ _;exact contract H enc W base args ds gs before hval hW (hcond _ rfl) hL
theorem over:Rows.codePrefixUptoRow.holds Tryz.pinned (Rows.OpenSpec.upto Rows.codePrefixSpec):=
 OpenClaim.holds_of_cond 4 Tryz.f4 rfl rfl rfl rfl rfl rfl rfl ⟨rfl,rfl,rfl,rfl,rfl⟩ rfl rfl rfl rfl rfl (by kernel_rfl) func4 (by kernel_rfl)
  (of_decide_eq_true (by kernel_rfl)) (by unfold Func.isWrapper;first|(rw[if_pos (by decide+kernel)];kernel_rfl)|(rw[if_neg (by decide+kernel)];exact⟨rfl,rfl⟩))
  (fun os started H enc _ F=>by rw[OpenClaim.pre_eq_preRow];exact lifted os started H enc F)
theorem proved:Rows.CodePrefixUptoCardSaid:=
 Claim7.holds_tied_plain_at .later [] _ _ _ _ over (fun _ h=>by cases h) (by kernel_rfl) (fun _ h=>by cases h) codePrefixUpto_row_tie rfl ⟨rfl,rfl⟩ (by kernel_rfl) rfl
  (fun f fn hf hfn=>by
   obtain rfl:f=4:=ai ((show prog.funcNamed "ratoon/ratoonlaw50.CodePrefix" =some 4 by kernel_rfl).symm.trans hf)|>.symm;obtain rfl:fn=Tryz.f4:=(ai (func4.symm.trans hfn)).symm
   exact⟨by kernel_rfl,fun j t ht=>by
    rw[Tryz.params4]at ht
    match j,ht with
    |0,ht=>
     obtain rfl:t=43:=by simpa using ht.symm
     exact(by kernel_rfl:prog.wantsStandIn 43=false)
    |1,ht=>
     obtain rfl:t=44:=by simpa using ht.symm
     exact(by kernel_rfl:prog.wantsStandIn 44=false)
    |2,ht=>
     obtain rfl:t=5:=by simpa using ht.symm
     exact(by kernel_rfl:prog.wantsStandIn 5=false)
    |j+3,ht=>simp at ht⟩)
  (by kernel_rfl)
#print axioms proved
end Go.Proofs.YtoedmpgicdekmaaGreatDoor.lawCPrefix
