/-
  Parts of the proof: TySm.
-/
import Derived.Test.YtddomeddabfinaaGreatDoorTu00
import Derived.ChangeKeysEq
import Derived.Test.YtddomeddabfinaaGreatDoorTu27
set_option maxRecDepth 100000
set_option maxHeartbeats 8000000
set_option linter.unusedVariables false
set_option linter.unusedSimpArgs false
set_option linter.unusedSectionVars false
namespace Go.Proofs.YtddomeddabfinaaGreatDoor
open Go.Proofs.Tryz
open Go.RowKit
theorem CU (a b c a' b' c':Int) (w:World):(Op.equalIn 10000 39 (.agg #[.int .i64 a, .int .i64 b, .int .i64 c]) (.agg #[.int .i64 a', .int .i64 b', .int .i64 c'])).run prog w= .ok ((a==a')&&((b==b')&&(c==c'))) w:=by
 obtain⟨i,hi⟩: ∃i,prog.info? 3=some i:=Option.isSome_iff_exists.1 (by kernel_rfl);have hp:prog.plainKey 3=true:=by kernel_rfl
 have hC:prog.cellsOf 3=1:=by kernel_rfl
 rw[show(10000:Nat)=9999+1 from rfl,run_equalIn_array w 9999 _ _ underlying39 hi,hC];have st: ∀(xs ys:Array Value) (j:Nat) (p q:Int) (is:List Nat),xs[j]? =some (.int .i64 p)->ys[j]? =some (.int .i64 q)->
   (Op.eqItems 9999 3 1 xs ys (j::is)).run prog w=if(p==q)then(Op.eqItems 9999 3 1 xs ys is).run prog w else .ok false w:=fun xs ys j p q is h1 h2=>by
  have p1:=run_part_plain w hp (off:=j*1) (xs:=xs) (by rw[jm];exact h1);have p2:=run_part_plain w hp (off:=j*1) (xs:=ys) (by rw[jm];exact h2);have p3:=run_equalIn_int w 9998 3 .i64 .i64 p q underlying3;simp only[Op.eqItems,Sem.run_bind,p1,p2,p3,Result.andThen_ok]
  cases p==q<;>simp
 show(Op.eqItems 9999 3 1 _ _ [0,1,2]).run prog w=_;rw[st _ _ 0 a a' _ rfl rfl,st _ _ 1 b b' _ rfl rfl,st _ _ 2 c c' _ rfl rfl]
 cases a==a'<;>cases b==b'<;>cases c==c'<;>simp[Op.eqItems]
theorem uB {a b:Bool} (h:a=b):Ending.returned (.bool a)= .returned (.bool b):=by rw[h]
end Go.Proofs.YtddomeddabfinaaGreatDoor
