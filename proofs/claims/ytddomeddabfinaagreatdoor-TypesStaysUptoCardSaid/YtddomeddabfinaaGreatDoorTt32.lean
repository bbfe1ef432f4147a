/- Parts of the proof. -/
import Derived.Test.YtddomeddabfinaaGreatDoorTt00
import Derived.ChangeKeysEq
import Derived.Test.YtddomeddabfinaaGreatDoorTt31
set_option maxRecDepth 100000
set_option maxHeartbeats 8000000
set_option linter.unusedVariables false
set_option linter.unusedSimpArgs false
set_option linter.unusedSectionVars false
namespace Go.Proofs.YtddomeddabfinaaGreatDoor
open IntKind(i64)
open Go.Proofs.Tryz
open Go.RowKit
theorem Ik (A b c z w o:Int) (a:World):(Op.equalIn 10000 39 (.agg #[.int i64 A,.int i64 b,.int i64 c]) (.agg #[.int i64 z,.int i64 w,.int i64 o])).run prog a=.ok ((A==z)&&((b==w)&&(c==o))) a:=by
 obtain⟨i,V⟩: ∃i,prog.info? 3=some i:=Option.isSome_iff_exists.1 Qb;have K:prog.plainKey 3=true:=Qb
 have X:prog.cellsOf 3=1:=Qb
 rw[show(10000:Nat)=9999+1 from rfl,run_equalIn_array a 9999 _ _ underlying39 V,X];have st: ∀(xs j:Array Value) (h:Nat) (p q:Int) (G:List Nat),xs[h]? =some (.int i64 p)->j[h]? =some (.int i64 q)->
   (Op.eqItems 9999 3 1 xs j (h::G)).run prog a=if(p==q)then(Op.eqItems 9999 3 1 xs j G).run prog a else .ok false a:=λxs j h p q G ab I=>by
  have R:=run_part_plain a K (off:=h*1) (xs:=xs) (by rw[lI];exact ab);have O:=run_part_plain a K (off:=h*1) (xs:=j) (by rw[lI];exact I);have M:=run_equalIn_int a 9998 3 i64 i64 p q underlying3;simp only[Op.eqItems,Sem.run_bind,R,O,M,Result.andThen_ok]
  cases p==q<;>simp
 show(Op.eqItems 9999 3 1 _ _ [0,1,2]).run prog a=_;rw[st _ _ 0 A z _ rfl rfl,st _ _ 1 b w _ rfl rfl,st _ _ 2 c o _ rfl rfl]
 cases A==z<;>cases b==w<;>cases c==o<;>simp[Op.eqItems]
theorem xr {a:World} {j:Option Addr} {h n:Nat} {l:List UInt8} (o:l.length=n) (w:Sl a j h l):(Go.convert 40 9 (.slice j n h)).run prog a=.ok (.string (J l)) a:=by
 subst o;exact w.convert underlying40 underlying5 underlying9
theorem pL {a b:Bool} (h:a=b):Ending.returned (.bool a)=.returned (.bool b):=by rw[h]
def GQ (x:Oc) (v:Value) (w:World):Prop:= ∃A c,v=Cd x A c/\Sl w A c x.data
def tA (x y:Oc):Bool:=(x.kind==y.kind)&&((x.call==y.call)&&(((x.a0==y.a0)&&((x.a1==y.a1)&&(x.a2==y.a2)))&&((x.data==y.data)&&(x.used==y.used))))
theorem pH (x:Oc):tA x x=true:=by unfold tA;simp
theorem pI (x y:Oc) (u v:Value) (a:World) (aD:GQ x u a) (aC:GQ y v a):Calls prog 20 #[u,v] a λe w'=>e=.returned (.bool (tA x y))/\az a w':=by
 obtain⟨ah,af,rfl,al⟩:=aD;obtain⟨ag,ae,rfl,ak⟩:=aC;obtain⟨xs,ab,V,R,M,K,G⟩:=x;obtain⟨X,I,A,z,w,o,j⟩:=y;simp only[Cd]at al ak⊢;have ad:az a ((a.alloc (.cells #[.int i64 xs,.int i64 ab,.int i64 V,.int i64 R,.int i64 M,.slice ah K.length af,.int i64 (G:Int)] 47)).alloc (.cells #[.int i64 X,.int i64 I,.int i64 A,.int i64 z,.int i64 w,.slice ag o.length ae,.int i64 (j:Int)] 47)):=(Z a _).alloc' _;have aP:=((aw a 47 #[.int i64 xs,.int i64 ab,.int i64 V,.int i64 R,.int i64 M,.slice ah K.length af,.int i64 (G:Int)]).alloc (.cells #[.int i64 X,.int i64 I,.int i64 A,.int i64 z,.int i64 w,.slice ag o.length ae,.int i64 (j:Int)] 47)).cell;have aO:=(aw (a.alloc (.cells #[.int i64 xs,.int i64 ab,.int i64 V,.int i64 R,.int i64 M,.slice ah K.length af,.int i64 (G:Int)] 47)) 47 #[.int i64 X,.int i64 I,.int i64 A,.int i64 z,.int i64 w,.slice ag o.length ae,.int i64 (j:Int)]).cell;have aM:=xr rfl (al.ext ad);have aL:=xr rfl (ak.ext ad);obtain⟨ax,aG⟩: ∃t,(xs==X)=t:=⟨_,rfl⟩
 obtain⟨av,aF⟩: ∃t,(ab==I)=t:=⟨_,rfl⟩
 obtain⟨aK,aq⟩: ∃t,(V==A)=t:=⟨_,rfl⟩
 obtain⟨aJ,ap⟩: ∃t,(R==z)=t:=⟨_,rfl⟩
 obtain⟨aI,ao⟩: ∃t,(M==w)=t:=⟨_,rfl⟩
 have aB:=Ik V R M A z w ((a.alloc (.cells #[.int i64 xs,.int i64 ab,.int i64 V,.int i64 R,.int i64 M,.slice ah K.length af,.int i64 (G:Int)] 47)).alloc (.cells #[.int i64 X,.int i64 I,.int i64 A,.int i64 z,.int i64 w,.slice ag o.length ae,.int i64 (j:Int)] 47));rw[aq,ap,ao]at aB;obtain⟨au,an⟩: ∃t,(aK&&(aJ&&aI))=t:=⟨_,rfl⟩
 rw[an]at aB;obtain⟨aj,ay⟩: ∃t,(K==o)=t:=⟨_,rfl⟩
 have aN:decide (J K=J o)=aj:=by rw[<-ay,gM,decide_eq_true_iff,beq_iff_eq];exact⟨λar=>by simpa using congrArg ByteArray.toList ar,λar=>by rw[ar]⟩
 obtain⟨ai,aE⟩: ∃t,(((G:Nat):Int)==(j:Int))=t:=⟨_,rfl⟩
 have aA:tA ⟨xs,ab,V,R,M,K,G⟩ ⟨X,I,A,z,w,o,j⟩=(ax&&(av&&(au&&(aj&&ai)))):=by
  have aH:(G==j)=ai:=by rw[<-aE,gM,beq_iff_eq,beq_iff_eq];omega
  unfold tA;simp only[aG,aF,aq,ap,ao,an,ay,aH]
 rw[aA];have ac:=O ad;clear al ak ad aA;go_enter func20,ntmps20
 cases ax
 ·go_wp2_with fail;all_goals (go_ret;exact⟨pL (by simp_all),ac.out⟩)
 cases av
 ·go_wp2_with fail;all_goals (go_ret;exact⟨pL (by simp_all),ac.out⟩)
 clear an aq ap ao
 cases au
 ·go_wp2_with fail;go_ret;exact⟨pL Qd,ac.out⟩
 cases aj
 ·go_wp2_with fail;all_goals (go_ret;exact⟨pL (by simp_all),ac.out⟩)
 cases ai
 ·go_wp2_with fail;all_goals (go_ret;exact⟨pL (by simp_all),ac.out⟩)
 go_wp2_with fail;go_ret;exact⟨pL Qd,ac.out⟩
theorem kQ (x:Oc) (u:Value) (G:World) (X:GQ x u G):Calls prog 21 #[u] G λe w'=>e=.returned u/\az G w':=by
 obtain⟨M,K,rfl,V⟩:=X;obtain⟨xs,o,A,z,w,j,a⟩:=x;simp only[Cd]at V⊢;have ac:=O ((Z G (.cells #[.int i64 xs,.int i64 o,.int i64 A,.int i64 z,.int i64 w,.slice M j.length K,.int i64 (a:Int)] 42)).alloc' (.cells #[.int i64 xs,.int i64 o,.int i64 A,.int i64 z,.int i64 w,.slice M j.length K,.int i64 (a:Int)] 47));have R:=aw (G.alloc (.cells #[.int i64 xs,.int i64 o,.int i64 A,.int i64 z,.int i64 w,.slice M j.length K,.int i64 (a:Int)] 42)) 47 #[.int i64 xs,.int i64 o,.int i64 A,.int i64 z,.int i64 w,.slice M j.length K,.int i64 (a:Int)];rw[World.size_alloc]at R;have I:=R.cell;clear V R;go_enter func21,ntmps21;go_wp2_with fail;have ab:=ac.out;refine bodyPost_ret (v:=.agg #[.int i64 xs,.int i64 o,.int i64 A,.int i64 z,.int i64 w,.slice M j.length K,.int i64 (a:Int)]) ?_ rfl ⟨rfl,ab⟩;simp[results,results21,go_sem,I]
end Go.Proofs.YtddomeddabfinaaGreatDoor
