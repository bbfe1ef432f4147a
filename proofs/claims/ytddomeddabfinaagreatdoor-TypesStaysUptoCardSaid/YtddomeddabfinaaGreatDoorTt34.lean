/- Parts of the proof. -/
import Derived.Test.YtddomeddabfinaaGreatDoorTt00
import Derived.LaidLaws
import Derived.LaidHandle
import Derived.Handed
import Derived.Lay
import Derived.LaidOnce
import Derived.MakeChecks
import Derived.SevenTiedAt
import Derived.Lib.LaidU8
import Derived.Deep.Strs
import Derived.OpenShut
import Derived.ChangeAt
import Derived.Test.YtddomeddabfinaaGreatDoorTie
import Derived.Test.YtddomeddabfinaaGreatDoorCards
import Derived.Test.YtddomeddabfinaaGreatDoorTt33
set_option maxRecDepth 100000
set_option maxHeartbeats 8000000
set_option linter.unusedVariables false
set_option linter.unusedSimpArgs false
set_option linter.unusedSectionVars false
namespace Go.Proofs.YtddomeddabfinaaGreatDoor
open Go.Proofs.Tryz
open Go.ChangeShapes Go.WideShapes Go.RowKit Go.Deep
theorem qx {P:Program} {W:World} {a:String} {k:IntKind} {h:List Int} {g:Nat} {t e:TypeId} {n:Nat} (G:P.globalNamed a=some g) (o:(P.globals[g]?).map (·.type)=some t) (z:P.underlying t=some (.array n e)) (K:P.underlying e=some (.int k)) (R:P.cellsOf e=1) (O:P.cellsOf t=n)
  (V:Lib.VarReads P W a (Lib.tabData k h)):Lib.TabIs P W a k h:=by
 obtain⟨ab,X,ad,ac,p,A,w,j,M⟩:=V;obtain rfl:=I (G.symm.trans A);obtain rfl:=I (o.symm.trans w);unfold Lib.TabIs;rw[j,<-Lib.cells_of_tab z K R O M]
theorem p6 {P:Program} {o:World} {base h:Nat} {z:Nat->Bool} {M:Bool} {t:TypeId} {G:Array (String×TypeId)} (K:P.underlying t=some (.interface G)) {j:List Value} {x:DataW Unit×List MemPlace}
  (a:DataW.trod (λ_=>()) P o base z M h t j=some x): ∃ev,j=[ev]/\(ev=.nilIface\/ ∃w A,ev=.iface w A):=by
 cases h with
 |zero=>simp[DataW.trod]at a
 |succ n=>
  unfold DataW.trod at a;rw[K]at a;split at a<;>first|(simp_all;done)|skip
  all_goals first|exact⟨_,rfl,.inl rfl⟩|exact⟨_,rfl,.inr ⟨_,_,rfl⟩⟩|skip
theorem mN {P:Program} {W:World} {a:String} {d:DataW Unit} {g:Nat} {t:TypeId} {w:Array (String×TypeId)} (h:P.globalNamed a=some g) (A:(P.globals[g]?).map (·.type)=some t) (K:P.underlying t=some (.interface w)) (R:Lib.VarReads P W a d):
  ∃ev,W.cell? ⟨g,0,none⟩=some ev/\(ev=.nilIface\/ ∃j o,ev=.iface j o):=by
 obtain⟨ac,ab,ae,ad,p,M,G,z,O⟩:=R;obtain rfl:=I (h.symm.trans M);obtain rfl:=I (A.symm.trans G);obtain⟨ev,X,V⟩:=p6 K O;refine⟨ev,?_,V⟩;rw[World.var?_cell h z 0];have:=congrArg (λl=>l[0]?) X;simpa using this
theorem wK (s:ByteArray):J s.data.toList=s:=by
 apply j8;simp[J]
theorem Fx {O:World} {ab base:Nat} {R:Nat->Bool} {X:Bool} {G:List Value} {y:DataW Unit×List MemPlace} (I:DataW.trod (λ_=>()) prog O base R X ab 141 G=some y) (M b:List UInt8) (n:Int) (a:y.1=.agg [.lit (.string M),.lit (.int .i64 n),.lit (.string b)]):
  G=[.string (J M),.int .i64 n,.string (J b)]:=by
 have ah:prog.cellsOf 9=1:=Qb
 have ag:prog.cellsOf 3=1:=Qb
 have af:prog.cellsOf 141=3:=Qb
 obtain⟨al,ak,aj,m,V,K,o,j,h⟩:=trod_struct3 underlying141 I;rw[af]at K;simp only[ah,ag]at o j h
 match G,K with
 | [u0,u1,u2],_=>
  simp only[List.drop,List.take]at o j h;obtain⟨ao,A,ae,_⟩:=DataW.trod_string underlying9 o;obtain⟨ai,z,ad,_⟩:=DataW.trod_int underlying3 j;obtain⟨an,w,ac,_⟩:=DataW.trod_string underlying9 h;rw[V,ae,ad,ac]at a;simp only[DataW.agg.injEq,d_,DataW.lit.injEq,Lit.string.injEq,Lit.int.injEq,and_true,true_and]at a;obtain⟨rfl,rfl,rfl⟩:=a;rw[wK,wK];injection A with A _;injection z with z _;injection w with w _;rw[A,z,w]
theorem xw {α:Type}: ∀(n:Nat) (l:List α) (r:Nat->List α),l.length=n*3->(∀i,i<n->(l.drop (i*3)).take 3=r i)->l=(List.range n).flatMap r
 |0,l,r,hl,_=>by
  have:l=[]:=List.length_eq_zero_iff.1 Qa;rw[this];rfl
 |n+1,l,r,hl,h=>by
  have a:=h 0 Qa;rw[bp,au]at a
  have j:=xw n (l.drop 3) (λi=>r (i+1)) (by rw[bD];omega) (λi o=>by
   rw[eI,show 3+i*3=(i+1)*3 by omega]
   exact h (i+1) Qa)
  rw[kF,bx,<-a,List.flatMap_map];show l=l.take 3++(List.range n).flatMap (λi=>r (i+1));rw[<-j,dm]
theorem DF:(Rows.laid_ratoon_types_builtins:DataW Unit)=.agg (rC.map λx=> .agg [.lit (.string x.1),.lit (.int .i64 x.2.1),.lit (.string x.2.2)]):=Qb
theorem uo {W:World} (M:Lib.VarReads prog W "ratoon/types.builtins" Rows.laid_ratoon_types_builtins):BT W:=by
 rw[DF]at M;obtain⟨ah,af,h,ai,p,A,V,a,ac⟩:=M;obtain rfl:=I ((show prog.globalNamed "ratoon/types.builtins" =some 0 by kernel_rfl).symm.trans A);obtain rfl:=I ((show(prog.globals[0]?).map (·.type)=some 142 by kernel_rfl).symm.trans V);have ae:prog.cellsOf 141=3:=Qb
 have ad:prog.cellsOf 142=57:=Qb
 obtain⟨xs,m,_,R,w,ag,G⟩:=DataW.trod_array underlying142 ac;rw[ad]at w;simp only[ae]at G;have O:rC.map (λx=>(DataW.agg [.lit (.string x.1),.lit (.int .i64 x.2.1),.lit (.string x.2.2)]:DataW Unit))=xs.map (·.1):=by
  have:=congrArg Prod.fst R;simpa using this
 have X: ∀i,i<19->(h.toList.drop (i*3)).take 3=[.string (J (yY i).1),.int .i64 (yY i).2.1,.string (J (yY i).2.2)]:=λi hi=>by
  have K:=G i hi;have z:i<xs.length:=Qa
  rw[aO z]at K;refine Fx K _ _ _ ?_;have j:=congrArg (λl=>l[i]?) O;simp only[jJ]at j;rw[aO z,aO (show i<rC.length from hi)]at j;simp only[gL,gV]at j;rw[<-j];unfold yY;rw[show rC.getD i ([],0,[])=rC[i]'hi from by rw[ch,aO (show i<rC.length from hi)];rfl];rfl
 have o:h.toList=FC.toList:=(xw 19 h.toList _ w X).trans Qb;have o:h=FC:=by rw[<-Array.toList_inj];exact o
 subst o;unfold World.var? at a;rw[A]at a;simp only[gn]at a;split at a
 ·rename_i h t fr ab;injection a with a;subst a;exact⟨_,_,ab⟩
 ·cases a
theorem qw {W:World} {l:List (String×DataW Unit)} (h:laidMetH prog l W) (z:(l.all λx=>x.2.handleName?.isNone)=true) (O:("strconv.ErrSyntax",Rows.laid_strconv_ErrSyntax)∈l) (M:("strconv.ErrRange",Rows.laid_strconv_ErrRange)∈l)
  (K:("internal/strconv.uint64pow10",Rows.laid_internal_strconv_uint64pow10)∈l) (G:("ratoon/types.builtins",Rows.laid_ratoon_types_builtins)∈l):EZ W/\dP W W.heap.size/\BT W:=by
 rw[MakeChecks.laidMetH_plain _ _ _ z]at h;have w:=Lib.laidMet.reads h O;have o:=Lib.laidMet.reads h M;have j:=Lib.laidMet.reads h K;have A:=uo (Lib.laidMet.reads h G);have R:(Rows.laid_internal_strconv_uint64pow10:DataW Unit)=Lib.tabData .u64 Lib.pow10Tab:=Qb
 rw[R]at j;have a:=qx (g:=2) (t:=290) (e:=273) Qb Qb underlying290 underlying273 Qb Qb j;refine⟨⟨mN (g:=4) (t:=197) Qb Qb underlying197 w,mN (g:=5) (t:=197) Qb Qb underlying197 o⟩,⟨a,?_⟩,A⟩;unfold Lib.TabIs World.var? at a;rw[show prog.globalNamed "internal/strconv.uint64pow10" =some 2 by kernel_rfl]at a;simp only[gn]at a;by_cases hlt:2<W.heap.size
 ·exact hlt
 ·rw[fO Qa]at a
  cases a
end Go.Proofs.YtddomeddabfinaaGreatDoor
