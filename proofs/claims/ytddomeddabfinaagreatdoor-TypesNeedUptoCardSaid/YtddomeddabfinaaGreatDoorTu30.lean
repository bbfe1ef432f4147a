/-
  Parts of the proof: OpenTb.
-/
import Derived.Test.YtddomeddabfinaaGreatDoorTu00
import Derived.LaidLaws
import Derived.LaidHandle
import Derived.Handed
import Derived.Lay
import Derived.LaidOnce
import Derived.MakeChecks
import Derived.SevenTiedAt
import Derived.Lib.LaidU8
import Derived.Deep.Strs
import Derived.OpenShut
import Derived.ChangeAt
import Derived.Test.YtddomeddabfinaaGreatDoorTie
import Derived.Test.YtddomeddabfinaaGreatDoorCards
import Derived.Test.YtddomeddabfinaaGreatDoorTu29
set_option maxRecDepth 100000
set_option maxHeartbeats 8000000
set_option linter.unusedVariables false
set_option linter.unusedSimpArgs false
set_option linter.unusedSectionVars false
namespace Go.Proofs.YtddomeddabfinaaGreatDoor
open Go.Proofs.Tryz
open Go.ChangeShapes Go.WideShapes Go.RowKit Go.Deep
theorem mY {P:Program} {W:World} {name:String} {k:IntKind} {zs:List Int} {g:Nat} {t e:TypeId} {n:Nat} (hg:P.globalNamed name=some g) (hty:(P.globals[g]?).map (·.type)=some t) (ht:P.underlying t=some (.array n e)) (he:P.underlying e=some (.int k)) (hce:P.cellsOf e=1) (hct:P.cellsOf t=n)
  (h:Lib.VarReads P W name (Lib.tabData k zs)):Lib.TabIs P W name k zs:=by
 obtain⟨g',t',cs,fuel,p,hg',ht',hvar,hd⟩:=h;obtain rfl:=aw (hg.symm.trans hg');obtain rfl:=aw (hty.symm.trans ht');unfold Lib.TabIs;rw[hvar,<-Lib.cells_of_tab ht he hce hct hd]
theorem mJ {P:Program} {w:World} {base fuel:Nat} {sp:Nat->Bool} {hd:Bool} {t:TypeId} {ms:Array (String×TypeId)} (ht:P.underlying t=some (.interface ms)) {cs:List Value} {x:DataW Unit×List MemPlace}
  (h:DataW.trod (fun _=>()) P w base sp hd fuel t cs=some x): ∃ev,cs=[ev]/\(ev= .nilIface\/ ∃te pe,ev= .iface te pe):=by
 cases fuel with
 |zero=>simp[DataW.trod]at h
 |succ n=>
  unfold DataW.trod at h;rw[ht]at h;split at h<;>first|(simp_all;done)|skip
  all_goals first|exact⟨_,rfl, .inl rfl⟩|exact⟨_,rfl, .inr ⟨_,_,rfl⟩⟩|skip
theorem j6 {P:Program} {W:World} {name:String} {d:DataW Unit} {g:Nat} {t:TypeId} {ms:Array (String×TypeId)} (hg:P.globalNamed name=some g) (hty:(P.globals[g]?).map (·.type)=some t) (ht:P.underlying t=some (.interface ms)) (h:Lib.VarReads P W name d):
  ∃ev,W.cell? ⟨g,0,none⟩=some ev/\(ev= .nilIface\/ ∃te pe,ev= .iface te pe):=by
 obtain⟨g',t',cs,fuel,p,hg',ht',hvar,hd⟩:=h;obtain rfl:=aw (hg.symm.trans hg');obtain rfl:=aw (hty.symm.trans ht');obtain⟨ev,e1,e2⟩:=mJ ht hd;refine⟨ev,?_,e2⟩;rw[World.var?_cell hg hvar 0];have:=congrArg (fun l=>l[0]?) e1;simpa using this
theorem rL (s:ByteArray):ag s.data.toList=s:=by
 apply ic;simp[ag]
theorem zB {w:World} {fuel base:Nat} {sp:Nat->Bool} {hd:Bool} {cs:List Value} {y:DataW Unit×List MemPlace} (h:DataW.trod (fun _=>()) prog w base sp hd fuel 141 cs=some y) (a b:List UInt8) (n:Int) (hy:y.1= .agg [.lit (.string a), .lit (.int .i64 n), .lit (.string b)]):
  cs=[.string (ag a), .int .i64 n, .string (ag b)]:=by
 have c1:prog.cellsOf 9=1:=by kernel_rfl
 have c2:prog.cellsOf 3=1:=by kernel_rfl
 have c3:prog.cellsOf 141=3:=by kernel_rfl
 obtain⟨y0,y1,y2,m,hx,hl,h0,h1,h2⟩:=trod_struct3 underlying141 h;rw[c3]at hl;simp only[c1,c2]at h0 h1 h2
 match cs,hl with
 | [u0,u1,u2],_=>
  simp only[List.drop,List.take]at h0 h1 h2;obtain⟨s0,e0,f0,_⟩:=DataW.trod_string underlying9 h0;obtain⟨z,e1,f1,_⟩:=DataW.trod_int underlying3 h1;obtain⟨s2,e2,f2,_⟩:=DataW.trod_string underlying9 h2;rw[hx,f0,f1,f2]at hy;simp only[DataW.agg.injEq,List.cons.injEq,DataW.lit.injEq,Lit.string.injEq,Lit.int.injEq,and_true,true_and]at hy;obtain⟨rfl,rfl,rfl⟩:=hy;rw[rL,rL];injection e0 with e0 _;injection e1 with e1 _;injection e2 with e2 _;rw[e0,e1,e2]
theorem sq {α:Type}: ∀(n:Nat) (l:List α) (r:Nat->List α),l.length=n*3->(∀i,i<n->(l.drop (i*3)).take 3=r i)->l=(List.range n).flatMap r
 |0,l,r,hl,_=>by
  have:l=[]:=List.length_eq_zero_iff.1 (by omega);rw[this];rfl
 |n+1,l,r,hl,h=>by
  have h0:=h 0 (by omega);rw[aW,ap]at h0
  have h1:=sq n (l.drop 3) (fun i=>r (i+1)) (by rw[bJ];omega) (fun i hi=>by
   rw[dG,show 3+i*3=(i+1)*3 by omega]
   exact h (i+1) (by omega))
  rw[iO,bW,<-h0,List.flatMap_map];show l=l.take 3++(List.range n).flatMap (fun i=>r (i+1));rw[<-h1,bB]
theorem xv:(Rows.laid_ratoon_types_builtins:DataW Unit)= .agg (lN.map fun x=> .agg [.lit (.string x.1), .lit (.int .i64 x.2.1), .lit (.string x.2.2)]):=by kernel_rfl
theorem qd {W:World} (h:Lib.VarReads prog W "ratoon/types.builtins" Rows.laid_ratoon_types_builtins):BT W:=by
 rw[xv]at h;obtain⟨g',t',cs,fuel,p,hg',ht',hvar,hd⟩:=h;obtain rfl:=aw ((show prog.globalNamed "ratoon/types.builtins" =some 0 by kernel_rfl).symm.trans hg');obtain rfl:=aw ((show(prog.globals[0]?).map (·.type)=some 142 by kernel_rfl).symm.trans ht');have c3:prog.cellsOf 141=3:=by kernel_rfl
 have c4:prog.cellsOf 142=57:=by kernel_rfl
 obtain⟨xs,m,_,hx,hl,hn,hel⟩:=DataW.trod_array underlying142 hd;rw[c4]at hl;simp only[c3]at hel;have hxs:lN.map (fun x=>(DataW.agg [.lit (.string x.1), .lit (.int .i64 x.2.1), .lit (.string x.2.2)]:DataW Unit))=xs.map (·.1):=by
  have:=congrArg Prod.fst hx;simpa using this
 have hrow: ∀i,i<19->(cs.toList.drop (i*3)).take 3=[.string (ag (oR i).1), .int .i64 (oR i).2.1, .string (ag (oR i).2.2)]:=fun i hi=>by
  have h1:=hel i hi;have hi':i<xs.length:=by omega
  rw[aN hi']at h1;refine zB h1 _ _ _ ?_;have h2:=congrArg (fun l=>l[i]?) hxs;simp only[List.getElem?_map]at h2;rw[aN hi',aN (show i<lN.length from hi)]at h2;simp only[fW,Option.some.injEq]at h2;rw[<-h2];unfold oR;rw[show lN.getD i ([],0,[])=lN[i]'hi from by rw[bK,aN (show i<lN.length from hi)];rfl];rfl
 have hcs:cs.toList=zE.toList:=(sq 19 cs.toList _ hl hrow).trans (by kernel_rfl);have hcs:cs=zE:=by rw[<-Array.toList_inj];exact hcs
 subst hcs;unfold World.var? at hvar;rw[hg']at hvar;simp only[dY]at hvar;split at hvar
 ·rename_i cs t fr hh;injection hvar with hvar;subst hvar;exact⟨_,_,hh⟩
 ·cases hvar
theorem jY {W:World} {l:List (String×DataW Unit)} (h:laidMetH prog l W) (hp:(l.all fun x=>x.2.handleName?.isNone)=true) (h1:("strconv.ErrSyntax",Rows.laid_strconv_ErrSyntax)∈l) (h2:("strconv.ErrRange",Rows.laid_strconv_ErrRange)∈l)
  (h3:("internal/strconv.uint64pow10",Rows.laid_internal_strconv_uint64pow10)∈l) (h4:("ratoon/types.builtins",Rows.laid_ratoon_types_builtins)∈l):EZ W/\dn W W.heap.size/\BT W:=by
 rw[MakeChecks.laidMetH_plain _ _ _ hp]at h;have r1:=Lib.laidMet.reads h h1;have r2:=Lib.laidMet.reads h h2;have r3:=Lib.laidMet.reads h h3;have hb:=qd (Lib.laidMet.reads h h4);have e3:(Rows.laid_internal_strconv_uint64pow10:DataW Unit)=Lib.tabData .u64 Lib.pow10Tab:=by kernel_rfl
 rw[e3]at r3;have ht:=mY (g:=2) (t:=290) (e:=273) (by kernel_rfl) (by kernel_rfl) underlying290 underlying273 (by kernel_rfl) (by kernel_rfl) r3;refine⟨⟨j6 (g:=4) (t:=197) (by kernel_rfl) (by kernel_rfl) underlying197 r1,j6 (g:=5) (t:=197) (by kernel_rfl) (by kernel_rfl) underlying197 r2⟩,⟨ht,?_⟩,hb⟩;unfold Lib.TabIs World.var? at ht;rw[show prog.globalNamed "internal/strconv.uint64pow10" =some 2 by kernel_rfl]at ht;simp only[dY]at ht;by_cases hlt:2<W.heap.size
 ·exact hlt
 ·rw[ee (by omega)]at ht
  cases ht
end Go.Proofs.YtddomeddabfinaaGreatDoor
