/-
  Parts of the proof: OpenTb CpA OpenFm TyNu TyLg.
-/
import Derived.Test.YtddomeddabfinaaGreatDoorTz00
import Derived.LaidLaws
import Derived.LaidHandle
import Derived.Handed
import Derived.Lay
import Derived.LaidOnce
import Derived.MakeChecks
import Derived.SevenTiedAt
import Derived.Lib.LaidU8
import Derived.Deep.Strs
import Derived.OpenShut
import Derived.ChangeAt
import Derived.Test.YtddomeddabfinaaGreatDoorTie
import Derived.Test.YtddomeddabfinaaGreatDoorCards
import Derived.Test.YtddomeddabfinaaGreatDoorTz33
import Derived.BigRegion
import Derived.WalkLawsBesides
import Derived.Test.YtddomeddabfinaaGreatDoorTz18
set_option maxRecDepth 100000
set_option maxHeartbeats 8000000
set_option linter.unusedVariables false
set_option linter.unusedSimpArgs false
set_option linter.unusedSectionVars false
namespace Go.Proofs.YtddomeddabfinaaGreatDoor
open Go.Proofs.Tryz
section
open Go.ChangeShapes Go.WideShapes Go.RowKit Go.Deep
theorem oN {P:Program} {W:World} {name:String} {k:IntKind} {zs:List Int} {g:Nat} {t e:TypeId} {n:Nat} (hg:P.globalNamed name=some g) (hty:(P.globals[g]?).map (·.type)=some t) (ht:P.underlying t=some (.array n e)) (he:P.underlying e=some (.int k)) (hce:P.cellsOf e=1) (hct:P.cellsOf t=n)
  (h:Lib.VarReads P W name (Lib.tabData k zs)):Lib.TabIs P W name k zs:=by
 obtain⟨g',t',cs,fuel,p,hg',ht',hvar,hd⟩:=h;obtain rfl:=Z (hg.symm.trans hg');obtain rfl:=Z (hty.symm.trans ht');unfold Lib.TabIs;rw[hvar,<-Lib.cells_of_tab ht he hce hct hd]
theorem oe {P:Program} {w:World} {base fuel:Nat} {sp:Nat->Bool} {hd:Bool} {t:TypeId} {ms:Array (String×TypeId)} (ht:P.underlying t=some (.interface ms)) {cs:List Value} {x:DataW Unit×List MemPlace}
  (h:DataW.trod (fun _=>()) P w base sp hd fuel t cs=some x): ∃ev,cs=[ev]/\(ev= .nilIface\/ ∃te pe,ev= .iface te pe):=by
 cases fuel with
 |zero=>simp[DataW.trod]at h
 |succ n=>
  unfold DataW.trod at h;rw[ht]at h;split at h<;>first|(simp_all;done)|skip
  all_goals first|exact⟨_,rfl, .inl rfl⟩|exact⟨_,rfl, .inr ⟨_,_,rfl⟩⟩|skip
theorem kY {P:Program} {W:World} {name:String} {d:DataW Unit} {g:Nat} {t:TypeId} {ms:Array (String×TypeId)} (hg:P.globalNamed name=some g) (hty:(P.globals[g]?).map (·.type)=some t) (ht:P.underlying t=some (.interface ms)) (h:Lib.VarReads P W name d):
  ∃ev,W.cell? ⟨g,0,none⟩=some ev/\(ev= .nilIface\/ ∃te pe,ev= .iface te pe):=by
 obtain⟨g',t',cs,fuel,p,hg',ht',hvar,hd⟩:=h;obtain rfl:=Z (hg.symm.trans hg');obtain rfl:=Z (hty.symm.trans ht');obtain⟨ev,e1,e2⟩:=oe ht hd;refine⟨ev,?_,e2⟩;rw[World.var?_cell hg hvar 0];have:=congrArg (fun l=>l[0]?) e1;simpa using this
theorem xZ {n:Int} (h:(Lit.int .i32 n).wf=true):eO n:=by
 simp[Lit.wf,IntKind.min,IntKind.max,IntKind.signed,IntKind.bits]at h;unfold eO;omega
theorem p6 (s:ByteArray):ai s.data.toList=s:=by
 apply kT;simp[ai]
theorem Ck {w:World} {fuel base:Nat} {sp:Nat->Bool} {hd:Bool} {cs:List Value} {y:DataW Unit×List MemPlace} (h:DataW.trod (fun _=>()) prog w base sp hd fuel 141 cs=some y) (a b:List UInt8) (n:Int) (hy:y.1= .agg [.lit (.string a), .lit (.int .i64 n), .lit (.string b)]):
  cs=[.string (ai a), .int .i64 n, .string (ai b)]:=by
 have c1:prog.cellsOf 9=1:=by kernel_rfl
 have c2:prog.cellsOf 3=1:=by kernel_rfl
 have c3:prog.cellsOf 141=3:=by kernel_rfl
 obtain⟨y0,y1,y2,m,hx,hl,h0,h1,h2⟩:=trod_struct3 underlying141 h;rw[c3]at hl;simp only[c1,c2]at h0 h1 h2
 match cs,hl with
 | [u0,u1,u2],_=>
  simp only[List.drop,List.take]at h0 h1 h2;obtain⟨s0,e0,f0,_⟩:=DataW.trod_string underlying9 h0;obtain⟨z,e1,f1,_⟩:=DataW.trod_int underlying3 h1;obtain⟨s2,e2,f2,_⟩:=DataW.trod_string underlying9 h2;rw[hx,f0,f1,f2]at hy;simp only[DataW.agg.injEq,cO,DataW.lit.injEq,Lit.string.injEq,Lit.int.injEq,and_true,true_and]at hy;obtain⟨rfl,rfl,rfl⟩:=hy;rw[p6,p6];injection e0 with e0 _;injection e1 with e1 _;injection e2 with e2 _;rw[e0,e1,e2]
theorem uq {α:Type}: ∀(n:Nat) (l:List α) (r:Nat->List α),l.length=n*3->(∀i,i<n->(l.drop (i*3)).take 3=r i)->l=(List.range n).flatMap r
 |0,l,r,hl,_=>by
  have:l=[]:=List.length_eq_zero_iff.1 (by omega);rw[this];rfl
 |n+1,l,r,hl,h=>by
  have h0:=h 0 (by omega);rw[a8,ap]at h0
  have h1:=uq n (l.drop 3) (fun i=>r (i+1)) (by rw[bm];omega) (fun i hi=>by
   rw[dh,show 3+i*3=(i+1)*3 by omega]
   exact h (i+1) (by omega))
  rw[ji,bO,<-h0,List.flatMap_map];show l=l.take 3++(List.range n).flatMap (fun i=>r (i+1));rw[<-h1,cw]
theorem Aj:(Rows.laid_ratoon_types_builtins:DataW Unit)= .agg (pF.map fun x=> .agg [.lit (.string x.1), .lit (.int .i64 x.2.1), .lit (.string x.2.2)]):=by kernel_rfl
theorem rN {W:World} (h:Lib.VarReads prog W "ratoon/types.builtins" Rows.laid_ratoon_types_builtins):BT W:=by
 rw[Aj]at h;obtain⟨g',t',cs,fuel,p,hg',ht',hvar,hd⟩:=h;obtain rfl:=Z ((show prog.globalNamed "ratoon/types.builtins" =some 0 by kernel_rfl).symm.trans hg');obtain rfl:=Z ((show(prog.globals[0]?).map (·.type)=some 142 by kernel_rfl).symm.trans ht');have c3:prog.cellsOf 141=3:=by kernel_rfl
 have c4:prog.cellsOf 142=57:=by kernel_rfl
 obtain⟨xs,m,_,hx,hl,hn,hel⟩:=DataW.trod_array underlying142 hd;rw[c4]at hl;simp only[c3]at hel;have hxs:pF.map (fun x=>(DataW.agg [.lit (.string x.1), .lit (.int .i64 x.2.1), .lit (.string x.2.2)]:DataW Unit))=xs.map (·.1):=by
  have:=congrArg Prod.fst hx;simpa using this
 have hrow: ∀i,i<19->(cs.toList.drop (i*3)).take 3=[.string (ai (v7 i).1), .int .i64 (v7 i).2.1, .string (ai (v7 i).2.2)]:=fun i hi=>by
  have h1:=hel i hi;have hi':i<xs.length:=by omega
  rw[aI hi']at h1;refine Ck h1 _ _ _ ?_;have h2:=congrArg (fun l=>l[i]?) hxs;simp only[fS]at h2;rw[aI hi',aI (show i<pF.length from hi)]at h2;simp only[fG,ip]at h2;rw[<-h2];unfold v7;rw[show pF.getD i ([],0,[])=pF[i]'hi from by rw[bB,aI (show i<pF.length from hi)];rfl];rfl
 have hcs:cs.toList=Co.toList:=(uq 19 cs.toList _ hl hrow).trans (by kernel_rfl);have hcs:cs=Co:=by rw[<-Array.toList_inj];exact hcs
 subst hcs;unfold World.var? at hvar;rw[hg']at hvar;simp only[em]at hvar;split at hvar
 ·rename_i cs t fr hh;injection hvar with hvar;subst hvar;exact⟨_,_,hh⟩
 ·cases hvar
theorem oM {W:World} {l:List (String×DataW Unit)} (h:laidMetH prog l W) (hp:(l.all fun x=>x.2.handleName?.isNone)=true) (h1:("strconv.ErrSyntax",Rows.laid_strconv_ErrSyntax)∈l) (h2:("strconv.ErrRange",Rows.laid_strconv_ErrRange)∈l)
  (h3:("internal/strconv.uint64pow10",Rows.laid_internal_strconv_uint64pow10)∈l) (h4:("ratoon/types.builtins",Rows.laid_ratoon_types_builtins)∈l):EZ W/\du W W.heap.size/\BT W:=by
 rw[MakeChecks.laidMetH_plain _ _ _ hp]at h;have r1:=Lib.laidMet.reads h h1;have r2:=Lib.laidMet.reads h h2;have r3:=Lib.laidMet.reads h h3;have hb:=rN (Lib.laidMet.reads h h4);have e3:(Rows.laid_internal_strconv_uint64pow10:DataW Unit)=Lib.tabData .u64 Lib.pow10Tab:=by kernel_rfl
 rw[e3]at r3;have ht:=oN (g:=2) (t:=290) (e:=273) (by kernel_rfl) (by kernel_rfl) underlying290 underlying273 (by kernel_rfl) (by kernel_rfl) r3;refine⟨⟨kY (g:=4) (t:=197) (by kernel_rfl) (by kernel_rfl) underlying197 r1,kY (g:=5) (t:=197) (by kernel_rfl) (by kernel_rfl) underlying197 r2⟩,⟨ht,?_⟩,hb⟩;unfold Lib.TabIs World.var? at ht;rw[show prog.globalNamed "internal/strconv.uint64pow10" =some 2 by kernel_rfl]at ht;simp only[em]at ht;by_cases hlt:2<W.heap.size
 ·exact hlt
 ·rw[dF (by omega)]at ht
  cases ht
end
section
open Go.RowKit
def Bj:List (List UInt8×Bool×Bool×Bool×Bool×Bool):=
 [([],false,false,false,false,false),([115,101,116],true,false,false,true,false),([104,105,103,104],true,false,false,true,false),([112,108,117,115],true,true,true,false,true),
  ([97,100,100],true,true,true,false,false),([115,117,98],true,true,true,false,false),([109,117,108],true,true,true,false,false),([100,105,118],true,true,true,false,false),
  ([114,101,109],true,true,true,false,false),([97,110,100],true,true,true,false,false),([111,114],true,true,true,false,false),([120,111,114],true,true,true,false,false),
  ([108,101,115,115],true,true,true,false,false),([115,97,109,101],true,true,true,false,false),([108,111,97,100],true,true,true,false,true),([115,116,111,114,101],true,true,true,false,true),
  ([108,111,97,100,98,121,116,101],true,true,true,false,true),([115,116,111,114,101,98,121,116,101],true,true,true,false,true),([106,117,109,112],false,false,false,true,false),([122,101,114,111],true,false,false,true,false),
  ([99,97,108,108],true,false,false,true,false),([98,97,99,107],true,false,false,false,false),([115,121,115,116,101,109],false,false,false,false,false)]
def yd:Array Value:=(Bj.flatMap fun x=>[.string (ai x.1), .bool x.2.1, .bool x.2.2.1, .bool x.2.2.2.1, .bool x.2.2.2.2.1, .bool x.2.2.2.2.2]).toArray
def ic (n:Nat):List UInt8×Bool×Bool×Bool×Bool×Bool:=Bj.getD n ([],false,false,false,false,false)
def FT (w:World):Prop:= ∃t fr,w.heap[1]? =some (.cells yd t fr)
theorem FT.ext {w w':World} (h:FT w) (he:aq w w'):FT w':=let⟨t,fr,h⟩:=h;⟨t,fr,(he.obj (Array.getElem?_eq_some_iff.1 h).1).trans h⟩
theorem Dh: ∀(n:Nat),n<23->yd[n*6]? =some (.string (ai (ic n).1))/\yd[n*6+1]? =some (.bool (ic n).2.1)/\yd[n*6+2]? =some (.bool (ic n).2.2.1)/\yd[n*6+3]? =some (.bool (ic n).2.2.2.1)/\yd[n*6+4]? =some (.bool (ic n).2.2.2.2.1)/\yd[n*6+5]? =some (.bool (ic n).2.2.2.2.2):=by
 intro n hn
 iterate 23 (rcases n with _|n;(exact⟨by kernel_rfl,by kernel_rfl,by kernel_rfl,by kernel_rfl,by kernel_rfl,by kernel_rfl⟩))
 omega
theorem FT.row {w:World} (h:FT w) (n:Nat) (hn:n<23):w.cell? ⟨1,n*6,none⟩=some (.string (ai (ic n).1))/\w.cell? ⟨1,n*6+1,none⟩=some (.bool (ic n).2.1)/\w.cell? ⟨1,n*6+2,none⟩=some (.bool (ic n).2.2.1)/\w.cell? ⟨1,n*6+3,none⟩=some (.bool (ic n).2.2.2.1)/\w.cell? ⟨1,n*6+4,none⟩=some (.bool (ic n).2.2.2.2.1)/\w.cell? ⟨1,n*6+5,none⟩=some (.bool (ic n).2.2.2.2.2):=by
 obtain⟨t,fr,h⟩:=h;have hc: ∀i,w.cell? ⟨1,i,none⟩=yd[i]? :=fun i=>cell_of_row w _ i yd t fr h;simp only[hc];exact Dh n hn
theorem qb (n:Int) (u:Bool) (w:World):Calls prog 149 #[.int .i64 n, .bool u] w fun e w'=>e= .returned (.bool (n==0||(u&&decide (0<n)&&decide (n<16))))/\w=w':=by
 by_cases h0:n=0
 ·subst h0;go_enter func149,ntmps149;go_wp2_with fail;go_ret;exact⟨rfl,rfl⟩
 have h1:(n==0)=false:=beq_eq_false_iff_ne.2 h0
 cases u<;>by_cases h2:0<n<;>by_cases h3:n<16;all_goals
  go_enter func149,ntmps149;go_wp2_with fail;go_ret;exact⟨by simp[h1,h2,h3],rfl⟩
end
section
open Go.ChangeShapes Go.WideShapes Go.RowKit Go.Deep
theorem pU {P:Program} {w:World} {fuel base:Nat} {sp:Nat->Bool} {hd:Bool} {t:TypeId} {f0 f1 f2 f3 f4 f5:Field} {cs:List Value} {x:DataW Unit×List MemPlace} (ht:P.underlying t=some (.struct #[f0,f1,f2,f3,f4,f5])) (h:DataW.trod (fun _=>()) P w base sp hd fuel t cs=some x):
  ∃(y0 y1 y2 y3 y4 y5:DataW Unit×List MemPlace) (n:Nat),x.1= .agg [y0.1,y1.1,y2.1,y3.1,y4.1,y5.1]/\cs.length=P.cellsOf t/\DataW.trod (fun _=>()) P w base sp hd n f0.type ((cs.drop f0.offset).take (P.cellsOf f0.type))=some y0/\DataW.trod (fun _=>()) P w base sp hd n f1.type ((cs.drop f1.offset).take (P.cellsOf f1.type))=some y1/\
   DataW.trod (fun _=>()) P w base sp hd n f2.type ((cs.drop f2.offset).take (P.cellsOf f2.type))=some y2/\DataW.trod (fun _=>()) P w base sp hd n f3.type ((cs.drop f3.offset).take (P.cellsOf f3.type))=some y3/\DataW.trod (fun _=>()) P w base sp hd n f4.type ((cs.drop f4.offset).take (P.cellsOf f4.type))=some y4/\DataW.trod (fun _=>()) P w base sp hd n f5.type ((cs.drop f5.offset).take (P.cellsOf f5.type))=some y5:=by
 obtain⟨xs,n,_,rfl,hl,hlen,hf⟩:=DataW.trod_struct ht h
 match xs,hlen with
 | [y0,y1,y2,y3,y4,y5],_=>exact⟨y0,y1,y2,y3,y4,y5,n,by simp,hl,by simpa using hf 0 f0 rfl,by simpa using hf 1 f1 rfl,by simpa using hf 2 f2 rfl,by simpa using hf 3 f3 rfl,by simpa using hf 4 f4 rfl,by simpa using hf 5 f5 rfl⟩
theorem Ca {w:World} {fuel base:Nat} {sp:Nat->Bool} {hd:Bool} {cs:List Value} {y:DataW Unit×List MemPlace} (h:DataW.trod (fun _=>()) prog w base sp hd fuel 214 cs=some y) (a:List UInt8) (b c d e f:Bool) (hy:y.1= .agg [.lit (.string a), .lit (.bool b), .lit (.bool c), .lit (.bool d), .lit (.bool e), .lit (.bool f)]):
  cs=[.string (ai a), .bool b, .bool c, .bool d, .bool e, .bool f]:=by
 have c1:prog.cellsOf 9=1:=by kernel_rfl
 have c2:prog.cellsOf 4=1:=by kernel_rfl
 have c3:prog.cellsOf 214=6:=by kernel_rfl
 obtain⟨y0,y1,y2,y3,y4,y5,m,hx,hl,h0,h1,h2,h3,h4,h5⟩:=pU underlying214 h;rw[c3]at hl;simp only[c1,c2]at h0 h1 h2 h3 h4 h5
 match cs,hl with
 | [u0,u1,u2,u3,u4,u5],_=>
  simp only[List.drop,List.take]at h0 h1 h2 h3 h4 h5;obtain⟨s0,e0,f0,_⟩:=DataW.trod_string underlying9 h0;obtain⟨b1,e1,f1⟩:=DataW.trod_bool underlying4 h1;obtain⟨b2,e2,f2⟩:=DataW.trod_bool underlying4 h2;obtain⟨b3,e3,f3⟩:=DataW.trod_bool underlying4 h3;obtain⟨b4,e4,f4⟩:=DataW.trod_bool underlying4 h4;obtain⟨b5,e5,f5⟩:=DataW.trod_bool underlying4 h5;rw[hx,f0,f1,f2,f3,f4,f5]at hy;simp only[DataW.agg.injEq,cO,DataW.lit.injEq,Lit.string.injEq,Lit.bool.injEq,and_true,true_and]at hy;obtain⟨rfl,rfl,rfl,rfl,rfl,rfl⟩:=hy;rw[p6];simp only[cO,and_true]at e0 e1 e2 e3 e4 e5;rw[e0,e1,e2,e3,e4,e5]
theorem up {α:Type}: ∀(n:Nat) (l:List α) (r:Nat->List α),l.length=n*6->(∀i,i<n->(l.drop (i*6)).take 6=r i)->l=(List.range n).flatMap r
 |0,l,r,hl,_=>by
  have:l=[]:=List.length_eq_zero_iff.1 (by omega);rw[this];rfl
 |n+1,l,r,hl,h=>by
  have h0:=h 0 (by omega);rw[a8,ap]at h0
  have h1:=up n (l.drop 6) (fun i=>r (i+1)) (by rw[bm];omega) (fun i hi=>by
   rw[dh,show 6+i*6=(i+1)*6 by omega]
   exact h (i+1) (by omega))
  rw[ji,bO,<-h0,List.flatMap_map];show l=l.take 6++(List.range n).flatMap (fun i=>r (i+1));rw[<-h1,cw]
theorem Ai:(Rows.laid_ratoon_cpu_formats:DataW Unit)= .agg (Bj.map fun x=> .agg [.lit (.string x.1), .lit (.bool x.2.1), .lit (.bool x.2.2.1), .lit (.bool x.2.2.2.1), .lit (.bool x.2.2.2.2.1), .lit (.bool x.2.2.2.2.2)]):=by kernel_rfl
theorem ru {W:World} (h:Lib.VarReads prog W "ratoon/cpu.formats" Rows.laid_ratoon_cpu_formats):FT W:=by
 rw[Ai]at h;obtain⟨g',t',cs,fuel,p,hg',ht',hvar,hd⟩:=h;obtain rfl:=Z ((show prog.globalNamed "ratoon/cpu.formats" =some 1 by kernel_rfl).symm.trans hg');obtain rfl:=Z ((show(prog.globals[1]?).map (·.type)=some 215 by kernel_rfl).symm.trans ht');have c3:prog.cellsOf 214=6:=by kernel_rfl
 have c4:prog.cellsOf 215=138:=by kernel_rfl
 obtain⟨xs,m,_,hx,hl,hn,hel⟩:=DataW.trod_array underlying215 hd;rw[c4]at hl;simp only[c3]at hel;have hxs:Bj.map (fun x=>(DataW.agg [.lit (.string x.1), .lit (.bool x.2.1), .lit (.bool x.2.2.1), .lit (.bool x.2.2.2.1), .lit (.bool x.2.2.2.2.1), .lit (.bool x.2.2.2.2.2)]:DataW Unit))=xs.map (·.1):=by
  have:=congrArg Prod.fst hx;simpa using this
 have hrow: ∀i,i<23->(cs.toList.drop (i*6)).take 6=[.string (ai (ic i).1), .bool (ic i).2.1, .bool (ic i).2.2.1, .bool (ic i).2.2.2.1, .bool (ic i).2.2.2.2.1, .bool (ic i).2.2.2.2.2]:=fun i hi=>by
  have h1:=hel i hi;have hi':i<xs.length:=by omega
  rw[aI hi']at h1;refine Ca h1 _ _ _ _ _ _ ?_;have h2:=congrArg (fun l=>l[i]?) hxs;simp only[fS]at h2;rw[aI hi',aI (show i<Bj.length from hi)]at h2;simp only[fG,ip]at h2;rw[<-h2];unfold ic;rw[show Bj.getD i ([],false,false,false,false,false)=Bj[i]'hi from by rw[bB,aI (show i<Bj.length from hi)];rfl];rfl
 have hcs:cs.toList=yd.toList:=(up 23 cs.toList _ hl hrow).trans (by kernel_rfl);have hcs:cs=yd:=by rw[<-Array.toList_inj];exact hcs
 subst hcs;unfold World.var? at hvar;rw[hg']at hvar;simp only[em]at hvar;split at hvar
 ·rename_i cs t fr hh;injection hvar with hvar;subst hvar;exact⟨_,_,hh⟩
 ·cases hvar
theorem Br {n:Int} (h:(Lit.int .u8 n).wf=true):0<=n/\n<256:=by
 simp[Lit.wf,IntKind.min,IntKind.max,IntKind.signed,IntKind.bits]at h;omega
theorem sZ {W:World} {l:List (String×DataW Unit)} (h:laidMetH prog l W) (hp:(l.all fun x=>x.2.handleName?.isNone)=true) (h1:("ratoon/cpu.formats",Rows.laid_ratoon_cpu_formats)∈l):FT W:=by
 rw[MakeChecks.laidMetH_plain _ _ _ hp]at h;exact ru (Lib.laidMet.reads h h1)
end
section
open Go.RowKit
def AX (x:Ex) (v:Value) (w:World):Prop:= ∃A c,v= .agg #[.int .i64 x.k, .string (ai x.op), .string (ai x.nm), .string (ai x.tx), .int .i64 x.v, .slice A x.args.length c]/\cE w (fun _=>True) (.slice A x.args.length c) x.args
theorem AX.ext {x:Ex} {v:Value} {w w':World} (h:AX x v w) (he:aq w w'):AX x v w':=let⟨A,c,h1,h2⟩:=h;⟨A,c,h1,h2.keep (.of_ext he) (fun _ _ _=>trivial)⟩
def CN (P:Nat->Prop) (x:Ex) (v:Value) (w:World):Prop:= ∃A c,v= .agg #[.int .i64 x.k, .string (ai x.op), .string (ai x.nm), .string (ai x.tx), .int .i64 x.v, .slice A x.args.length c]/\cE w P (.slice A x.args.length c) x.args
theorem CN.v {P:Nat->Prop} {x:Ex} {v:Value} {w:World} (h:CN P x v w):AX x v w:=let⟨A,c,h1,h2⟩:=h;⟨A,c,h1,h2.mono (fun _ _ _=>trivial)⟩
theorem Ao (a:Int) (w:World):CN (fun b=>w.heap.size<=b) (.mk 7 [45] [] [] 0 [.mk 6 [45] [] [] 0 [.mk 1 [] [] [] (-(a+1)) []], .mk 1 [] [] [] 1 []]) (.agg #[.int .i64 7, .string ⟨#[45]⟩, .string ⟨#[]⟩, .string ⟨#[]⟩, .int .i64 0, .slice (some ⟨w.heap.size+1+1+1,0,none⟩) 2 2]) ((((w.alloc (.cells #[.int .i64 7, .string ⟨#[45]⟩, .string ⟨#[]⟩, .string ⟨#[]⟩, .int .i64 0, .slice (some ⟨w.heap.size+1+1+1,0,none⟩) 2 2] 70)).alloc (.cells #[.int .i64 1, .string ⟨#[]⟩, .string ⟨#[]⟩, .string ⟨#[]⟩, .int .i64 (-(a+1)), .slice none 0 0] 70)).alloc (.cells #[.int .i64 6, .string ⟨#[45]⟩, .string ⟨#[]⟩, .string ⟨#[]⟩, .int .i64 0, .slice (some ⟨w.heap.size+1,0,none⟩) 1 1] 70)).alloc (.cells #[.int .i64 6, .string ⟨#[45]⟩, .string ⟨#[]⟩, .string ⟨#[]⟩, .int .i64 0, .slice (some ⟨w.heap.size+1,0,none⟩) 1 1, .int .i64 1, .string ⟨#[]⟩, .string ⟨#[]⟩, .string ⟨#[]⟩, .int .i64 1, .slice none 0 0] 70)):=by
 have b1:=((an (w.alloc (.cells #[.int .i64 7, .string ⟨#[45]⟩, .string ⟨#[]⟩, .string ⟨#[]⟩, .int .i64 0, .slice (some ⟨w.heap.size+1+1+1,0,none⟩) 2 2] 70)) 70 #[.int .i64 1, .string ⟨#[]⟩, .string ⟨#[]⟩, .string ⟨#[]⟩, .int .i64 (-(a+1)), .slice none 0 0]).alloc (.cells #[.int .i64 6, .string ⟨#[45]⟩, .string ⟨#[]⟩, .string ⟨#[]⟩, .int .i64 0, .slice (some ⟨w.heap.size+1,0,none⟩) 1 1] 70)).alloc (.cells #[.int .i64 6, .string ⟨#[45]⟩, .string ⟨#[]⟩, .string ⟨#[]⟩, .int .i64 0, .slice (some ⟨w.heap.size+1,0,none⟩) 1 1, .int .i64 1, .string ⟨#[]⟩, .string ⟨#[]⟩, .string ⟨#[]⟩, .int .i64 1, .slice none 0 0] 70);have b3:=an (((w.alloc (.cells #[.int .i64 7, .string ⟨#[45]⟩, .string ⟨#[]⟩, .string ⟨#[]⟩, .int .i64 0, .slice (some ⟨w.heap.size+1+1+1,0,none⟩) 2 2] 70)).alloc (.cells #[.int .i64 1, .string ⟨#[]⟩, .string ⟨#[]⟩, .string ⟨#[]⟩, .int .i64 (-(a+1)), .slice none 0 0] 70)).alloc (.cells #[.int .i64 6, .string ⟨#[45]⟩, .string ⟨#[]⟩, .string ⟨#[]⟩, .int .i64 0, .slice (some ⟨w.heap.size+1,0,none⟩) 1 1] 70)) 70 #[.int .i64 6, .string ⟨#[45]⟩, .string ⟨#[]⟩, .string ⟨#[]⟩, .int .i64 0, .slice (some ⟨w.heap.size+1,0,none⟩) 1 1, .int .i64 1, .string ⟨#[]⟩, .string ⟨#[]⟩, .string ⟨#[]⟩, .int .i64 1, .slice none 0 0];rw[World.size_alloc,World.size_alloc,World.size_alloc]at b3;rw[World.size_alloc]at b1;exact⟨_,_,rfl,cE.two (x:= .mk 6 [45] [] [] 0 [.mk 1 [] [] [] (-(a+1)) []]) (y:= .mk 1 [] [] [] 1 []) b3 (by show w.heap.size<=_;omega) (mg (x:= .mk 1 [] [] [] (-(a+1)) []) b1 (by show w.heap.size<=_;omega) (.nil _ _)) (.nil _ _)⟩
theorem zR (a:Int) (ha:eO a) (w:World):Calls prog 28 #[.int .i32 a] w fun e w'=>aq w w'/\ ∃v,e= .returned v/\CN (fun b=>w.heap.size<=b) (cS a) v w':=by
 unfold eO at ha;obtain⟨h1,h2⟩:=ha;by_cases h0:0<=a
 ·have hn:cS a= .mk 1 [] [] [] a []:=by unfold cS;rw[if_pos h0]
  have hc:=(an w 70 #[.int .i64 1, .string ⟨#[]⟩, .string ⟨#[]⟩, .string ⟨#[]⟩, .int .i64 a, .slice none 0 0]).cell;have HE:=G (O w (.cells #[.int .i64 1, .string ⟨#[]⟩, .string ⟨#[]⟩, .string ⟨#[]⟩, .int .i64 a, .slice none 0 0] 70));have HX:=G (show CN (fun b=>w.heap.size<=b) (cS a) (.agg #[.int .i64 1, .string ⟨#[]⟩, .string ⟨#[]⟩, .string ⟨#[]⟩, .int .i64 a, .slice none 0 0]) (w.alloc (.cells #[.int .i64 1, .string ⟨#[]⟩, .string ⟨#[]⟩, .string ⟨#[]⟩, .int .i64 a, .slice none 0 0] 70))from by rw[hn];exact⟨none,0,rfl, .nil _ _⟩);generalize cS a=q at*;clear hn;go_enter func28,ntmps28;go_wp2_with fail;refine bodyPost_ret (v:= .agg #[.int .i64 1, .string ⟨#[]⟩, .string ⟨#[]⟩, .string ⟨#[]⟩, .int .i64 a, .slice none 0 0]) ?_ rfl ⟨HE.out,_,rfl,HX.out⟩;simp[results,results28,go_sem,hc]
 ·have HN:=G (show cS a= .mk 7 [45] [] [] 0 [.mk 6 [45] [] [] 0 [.mk 1 [] [] [] (-(a+1)) []], .mk 1 [] [] [] 1 []] by unfold cS;rw[if_neg h0]);have hc:=(((an w 70 #[.int .i64 7, .string ⟨#[45]⟩, .string ⟨#[]⟩, .string ⟨#[]⟩, .int .i64 0, .slice (some ⟨w.heap.size+1+1+1,0,none⟩) 2 2]).alloc (.cells #[.int .i64 1, .string ⟨#[]⟩, .string ⟨#[]⟩, .string ⟨#[]⟩, .int .i64 (-(a+1)), .slice none 0 0] 70)).alloc (.cells #[.int .i64 6, .string ⟨#[45]⟩, .string ⟨#[]⟩, .string ⟨#[]⟩, .int .i64 0, .slice (some ⟨w.heap.size+1,0,none⟩) 1 1] 70)).alloc (.cells #[.int .i64 6, .string ⟨#[45]⟩, .string ⟨#[]⟩, .string ⟨#[]⟩, .int .i64 0, .slice (some ⟨w.heap.size+1,0,none⟩) 1 1, .int .i64 1, .string ⟨#[]⟩, .string ⟨#[]⟩, .string ⟨#[]⟩, .int .i64 1, .slice none 0 0] 70)|>.cell;have HE:=G ((((O w (.cells #[.int .i64 7, .string ⟨#[45]⟩, .string ⟨#[]⟩, .string ⟨#[]⟩, .int .i64 0, .slice (some ⟨w.heap.size+1+1+1,0,none⟩) 2 2] 70)).alloc' (.cells #[.int .i64 1, .string ⟨#[]⟩, .string ⟨#[]⟩, .string ⟨#[]⟩, .int .i64 (-(a+1)), .slice none 0 0] 70)).alloc' (.cells #[.int .i64 6, .string ⟨#[45]⟩, .string ⟨#[]⟩, .string ⟨#[]⟩, .int .i64 0, .slice (some ⟨w.heap.size+1,0,none⟩) 1 1] 70)).alloc' (.cells #[.int .i64 6, .string ⟨#[45]⟩, .string ⟨#[]⟩, .string ⟨#[]⟩, .int .i64 0, .slice (some ⟨w.heap.size+1,0,none⟩) 1 1, .int .i64 1, .string ⟨#[]⟩, .string ⟨#[]⟩, .string ⟨#[]⟩, .int .i64 1, .slice none 0 0] 70));have HX:=G (show CN (fun b=>w.heap.size<=b) (cS a) (.agg #[.int .i64 7, .string ⟨#[45]⟩, .string ⟨#[]⟩, .string ⟨#[]⟩, .int .i64 0, .slice (some ⟨w.heap.size+1+1+1,0,none⟩) 2 2]) ((((w.alloc (.cells #[.int .i64 7, .string ⟨#[45]⟩, .string ⟨#[]⟩, .string ⟨#[]⟩, .int .i64 0, .slice (some ⟨w.heap.size+1+1+1,0,none⟩) 2 2] 70)).alloc (.cells #[.int .i64 1, .string ⟨#[]⟩, .string ⟨#[]⟩, .string ⟨#[]⟩, .int .i64 (-(a+1)), .slice none 0 0] 70)).alloc (.cells #[.int .i64 6, .string ⟨#[45]⟩, .string ⟨#[]⟩, .string ⟨#[]⟩, .int .i64 0, .slice (some ⟨w.heap.size+1,0,none⟩) 1 1] 70)).alloc (.cells #[.int .i64 6, .string ⟨#[45]⟩, .string ⟨#[]⟩, .string ⟨#[]⟩, .int .i64 0, .slice (some ⟨w.heap.size+1,0,none⟩) 1 1, .int .i64 1, .string ⟨#[]⟩, .string ⟨#[]⟩, .string ⟨#[]⟩, .int .i64 1, .slice none 0 0] 70))from by rw[HN.out];exact Ao a w);generalize cS a=q at*;clear HN;go_enter func28,ntmps28;go_wp2_with fail;refine bodyPost_ret (v:= .agg #[.int .i64 7, .string ⟨#[45]⟩, .string ⟨#[]⟩, .string ⟨#[]⟩, .int .i64 0, .slice (some ⟨w.heap.size+1+1+1,0,none⟩) 2 2]) ?_ rfl ⟨HE.out,_,rfl,HX.out⟩;simp[results,results28,go_sem,hc]
theorem ph (a:Int) (ha:eO a) (w:World):Calls prog 28 #[.int .i32 a] w fun e w'=>aq w w'/\ ∃v,e= .returned v/\AX (cS a) v w':=
 (zR a ha w).mono fun e w' ⟨h,v,h1,h2⟩=>⟨h,v,h1,h2.v⟩
end
section
open Go.RowKit
theorem AC {x:Ex} (h:x.ok=true) (hd:x.dep<=19) (hw:x.wt<=200) (hc: ∀g lo,lw g lo x= .ok ()) (hn:cX x<=7):(gH (eS x)).2=0:=by
 have:fR (eS x)= .ok ():=tS (fun g lo _=>hc g lo) hn;unfold gH;rw[tR h hd hw,this];rfl
theorem zH {x:Ex} (hw:x.wt<=200):lz (eS x)<=6000000:=by
 simp[lz,eS,Fc.wt,bC,fq,St.wt,fL];omega
theorem BI {X:Ex} {V:World} {A:Option Addr} {c:Nat} (s:Nat) (hs:V.heap.size=s) (hX:cE V (fun _=>True) (.slice A X.args.length c) X.args): 
  ∀W,W=(((V.alloc (.cells #[.int .i64 X.k, .string (ai X.op), .string (ai X.nm), .string (ai X.tx), .int .i64 X.v, .slice A X.args.length c] 70)).alloc (.cells #[.int .i64 6, .string ⟨#[]⟩, .slice (some ⟨s,0,none⟩) 1 1, .slice none 0 0, .slice none 0 0] 72)).alloc (.cells #[.string ⟨#[109,97,105,110]⟩, .slice none 0 0, .slice (some ⟨s+1,0,none⟩) 1 1] 59)).alloc (.cells #[.slice none 0 0, .slice (some ⟨s+1+1,0,none⟩) 1 1] 34)->
   aq V W/\mc W (fun _=>True) (.slice none 0 0) (eS X).vs/\mm W (fun _=>True) (.slice (some ⟨s+1+1,0,none⟩) 1 1) (eS X).fs/\aL W (s+1+1+1) 34 #[.slice none 0 0, .slice (some ⟨s+1+1,0,none⟩) 1 1]:=by
 subst hs;rintro W rfl;have b0:=(((an V 70 #[.int .i64 X.k, .string (ai X.op), .string (ai X.nm), .string (ai X.tx), .int .i64 X.v, .slice A X.args.length c]).alloc (.cells #[.int .i64 6, .string ⟨#[]⟩, .slice (some ⟨V.heap.size,0,none⟩) 1 1, .slice none 0 0, .slice none 0 0] 72)).alloc (.cells #[.string ⟨#[109,97,105,110]⟩, .slice none 0 0, .slice (some ⟨V.heap.size+1,0,none⟩) 1 1] 59)).alloc (.cells #[.slice none 0 0, .slice (some ⟨V.heap.size+1+1,0,none⟩) 1 1] 34);have b1:=((an (V.alloc (.cells #[.int .i64 X.k, .string (ai X.op), .string (ai X.nm), .string (ai X.tx), .int .i64 X.v, .slice A X.args.length c] 70)) 72 #[.int .i64 6, .string ⟨#[]⟩, .slice (some ⟨V.heap.size,0,none⟩) 1 1, .slice none 0 0, .slice none 0 0]).alloc (.cells #[.string ⟨#[109,97,105,110]⟩, .slice none 0 0, .slice (some ⟨V.heap.size+1,0,none⟩) 1 1] 59)).alloc (.cells #[.slice none 0 0, .slice (some ⟨V.heap.size+1+1,0,none⟩) 1 1] 34);have b2:=(an ((V.alloc (.cells #[.int .i64 X.k, .string (ai X.op), .string (ai X.nm), .string (ai X.tx), .int .i64 X.v, .slice A X.args.length c] 70)).alloc (.cells #[.int .i64 6, .string ⟨#[]⟩, .slice (some ⟨V.heap.size,0,none⟩) 1 1, .slice none 0 0, .slice none 0 0] 72)) 59 #[.string ⟨#[109,97,105,110]⟩, .slice none 0 0, .slice (some ⟨V.heap.size+1,0,none⟩) 1 1]).alloc (.cells #[.slice none 0 0, .slice (some ⟨V.heap.size+1+1,0,none⟩) 1 1] 34);have b3:=an (((V.alloc (.cells #[.int .i64 X.k, .string (ai X.op), .string (ai X.nm), .string (ai X.tx), .int .i64 X.v, .slice A X.args.length c] 70)).alloc (.cells #[.int .i64 6, .string ⟨#[]⟩, .slice (some ⟨V.heap.size,0,none⟩) 1 1, .slice none 0 0, .slice none 0 0] 72)).alloc (.cells #[.string ⟨#[109,97,105,110]⟩, .slice none 0 0, .slice (some ⟨V.heap.size+1,0,none⟩) 1 1] 59)) 34 #[.slice none 0 0, .slice (some ⟨V.heap.size+1+1,0,none⟩) 1 1];have hE:aq V ((((V.alloc (.cells #[.int .i64 X.k, .string (ai X.op), .string (ai X.nm), .string (ai X.tx), .int .i64 X.v, .slice A X.args.length c] 70)).alloc (.cells #[.int .i64 6, .string ⟨#[]⟩, .slice (some ⟨V.heap.size,0,none⟩) 1 1, .slice none 0 0, .slice none 0 0] 72)).alloc (.cells #[.string ⟨#[109,97,105,110]⟩, .slice none 0 0, .slice (some ⟨V.heap.size+1,0,none⟩) 1 1] 59)).alloc (.cells #[.slice none 0 0, .slice (some ⟨V.heap.size+1+1,0,none⟩) 1 1] 34)):=(((O V _).alloc' _).alloc' _).alloc' _;rw[World.size_alloc,World.size_alloc,World.size_alloc]at b3;rw[World.size_alloc,World.size_alloc]at b2;rw[World.size_alloc]at b1;refine⟨hE,⟨none,0,rfl, .inl rfl⟩,⟨_,1,rfl, .inr ⟨ah _,by simp[maxLen],_,_,rfl,trivial,b2.lt,fun _=> .slice none 0 0,fun _=> .slice (some ⟨V.heap.size+1,0,none⟩) 1 1,fun i hi=> ?_⟩⟩,b3⟩;have hi:i=0:=by simpa[eS]using hi
 subst hi;refine⟨b2.cell 0,b2.cell 1,b2.cell 2, .nil_ _ _,?_⟩;exact cR.one (s:= .mk 6 [] [X] [] []) b1 trivial ⟨mg b0 trivial (hX.keep (.of_ext hE) (fun _ _ _=>trivial)), .nil _ _, .nil _ _⟩
end
end Go.Proofs.YtddomeddabfinaaGreatDoor
