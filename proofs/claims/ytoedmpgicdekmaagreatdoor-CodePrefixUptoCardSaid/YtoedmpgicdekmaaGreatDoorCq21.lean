/-
  Parts of the proof: OpenTb CpA OpenFm Open OpenB OpenC EqP EqW EqX PaD OpenP TyFw TyOr OpenR.
-/
import Derived.LaidLaws
import Derived.LaidHandle
import Derived.Handed
import Derived.Lay
import Derived.LaidOnce
import Derived.MakeChecks
import Derived.SevenTiedAt
import Derived.Lib.LaidU8
import Derived.Deep.Strs
import Derived.OpenShut
import Derived.ChangeAt
import Derived.Test.YtoedmpgicdekmaaGreatDoorTie
import Derived.Test.YtoedmpgicdekmaaGreatDoorCards
import Derived.Test.YtoedmpgicdekmaaGreatDoorCq20
import Derived.BigRegion
import Derived.WalkLawsBesides
import Derived.Test.YtoedmpgicdekmaaGreatDoorCq14
import Derived.ProofKit
import Derived.ShutString
import Derived.ChangeOld
import Derived.Below
import Derived.Test.YtoedmpgicdekmaaGreatDoorRows
import Derived.Test.YtoedmpgicdekmaaGreatDoorCq02
import Derived.SizedLaws
import Derived.Lib.SmallJoins
import Derived.Laws.IdiomArrays
import Derived.Deep.Fields
import Derived.ChangeSame
import Derived.Deep.Slices
import Derived.Test.YtoedmpgicdekmaaGreatDoorCq00
import Derived.Test.YtoedmpgicdekmaaGreatDoorCq08
import Derived.Test.YtoedmpgicdekmaaGreatDoorCq16
import Derived.Test.YtoedmpgicdekmaaGreatDoorCq19
import Derived.Test.YtoedmpgicdekmaaGreatDoorCq05
set_option maxRecDepth 100000
set_option maxHeartbeats 8000000
set_option linter.unusedVariables false
set_option linter.unusedSimpArgs false
set_option linter.unusedSectionVars false
namespace Go.Proofs.YtoedmpgicdekmaaGreatDoor
open Go.Proofs.Tryz
section
open Go.ChangeShapes Go.WideShapes Go.RowKit Go.Deep
theorem pk {P:Program} {W:World} {name:String} {k:IntKind} {zs:List Int} {g:Nat} {t e:TypeId} {n:Nat} (hg:P.globalNamed name=some g) (hty:(P.globals[g]?).map (·.type)=some t) (ht:P.underlying t=some (.array n e)) (he:P.underlying e=some (.int k)) (hce:P.cellsOf e=1) (hct:P.cellsOf t=n)
  (h:Lib.VarReads P W name (Lib.tabData k zs)):Lib.TabIs P W name k zs:=by
 obtain⟨g',t',cs,fuel,p,hg',ht',hvar,hd⟩:=h;obtain rfl:=ai (hg.symm.trans hg');obtain rfl:=ai (hty.symm.trans ht');unfold Lib.TabIs;rw[hvar,<-Lib.cells_of_tab ht he hce hct hd]
theorem ow {P:Program} {w:World} {base fuel:Nat} {sp:Nat->Bool} {hd:Bool} {t:TypeId} {ms:Array (String×TypeId)} (ht:P.underlying t=some (.interface ms)) {cs:List Value} {x:DataW Unit×List MemPlace}
  (h:DataW.trod (fun _=>()) P w base sp hd fuel t cs=some x): ∃ev,cs=[ev]/\(ev= .nilIface\/ ∃te pe,ev= .iface te pe):=by
 cases fuel with
 |zero=>simp[DataW.trod]at h
 |succ n=>
  unfold DataW.trod at h;rw[ht]at h;split at h<;>first|(simp_all;done)|skip
  all_goals first|exact⟨_,rfl, .inl rfl⟩|exact⟨_,rfl, .inr ⟨_,_,rfl⟩⟩|skip
theorem kY {P:Program} {W:World} {name:String} {d:DataW Unit} {g:Nat} {t:TypeId} {ms:Array (String×TypeId)} (hg:P.globalNamed name=some g) (hty:(P.globals[g]?).map (·.type)=some t) (ht:P.underlying t=some (.interface ms)) (h:Lib.VarReads P W name d):
  ∃ev,W.cell? ⟨g,0,none⟩=some ev/\(ev= .nilIface\/ ∃te pe,ev= .iface te pe):=by
 obtain⟨g',t',cs,fuel,p,hg',ht',hvar,hd⟩:=h;obtain rfl:=ai (hg.symm.trans hg');obtain rfl:=ai (hty.symm.trans ht');obtain⟨ev,e1,e2⟩:=ow ht hd;refine⟨ev,?_,e2⟩;rw[World.var?_cell hg hvar 0];have:=congrArg (fun l=>l[0]?) e1;simpa using this
theorem qp (s:ByteArray):an s.data.toList=s:=by
 apply kS;simp[an]
theorem DS {w:World} {fuel base:Nat} {sp:Nat->Bool} {hd:Bool} {cs:List Value} {y:DataW Unit×List MemPlace} (h:DataW.trod (fun _=>()) prog w base sp hd fuel 294 cs=some y) (a b:List UInt8) (n:Int) (hy:y.1= .agg [.lit (.string a), .lit (.int .i64 n), .lit (.string b)]):
  cs=[.string (an a), .int .i64 n, .string (an b)]:=by
 have c1:prog.cellsOf 9=1:=by kernel_rfl
 have c2:prog.cellsOf 3=1:=by kernel_rfl
 have c3:prog.cellsOf 294=3:=by kernel_rfl
 obtain⟨y0,y1,y2,m,hx,hl,h0,h1,h2⟩:=trod_struct3 underlying294 h;rw[c3]at hl;simp only[c1,c2]at h0 h1 h2
 match cs,hl with
 | [u0,u1,u2],_=>
  simp only[List.drop,List.take]at h0 h1 h2;obtain⟨s0,e0,f0,_⟩:=DataW.trod_string underlying9 h0;obtain⟨z,e1,f1,_⟩:=DataW.trod_int underlying3 h1;obtain⟨s2,e2,f2,_⟩:=DataW.trod_string underlying9 h2;rw[hx,f0,f1,f2]at hy;simp only[DataW.agg.injEq,gO,DataW.lit.injEq,Lit.string.injEq,Lit.int.injEq,and_true,true_and]at hy;obtain⟨rfl,rfl,rfl⟩:=hy;rw[qp,qp];injection e0 with e0 _;injection e1 with e1 _;injection e2 with e2 _;rw[e0,e1,e2]
theorem vy {α:Type}: ∀(n:Nat) (l:List α) (r:Nat->List α),l.length=n*3->(∀i,i<n->(l.drop (i*3)).take 3=r i)->l=(List.range n).flatMap r
 |0,l,r,hl,_=>by
  have:l=[]:=List.length_eq_zero_iff.1 (by omega);rw[this];rfl
 |n+1,l,r,hl,h=>by
  have h0:=h 0 (by omega);rw[aV,aq]at h0
  have h1:=vy n (l.drop 3) (fun i=>r (i+1)) (by rw[bK];omega) (fun i hi=>by
   rw[dE,show 3+i*3=(i+1)*3 by omega]
   exact h (i+1) (by omega))
  rw[f8,br,<-h0,List.flatMap_map];show l=l.take 3++(List.range n).flatMap (fun i=>r (i+1));rw[<-h1,cM]
theorem BD:(Rows.laid_ratoon_types_builtins:DataW Unit)= .agg (rm.map fun x=> .agg [.lit (.string x.1), .lit (.int .i64 x.2.1), .lit (.string x.2.2)]):=by kernel_rfl
theorem s_ {W:World} (h:Lib.VarReads prog W "ratoon/types.builtins" Rows.laid_ratoon_types_builtins):BT W:=by
 rw[BD]at h;obtain⟨g',t',cs,fuel,p,hg',ht',hvar,hd⟩:=h;obtain rfl:=ai ((show prog.globalNamed "ratoon/types.builtins" =some 1 by kernel_rfl).symm.trans hg');obtain rfl:=ai ((show(prog.globals[1]?).map (·.type)=some 295 by kernel_rfl).symm.trans ht');have c3:prog.cellsOf 294=3:=by kernel_rfl
 have c4:prog.cellsOf 295=57:=by kernel_rfl
 obtain⟨xs,m,_,hx,hl,hn,hel⟩:=DataW.trod_array underlying295 hd;rw[c4]at hl;simp only[c3]at hel;have hxs:rm.map (fun x=>(DataW.agg [.lit (.string x.1), .lit (.int .i64 x.2.1), .lit (.string x.2.2)]:DataW Unit))=xs.map (·.1):=by
  have:=congrArg Prod.fst hx;simpa using this
 have hrow: ∀i,i<19->(cs.toList.drop (i*3)).take 3=[.string (an (xm i).1), .int .i64 (xm i).2.1, .string (an (xm i).2.2)]:=fun i hi=>by
  have h1:=hel i hi;have hi':i<xs.length:=by omega
  rw[aD hi']at h1;refine DS h1 _ _ _ ?_;have h2:=congrArg (fun l=>l[i]?) hxs;simp only[cV]at h2;rw[aD hi',aD (show i<rm.length from hi)]at h2;simp only[gM,f6]at h2;rw[<-h2];unfold xm;rw[show rm.getD i ([],0,[])=rm[i]'hi from by rw[bI,aD (show i<rm.length from hi)];rfl];rfl
 have hcs:cs.toList=DV.toList:=(vy 19 cs.toList _ hl hrow).trans (by kernel_rfl);have hcs:cs=DV:=by rw[<-Array.toList_inj];exact hcs
 subst hcs;unfold World.var? at hvar;rw[hg']at hvar;simp only[eA]at hvar;split at hvar
 ·rename_i cs t fr hh;injection hvar with hvar;subst hvar;exact⟨_,_,hh⟩
 ·cases hvar
theorem pj {W:World} {l:List (String×DataW Unit)} (h:laidMetH prog l W) (hp:(l.all fun x=>x.2.handleName?.isNone)=true) (h1:("strconv.ErrSyntax",Rows.laid_strconv_ErrSyntax)∈l) (h2:("strconv.ErrRange",Rows.laid_strconv_ErrRange)∈l)
  (h3:("internal/strconv.uint64pow10",Rows.laid_internal_strconv_uint64pow10)∈l) (h4:("ratoon/types.builtins",Rows.laid_ratoon_types_builtins)∈l):EZ W/\dK W W.heap.size/\BT W:=by
 rw[MakeChecks.laidMetH_plain _ _ _ hp]at h;have r1:=Lib.laidMet.reads h h1;have r2:=Lib.laidMet.reads h h2;have r3:=Lib.laidMet.reads h h3;have hb:=s_ (Lib.laidMet.reads h h4);have e3:(Rows.laid_internal_strconv_uint64pow10:DataW Unit)=Lib.tabData .u64 Lib.pow10Tab:=by kernel_rfl
 rw[e3]at r3;have ht:=pk (g:=3) (t:=322) (e:=195) (by kernel_rfl) (by kernel_rfl) underlying322 underlying195 (by kernel_rfl) (by kernel_rfl) r3;refine⟨⟨kY (g:=4) (t:=219) (by kernel_rfl) (by kernel_rfl) underlying219 r1,kY (g:=5) (t:=219) (by kernel_rfl) (by kernel_rfl) underlying219 r2⟩,⟨ht,?_⟩,hb⟩;unfold Lib.TabIs World.var? at ht;rw[show prog.globalNamed "internal/strconv.uint64pow10" =some 3 by kernel_rfl]at ht;simp only[eA]at ht;by_cases hlt:3<W.heap.size
 ·exact hlt
 ·rw[eK (by omega)]at ht
  cases ht
end
section
open Go.RowKit
def CI:List (List UInt8×Bool×Bool×Bool×Bool×Bool):=
 [([],false,false,false,false,false),([115,101,116],true,false,false,true,false),([104,105,103,104],true,false,false,true,false),([112,108,117,115],true,true,true,false,true),
  ([97,100,100],true,true,true,false,false),([115,117,98],true,true,true,false,false),([109,117,108],true,true,true,false,false),([100,105,118],true,true,true,false,false),
  ([114,101,109],true,true,true,false,false),([97,110,100],true,true,true,false,false),([111,114],true,true,true,false,false),([120,111,114],true,true,true,false,false),
  ([108,101,115,115],true,true,true,false,false),([115,97,109,101],true,true,true,false,false),([108,111,97,100],true,true,true,false,true),([115,116,111,114,101],true,true,true,false,true),
  ([108,111,97,100,98,121,116,101],true,true,true,false,true),([115,116,111,114,101,98,121,116,101],true,true,true,false,true),([106,117,109,112],false,false,false,true,false),([122,101,114,111],true,false,false,true,false),
  ([99,97,108,108],true,false,false,true,false),([98,97,99,107],true,false,false,false,false),([115,121,115,116,101,109],false,false,false,false,false)]
def xA:Array Value:=(CI.flatMap fun x=>[.string (an x.1), .bool x.2.1, .bool x.2.2.1, .bool x.2.2.2.1, .bool x.2.2.2.2.1, .bool x.2.2.2.2.2]).toArray
def gL (n:Nat):List UInt8×Bool×Bool×Bool×Bool×Bool:=CI.getD n ([],false,false,false,false,false)
def FT (w:World):Prop:= ∃t fr,w.heap[0]? =some (.cells xA t fr)
theorem FT.ext {w w':World} (h:FT w) (he:au w w'):FT w':=let⟨t,fr,h⟩:=h;⟨t,fr,(he.obj (Array.getElem?_eq_some_iff.1 h).1).trans h⟩
theorem ES: ∀(n:Nat),n<23->xA[n*6]? =some (.string (an (gL n).1))/\xA[n*6+1]? =some (.bool (gL n).2.1)/\xA[n*6+2]? =some (.bool (gL n).2.2.1)/\xA[n*6+3]? =some (.bool (gL n).2.2.2.1)/\xA[n*6+4]? =some (.bool (gL n).2.2.2.2.1)/\xA[n*6+5]? =some (.bool (gL n).2.2.2.2.2):=by
 intro n hn
 iterate 23 (rcases n with _|n;(exact⟨by kernel_rfl,by kernel_rfl,by kernel_rfl,by kernel_rfl,by kernel_rfl,by kernel_rfl⟩))
 omega
theorem FT.row {w:World} (h:FT w) (n:Nat) (hn:n<23):w.cell? ⟨0,n*6,none⟩=some (.string (an (gL n).1))/\w.cell? ⟨0,n*6+1,none⟩=some (.bool (gL n).2.1)/\w.cell? ⟨0,n*6+2,none⟩=some (.bool (gL n).2.2.1)/\w.cell? ⟨0,n*6+3,none⟩=some (.bool (gL n).2.2.2.1)/\w.cell? ⟨0,n*6+4,none⟩=some (.bool (gL n).2.2.2.2.1)/\w.cell? ⟨0,n*6+5,none⟩=some (.bool (gL n).2.2.2.2.2):=by
 obtain⟨t,fr,h⟩:=h;have hc: ∀i,w.cell? ⟨0,i,none⟩=xA[i]? :=fun i=>cell_of_row w _ i xA t fr h;simp only[hc];exact ES n hn
theorem qv (n:Int) (u:Bool) (w:World):Calls prog 187 #[.int .i64 n, .bool u] w fun e w'=>e= .returned (.bool (n==0||(u&&decide (0<n)&&decide (n<16))))/\w=w':=by
 by_cases h0:n=0
 ·subst h0;go_enter func187,ntmps187;go_wp2_with fail;go_ret;exact⟨rfl,rfl⟩
 have h1:(n==0)=false:=beq_eq_false_iff_ne.2 h0
 cases u<;>by_cases h2:0<n<;>by_cases h3:n<16;all_goals
  go_enter func187,ntmps187;go_wp2_with fail;go_ret;exact⟨by simp[h1,h2,h3],rfl⟩
end
section
open Go.ChangeShapes Go.WideShapes Go.RowKit Go.Deep
theorem qj {P:Program} {w:World} {fuel base:Nat} {sp:Nat->Bool} {hd:Bool} {t:TypeId} {f0 f1 f2 f3 f4 f5:Field} {cs:List Value} {x:DataW Unit×List MemPlace} (ht:P.underlying t=some (.struct #[f0,f1,f2,f3,f4,f5])) (h:DataW.trod (fun _=>()) P w base sp hd fuel t cs=some x):
  ∃(y0 y1 y2 y3 y4 y5:DataW Unit×List MemPlace) (n:Nat),x.1= .agg [y0.1,y1.1,y2.1,y3.1,y4.1,y5.1]/\cs.length=P.cellsOf t/\DataW.trod (fun _=>()) P w base sp hd n f0.type ((cs.drop f0.offset).take (P.cellsOf f0.type))=some y0/\DataW.trod (fun _=>()) P w base sp hd n f1.type ((cs.drop f1.offset).take (P.cellsOf f1.type))=some y1/\
   DataW.trod (fun _=>()) P w base sp hd n f2.type ((cs.drop f2.offset).take (P.cellsOf f2.type))=some y2/\DataW.trod (fun _=>()) P w base sp hd n f3.type ((cs.drop f3.offset).take (P.cellsOf f3.type))=some y3/\DataW.trod (fun _=>()) P w base sp hd n f4.type ((cs.drop f4.offset).take (P.cellsOf f4.type))=some y4/\DataW.trod (fun _=>()) P w base sp hd n f5.type ((cs.drop f5.offset).take (P.cellsOf f5.type))=some y5:=by
 obtain⟨xs,n,_,rfl,hl,hlen,hf⟩:=DataW.trod_struct ht h
 match xs,hlen with
 | [y0,y1,y2,y3,y4,y5],_=>exact⟨y0,y1,y2,y3,y4,y5,n,by simp,hl,by simpa using hf 0 f0 rfl,by simpa using hf 1 f1 rfl,by simpa using hf 2 f2 rfl,by simpa using hf 3 f3 rfl,by simpa using hf 4 f4 rfl,by simpa using hf 5 f5 rfl⟩
theorem DB {w:World} {fuel base:Nat} {sp:Nat->Bool} {hd:Bool} {cs:List Value} {y:DataW Unit×List MemPlace} (h:DataW.trod (fun _=>()) prog w base sp hd fuel 234 cs=some y) (a:List UInt8) (b c d e f:Bool) (hy:y.1= .agg [.lit (.string a), .lit (.bool b), .lit (.bool c), .lit (.bool d), .lit (.bool e), .lit (.bool f)]):
  cs=[.string (an a), .bool b, .bool c, .bool d, .bool e, .bool f]:=by
 have c1:prog.cellsOf 9=1:=by kernel_rfl
 have c2:prog.cellsOf 4=1:=by kernel_rfl
 have c3:prog.cellsOf 234=6:=by kernel_rfl
 obtain⟨y0,y1,y2,y3,y4,y5,m,hx,hl,h0,h1,h2,h3,h4,h5⟩:=qj underlying234 h;rw[c3]at hl;simp only[c1,c2]at h0 h1 h2 h3 h4 h5
 match cs,hl with
 | [u0,u1,u2,u3,u4,u5],_=>
  simp only[List.drop,List.take]at h0 h1 h2 h3 h4 h5;obtain⟨s0,e0,f0,_⟩:=DataW.trod_string underlying9 h0;obtain⟨b1,e1,f1⟩:=DataW.trod_bool underlying4 h1;obtain⟨b2,e2,f2⟩:=DataW.trod_bool underlying4 h2;obtain⟨b3,e3,f3⟩:=DataW.trod_bool underlying4 h3;obtain⟨b4,e4,f4⟩:=DataW.trod_bool underlying4 h4;obtain⟨b5,e5,f5⟩:=DataW.trod_bool underlying4 h5;rw[hx,f0,f1,f2,f3,f4,f5]at hy;simp only[DataW.agg.injEq,gO,DataW.lit.injEq,Lit.string.injEq,Lit.bool.injEq,and_true,true_and]at hy;obtain⟨rfl,rfl,rfl,rfl,rfl,rfl⟩:=hy;rw[qp];simp only[gO,and_true]at e0 e1 e2 e3 e4 e5;rw[e0,e1,e2,e3,e4,e5]
theorem vx {α:Type}: ∀(n:Nat) (l:List α) (r:Nat->List α),l.length=n*6->(∀i,i<n->(l.drop (i*6)).take 6=r i)->l=(List.range n).flatMap r
 |0,l,r,hl,_=>by
  have:l=[]:=List.length_eq_zero_iff.1 (by omega);rw[this];rfl
 |n+1,l,r,hl,h=>by
  have h0:=h 0 (by omega);rw[aV,aq]at h0
  have h1:=vx n (l.drop 6) (fun i=>r (i+1)) (by rw[bK];omega) (fun i hi=>by
   rw[dE,show 6+i*6=(i+1)*6 by omega]
   exact h (i+1) (by omega))
  rw[f8,br,<-h0,List.flatMap_map];show l=l.take 6++(List.range n).flatMap (fun i=>r (i+1));rw[<-h1,cM]
theorem BC:(Rows.laid_ratoon_cpu_formats:DataW Unit)= .agg (CI.map fun x=> .agg [.lit (.string x.1), .lit (.bool x.2.1), .lit (.bool x.2.2.1), .lit (.bool x.2.2.2.1), .lit (.bool x.2.2.2.2.1), .lit (.bool x.2.2.2.2.2)]):=by kernel_rfl
theorem sC {W:World} (h:Lib.VarReads prog W "ratoon/cpu.formats" Rows.laid_ratoon_cpu_formats):FT W:=by
 rw[BC]at h;obtain⟨g',t',cs,fuel,p,hg',ht',hvar,hd⟩:=h;obtain rfl:=ai ((show prog.globalNamed "ratoon/cpu.formats" =some 0 by kernel_rfl).symm.trans hg');obtain rfl:=ai ((show(prog.globals[0]?).map (·.type)=some 235 by kernel_rfl).symm.trans ht');have c3:prog.cellsOf 234=6:=by kernel_rfl
 have c4:prog.cellsOf 235=138:=by kernel_rfl
 obtain⟨xs,m,_,hx,hl,hn,hel⟩:=DataW.trod_array underlying235 hd;rw[c4]at hl;simp only[c3]at hel;have hxs:CI.map (fun x=>(DataW.agg [.lit (.string x.1), .lit (.bool x.2.1), .lit (.bool x.2.2.1), .lit (.bool x.2.2.2.1), .lit (.bool x.2.2.2.2.1), .lit (.bool x.2.2.2.2.2)]:DataW Unit))=xs.map (·.1):=by
  have:=congrArg Prod.fst hx;simpa using this
 have hrow: ∀i,i<23->(cs.toList.drop (i*6)).take 6=[.string (an (gL i).1), .bool (gL i).2.1, .bool (gL i).2.2.1, .bool (gL i).2.2.2.1, .bool (gL i).2.2.2.2.1, .bool (gL i).2.2.2.2.2]:=fun i hi=>by
  have h1:=hel i hi;have hi':i<xs.length:=by omega
  rw[aD hi']at h1;refine DB h1 _ _ _ _ _ _ ?_;have h2:=congrArg (fun l=>l[i]?) hxs;simp only[cV]at h2;rw[aD hi',aD (show i<CI.length from hi)]at h2;simp only[gM,f6]at h2;rw[<-h2];unfold gL;rw[show CI.getD i ([],false,false,false,false,false)=CI[i]'hi from by rw[bI,aD (show i<CI.length from hi)];rfl];rfl
 have hcs:cs.toList=xA.toList:=(vx 23 cs.toList _ hl hrow).trans (by kernel_rfl);have hcs:cs=xA:=by rw[<-Array.toList_inj];exact hcs
 subst hcs;unfold World.var? at hvar;rw[hg']at hvar;simp only[eA]at hvar;split at hvar
 ·rename_i cs t fr hh;injection hvar with hvar;subst hvar;exact⟨_,_,hh⟩
 ·cases hvar
theorem um {W:World} {l:List (String×DataW Unit)} (h:laidMetH prog l W) (hp:(l.all fun x=>x.2.handleName?.isNone)=true) (h1:("ratoon/cpu.formats",Rows.laid_ratoon_cpu_formats)∈l):FT W:=by
 rw[MakeChecks.laidMetH_plain _ _ _ hp]at h;exact sC (Lib.laidMet.reads h h1)
end
section
open Go.ChangeShapes Go.WideShapes Go.ChangeAt Go.RowKit
theorem own:ownKnob prog.godebug=none:=by kernel_rfl
theorem laidOut:laidOutB prog=true:=by kernel_rfl
end
section
open Go.ChangeShapes Go.WideShapes Go.ChangeAt Go.RowKit
section
variable {H:Type} {enc:TypeId×Value->H} {P:Program} {W:World}
theorem iR {t e:TypeId} (ht:P.underlying t=some (.slice e)) (he:P.underlying e=some (.int .u8)) (hc:P.cellsOf e=1) (hb:P.bytesOf e=1) {base n:Nat} {hd:Bool} {c:Value} {y:DataW H×List MemPlace}
  (h:DataW.trod enc P W base (fun _=>true) hd n t [c]=some y): ∃A cap l,c= .slice A (List.length (α:=UInt8) l) cap/\Sl W A cap l/\((y.1.weights P t).all (· <=reachBytes)=true->cap<=reachBytes):=by
 rcases open_ints ht he hc h with⟨hcs,hx⟩|⟨x,len0,cap0,zs,hcs,_,hl,hm,hz,hx,hcell,hwz⟩
 ·injection hcs with hcs;exact⟨none,0,[],hcs,d7 W,fun _=>by simp[reachBytes]⟩
 ·injection hcs with hcs;rw[if_pos rfl]at hz;have hlen:((zs.take len0).map fun n=>UInt8.ofNat n.toNat).length=len0:=by simp;omega
  refine⟨some x,cap0,(zs.take len0).map fun n=>UInt8.ofNat n.toNat,by rw[hlen];exact hcs,⟨by rw[hlen];exact hl,hm,(fun h=>by cases h),?_⟩,fun hw=> ?_⟩
  ·by_cases h0:len0=0
   ·left;apply aS;rw[hlen,h0]
   ·right;obtain⟨b,off,spot⟩:=x;have hc0:=hcell 0 (by omega);have hspot:spot=none:=by simpa[Addr.add]using World.cell?_spot hc0
    subst hspot;refine⟨b,off,rfl,?_,fun i hi=> ?_⟩
    ·have:=World.block_lt_of_cell? _ _ hc0;simpa[Addr.add]using this
    ·rw[hlen]at hi;have h1:=hcell i (by omega);rw[Addr.add_lit]at h1;rw[h1];have hiz:i<zs.length:=by omega
     have hg:zs.getD i 0=zs[i]:=by simp[List.getD,hiz]
     rw[hg];have hwf:=hwz _ (ap hiz);have hbd:=bounds_u8 (n:=zs[i]) hwf;simp only[List.getElem_map,eX];rw[dq]
     congr 2
     omega
  ·have hy:y.1= .slice (lits .u8 (zs.take len0)) (lits .u8 (zs.drop len0)):=by rw[hx]
   rw[hy]at hw;simp only[DataW.weights,ht,List.all_cons,ak,decide_eq_true_eq]at hw;have:=hw.1;rw[hb]at this;simp only[lits,ee,aW,bK]at this;omega
theorem ki {t:TypeId} {k:IntKind} (ht:P.underlying t=some (.int k)) {base n:Nat} {sp:Nat->Bool} {hd:Bool} {c:Value} {y:DataW H×List MemPlace}
  (h:DataW.trod enc P W base sp hd n t [c]=some y): ∃z,c= .int k z/\(Lit.int k z).wf=true:=by
 obtain⟨z,h1,h2,h3⟩:=DataW.trod_int ht h;injection h1 with h1;exact⟨z,h1,h3⟩
end
end
section
open Go.Joins Go.ChangeShapes Go.WideShapes Go.ChangeAt Go.RowKit Go.Deep
end
section
end
section
open Go.RowKit
end
section
open Go.RowKit
end
section
open Go.RowKit
end
section
open Go.Joins Go.ChangeShapes Go.WideShapes Go.ChangeAt Go.RowKit Go.Deep
section
variable {H:Type} {enc:TypeId×Value->H} {P:Program} {W:World}
theorem vO {t e:TypeId} {fuel:Nat} {base:Nat} {sp:Nat->Bool} {hd:Bool} {c:Value} {y:DataW H×List MemPlace} (ht:P.underlying t=some (.slice e)) (h:DataW.trod enc P W base sp hd fuel t [c]=some y):
  c= .slice none 0 0\/ ∃(a:Addr) (len cap n:Nat) (elems:List (DataW H×List MemPlace)) (rest:List (DataW H)),fuel=n+1/\c= .slice (some a) len cap/\len<=cap/\cap<=maxLen/\elems.length=len/\y.1= .slice (elems.map (·.1)) rest/\
   ∀i (hi:i<elems.length),∃cs',(∀k,k<P.cellsOf e->W.cell? ((a.add (i*P.cellsOf e)).add k)=cs'[k]?)/\cs'.length=P.cellsOf e/\DataW.trod enc P W base sp hd n e cs'=some elems[i]:=by
 rcases DataW.trod_slice ht h with⟨hcs,_⟩|⟨a,len,cap,elems,rest,n,hf,hcs,hx,hb,hl,hm,hlen,hel,_,_⟩
 ·injection hcs with hcs;exact .inl hcs
 ·injection hcs with hcs;refine .inr ⟨a,len,cap,n,elems,rest.map (·.1),hf,hcs,hl,hm,hlen,by rw[hx],fun i hi=> ?_⟩;have key:=hel i (by omega);rw[aD hi]at key;obtain⟨cs',h1,h2⟩:=Option.bind_eq_some_iff.1 key;obtain⟨_,h3,h4⟩:=World.cells?_some h1;exact⟨cs',fun k hk=>h4 k hk,h3,h2⟩
theorem rH {t:TypeId} {fs:Array Field} {fuel:Nat} {base:Nat} {sp:Nat->Bool} {hd:Bool} {cs:List Value} {y:DataW H×List MemPlace} (ht:P.underlying t=some (.struct fs)) (h:DataW.trod enc P W base sp hd fuel t cs=some y):
  ∃(n:Nat) (xs:List (DataW H×List MemPlace)),fuel=n+1/\cs.length=P.cellsOf t/\y.1= .agg (xs.map (·.1))/\xs.length=fs.size/\ ∀(i:Nat) (f:Field),fs[i]? =some f-> ∃y',xs[i]? =some y'/\DataW.trod enc P W base sp hd n f.type ((cs.drop f.offset).take (P.cellsOf f.type))=some y':=by
 obtain⟨xs,n,hf,hx,hl,hs,hg⟩:=DataW.trod_struct ht h;refine⟨n,xs,hf,hl,by rw[hx],hs,fun i f hi=> ?_⟩;have hlt:i<fs.size:=(Array.getElem?_eq_some_iff.1 hi).1;refine⟨_,aD (by omega),?_⟩;rw[hg i f hi,aD (by omega)]
theorem sZ {α:Type} (wt:α->Nat): ∀(elems:List (DataW H×List MemPlace)) (g:Nat->α),(∀i (h:i<elems.length),wt (g i)<=Rows.uptoBulk elems[i].1)->(((List.range elems.length).map g).map wt).sum<=Rows.uptoBulkAll (elems.map (·.1))
 | [],g,_=>by simp[Rows.uptoBulkAll]
 |y::r,g,h=>by
  have h0:=h 0 (by simp);have h1:=sZ wt r (fun i=>g (i+1)) (fun i hi=>by have:=h (i+1) (by simpa using hi);simpa using this);rw[ae,f8];simp only[bS,lz,fI,Rows.uptoBulkAll]at h0 h1⊢;simp only[aE]at h0;have:(List.map (wt ∘ g ∘ Nat.succ) (List.range r.length)).sum=(List.map (wt ∘ fun i=>g (i+1)) (List.range r.length)).sum:=rfl;omega
theorem uA (elems:List (DataW H×List MemPlace)) (rest:List (DataW H)):Rows.uptoBulkAll (elems.map (·.1))+1<=Rows.uptoBulk (DataW.slice (elems.map (·.1)) rest):=by
 simp only[Rows.uptoBulk];omega
theorem qF (d:DataW H):1<=Rows.uptoBulk d:=by
 cases d with
 |lit l=>cases l<;>simp[Rows.uptoBulk]
 |nil=>simp[Rows.uptoBulk]
 |ptr d=>simp[Rows.uptoBulk]
 |slice elems spare=>simp[Rows.uptoBulk]
 |agg parts=>simp[Rows.uptoBulk]
 |iface t d=>simp[Rows.uptoBulk]
 |map entries=>simp[Rows.uptoBulk]
 |held h=>simp[Rows.uptoBulk]
theorem DX (b o n k:Nat):((Addr.mk b o none).add n).add k=⟨b,o+n+k,none⟩:=by rw[Addr.add_lit,Addr.add_lit]
instance:Inhabited Ex:=⟨.mk 0 [] [] [] 0 []⟩
instance:Inhabited SV:=⟨⟨.mk 0 [] [] [] [], .nilIface, .nilIface, .nilIface⟩⟩
instance:Inhabited FV:=⟨⟨⟨[],[],[]⟩, .nilIface, .nilIface⟩⟩
instance:Inhabited Vr:=⟨⟨[],0⟩⟩
def G1 (W:World) (b:Nat):Prop:=b<W.heap.size
end
end
section
open Go.RowKit
def G7 (e:Ending):Prop:= ∃b:Bool,e= .returned (.bool b)
theorem yF {w:World} {P:Nat->Prop} {A:Option Addr} {n c:Nat} {R:Rs} (h:iT w P (.slice A n c) R) (i:Nat) (hi:i<R.length):
  ∃b o B d,A=some ⟨b,o,none⟩/\P b/\b<w.heap.size/\n<=c/\c<=maxLen/\w.cell? ⟨b,o+i*2,none⟩=some (.int .i64 R[i].1)/\w.cell? ⟨b,o+i*2+1,none⟩=some (.slice B R[i].2.length d)/\Sl w B d R[i].2/\ ∀b2 o2,B=some ⟨b2,o2,none⟩->R[i].2≠ []->P b2:=by
 obtain⟨A',c',he,h⟩:=h;injection he with e1 e2 e3;subst e1 e2 e3;rcases h with h|⟨h1,h2,b,o,ha,hP,hb,da,dc,hc⟩
 ·rw[h]at hi;simp at hi
 ·obtain⟨q0,q1,q2,q3⟩:=hc i hi;exact⟨b,o,_,_,ha,hP,hb,h1,h2,q0,q1,q2,q3⟩
theorem iT.form {w:World} {P:Nat->Prop} {v:Value} {R:Rs} (h:iT w P v R): ∃A n c,v= .slice A n c/\R.length=n:=by
 obtain⟨A,c,rfl,_⟩:=h;exact⟨_,_,_,rfl,rfl⟩
theorem zu (R:Rs) (hl:R.length<=1000000000) (P:Nat->Prop) (w:World) (v:Value) (hR:iT w P v R):Calls prog 17 #[v] w fun e w'=>G7 e/\au w w':=by
 obtain⟨A,n,c,rfl,hn⟩:=hR.form;rw[hn]at hl;have HN:=G hn;have HR:=G hR;clear hR hn;go_enter func17,ntmps17;go_wp2_with fail
 go_loopw [3,4] (fun vo vi wr=> ∃(j:Nat) (k:Int),vi= .int .i64 (j:Int)/\vo= .int .i64 k/\j<=n/\Hid (au w wr)) (fun vo vi _=>n-(intOf vi).toNat)
 case atStart=>exact⟨0,0,rfl,rfl,aC _,G (aG w)⟩
 case round=>
  obtain⟨j,k,rfl,rfl,hj,HX⟩:=hrel;by_cases hlt:j<n
  ·have hlt':(j:Int)<n:=by omega
   have hjl:j<R.length:=by have:=HN.out;omega
   obtain⟨b,o,B,d,rfl,_,hb,_,_,h0,h1,hs,_⟩:=yF HR.out j hjl;have e1:=(HX.out.cell b _ hb).trans h1;have hle:=hs.le;have hmx:=hs.max;unfold maxLen at hmx;generalize R[j]=x at*;obtain⟨x1,x2⟩:=x;simp only at e1 hle;generalize x2.length=q at*;clear h0 h1 hs hb;go_wp2_with fail;go_roundw
   case rel=>exact⟨j+1,_,by go_num,rfl,by omega,HX⟩
   case measure=>simp[intOf];omega
  ·have hlt': ¬(j:Int)<n:=by omega
   go_wp2_with fail;all_goals (go_ret;exact⟨⟨_,rfl⟩,HX.out⟩)
end
section
open Go.RowKit
structure RV where
 x:Int
 l:List UInt8
 A:Option Addr
 d:Nat
def RV.val (p:RV):Value:= .slice p.A p.l.length p.d
def tY (p:RV):List Value:=[.int .i64 p.x,p.val]
def iC (q:List RV):List Value:=q.flatMap tY
def RV.ok (p:RV) (w:World) (P:Nat->Prop):Prop:=Sl w p.A p.d p.l/\ ∀b o,p.A=some ⟨b,o,none⟩->p.l≠ []->P b
theorem wh (a b:List RV):iC (a++b)=iC a++iC b:=by simp[iC]
theorem pQ: ∀(q:List RV) (i:Nat) (h:i<q.length) (k:Nat),k<2->(iC q)[i*2+k]? =(tY q[i])[k]?
 |p::q,0,_,k,hk=>by
  simp only[iC,br,aV,be,aE];rw[aX (by simpa[tY]using hk)]
 |p::q,i+1,h,k,hk=>by
  have:=pQ q i (by simpa using h) k hk;simp only[iC,br,aL]at this⊢;rw[bx (by simp[tY];omega),show(i+1)*2+k-(tY p).length=i*2+k by simp[tY];omega];exact this
theorem iT.rvs {w:World} {P:Nat->Prop} {A:Option Addr} {n c:Nat} {R:Rs} (h:iT w P (.slice A n c) R):
  ∃q:List RV,q.map (fun p=>(p.x,p.l))=R/\q.length=n/\(∀p,p∈q->p.ok w P)/\(n=0\/n<=c/\c<=maxLen/\ ∃b o,A=some ⟨b,o,none⟩/\P b/\b<w.heap.size/\ ∀i,(h:i<q.length)->w.cell? ⟨b,o+i*2,none⟩=some (.int .i64 q[i].x)/\w.cell? ⟨b,o+i*2+1,none⟩=some q[i].val):=by
 obtain⟨A',c',he,h⟩:=h;injection he with e1 e2 e3;subst e1 e2 e3;rcases h with rfl|⟨h1,h2,b,o,ha,hP,hb,da,dc,hc⟩
 ·exact⟨[],rfl,rfl,fun p hp=>(by cases hp), .inl rfl⟩
 ·refine⟨List.ofFn (n:=R.length) (fun i=>⟨R[i].1,R[i].2,da i,dc i⟩),?_,by simp,fun p hp=> ?_, .inr ⟨h1,h2,b,o,ha,hP,hb,fun i hi=> ?_⟩⟩
  ·apply List.ext_getElem
   ·simp
   ·intro i h1 h2;simp
  ·rw[List.mem_ofFn]at hp;obtain⟨i,rfl⟩:=hp;obtain⟨_,_,q2,q3⟩:=hc i i.2;exact⟨q2,q3⟩
  ·have hi':i<R.length:=by simpa using hi
   obtain⟨q0,q1,_,_⟩:=hc i hi';simp only[List.getElem_ofFn,RV.val];exact⟨q0,q1⟩
theorem iT.of_row {w:World} {base:Nat} {e:TypeId} {v:Value} {n:Nat} {q:List RV} {Q:Nat->Prop} (h:w.ownsRow base e 2 v n (iC q)) (hn:q.length=n) (hQ: ∀b,base<=b->Q b) (hq: ∀p,p∈q->p.ok w Q):iT w Q v (q.map fun p=>(p.x,p.l)):=by
 rcases h.2 with⟨rfl,h0⟩|⟨g,cap,cur,rfl,hb,hg,hnc,hcm,hcs,ht⟩
 ·have:q=[]:=aS (by omega);subst this;exact⟨none,0,rfl, .inl rfl⟩
 ·have hlt:g<w.heap.size:=(Array.getElem?_eq_some_iff.1 hg).1;have cell: ∀j y,(iC q)[j]? =some y->w.cell? ⟨g,j,none⟩=some y:=fun j y hy=>by
   rw[cell_of_row w g j cur e (0,0) hg];rw[<-ht,bZ]at hy;split at hy
   ·simpa using hy
   ·cases hy
  refine⟨_,cap,by rw[ee,hn], .inr ⟨by rw[ee];omega,hcm,g,0,rfl,hQ _ hb,hlt,fun i=>if h:i<q.length then q[i].A else none,fun i=>if h:i<q.length then q[i].d else 0,fun i hi=> ?_⟩⟩;have hi':i<q.length:=by simpa using hi
  have r:=fun k hk=>pQ q i hi' k hk;have hok:=hq _ (ap hi');simp only[List.getElem_map,dif_pos hi',be];exact⟨cell _ _ (r 0 (by omega)),cell _ _ (r 1 (by omega)),hok.1,hok.2⟩
end
section
open Go.Joins Go.ChangeShapes Go.WideShapes Go.ChangeAt Go.RowKit Go.Deep
theorem Sl.bk {w:World} {A:Option Addr} {c:Nat} {l:List UInt8} (h:Sl w A c l): ∀b o,A=some ⟨b,o,none⟩->l≠ []->b<w.heap.size:=fun b o e hn=>by
 rcases h.rd with h0|⟨b',o',ha,hb,_⟩
 ·exact absurd h0 hn
 ·rw[e]at ha;injection ha with ha;injection ha with ha;omega
instance:Inhabited RV:=⟨⟨0,[],none,0⟩⟩
section
variable {H:Type} {enc:TypeId×Value->H} {W:World}
theorem qC {base fuel:Nat} {hd:Bool} {c:Value} {y:DataW H×List MemPlace} (h:DataW.trod enc prog W base (fun _=>true) hd fuel 44 [c]=some y): ∃R,iT W (G1 W) c R/\R.length+1<=Rows.uptoBulk y.1:=by
 have c0:prog.cellsOf 103=2:=by kernel_rfl
 have cS:prog.cellsOf 36=1:=by kernel_rfl
 have cI:prog.cellsOf 3=1:=by kernel_rfl
 rcases vO underlying44 h with rfl|⟨a,len,cap,n,elems,rest,rfl,rfl,hl,hm,hlen0,hy,hx⟩
 ·exact⟨[],⟨none,0,rfl, .inl rfl⟩,qF _⟩
 ·rw[c0]at hx;have key: ∀i,i<len-> ∃p:RV,(∀k,k<2->W.cell? ((a.add (i*2)).add k)=(tY p)[k]?)/\Sl W p.A p.d p.l:=fun i hi=>by
   have hie:i<elems.length:=by omega
   obtain⟨cs',h1,h2,h3⟩:=hx i hie
   match cs',h2 with
   | [u0,u1],_=>
    obtain⟨m,xs,rfl,_,hyx,hxl,hf⟩:=rH underlying103 h3;obtain⟨y0,j0,k0⟩:=hf 0 _ rfl;have k0:DataW.trod enc prog W base (fun _=>true) hd m 3 [u0]=some y0:=by simpa[cI]using k0
    obtain⟨y1,j1,k1⟩:=hf 1 _ rfl;have k1:DataW.trod enc prog W base (fun _=>true) hd m 36 [u1]=some y1:=by simpa[cS]using k1
    obtain⟨z0,rfl,_⟩:=ki underlying3 k0;obtain⟨A1,d1,l1,rfl,s1,_⟩:=iR underlying36 underlying5 (by kernel_rfl) (by kernel_rfl) k1;exact⟨⟨z0,l1,A1,d1⟩,h1,s1⟩
  obtain⟨f,hf⟩:=choose_lt (α:=RV) key;have hbk:len+1<=Rows.uptoBulk y.1:=by
   have h1:=sZ (fun _:Nat=>1) elems (fun i=>i) (fun i hi=>qF _);have h2:=uA elems rest;rw[hy];rw[lz]at h1;have h3:(List.map ((fun _:Nat=>1) ∘ fun i=>i) (List.range elems.length)).sum=elems.length:=by
    rw[show(List.map ((fun _:Nat=>1) ∘ fun i=>i) (List.range elems.length))=List.replicate elems.length 1 from by rw[List.eq_replicate_iff];simp];simp
   omega
  by_cases h0:len=0
  ·subst h0;exact⟨[],⟨some a,cap,rfl, .inl rfl⟩,qF _⟩
  ·obtain⟨b,off,spot⟩:=a;have q1:=(hf 0 (by omega)).1 0 (by omega);have hspot:spot=none:=by simpa[Addr.add]using World.cell?_spot (show _=some _ from q1)
   subst hspot;have hlt:b<W.heap.size:=by
    have:=World.block_lt_of_cell? _ _ (show _=some _ from q1);simpa[Addr.add]using this
   refine⟨(List.range len).map fun i=>((f i).x,(f i).l),⟨some ⟨b,off,none⟩,cap,by simp, .inr ⟨by simpa using hl,hm,b,off,rfl,hlt,hlt,fun i=>(f i).A,fun i=>(f i).d,fun i hi=> ?_⟩⟩,by simpa using hbk⟩;have hi':i<len:=by simpa using hi
   have g0:=(hf i hi').1 0 (by omega);have g1:=(hf i hi').1 1 (by omega);rw[DX]at g0 g1;have hs:=(hf i hi').2;refine⟨by simpa[tY]using g0,by simpa[tY,RV.val]using g1,by simpa using hs,fun b2 o2 e hne=>hs.bk b2 o2 e (by simpa using hne)⟩
end
end
end Go.Proofs.YtoedmpgicdekmaaGreatDoor
