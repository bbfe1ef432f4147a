/- Parts of the proof. -/
import Derived.Test.YtoedmpgicdekmaaGreatDoorCl00
import Derived.LaidLaws
import Derived.LaidHandle
import Derived.Handed
import Derived.Lay
import Derived.LaidOnce
import Derived.MakeChecks
import Derived.SevenTiedAt
import Derived.Lib.LaidU8
import Derived.Deep.Strs
import Derived.OpenShut
import Derived.ChangeAt
import Derived.Test.YtoedmpgicdekmaaGreatDoorTie
import Derived.Test.YtoedmpgicdekmaaGreatDoorCards
import Derived.Test.YtoedmpgicdekmaaGreatDoorCl22
import Derived.BigRegion
import Derived.WalkLawsBesides
import Derived.Test.YtoedmpgicdekmaaGreatDoorCl15
set_option maxRecDepth 100000
set_option maxHeartbeats 8000000
set_option linter.unusedVariables false
set_option linter.unusedSimpArgs false
set_option linter.unusedSectionVars false
namespace Go.Proofs.YtoedmpgicdekmaaGreatDoor
open Go.Proofs.Tryz
section
open Go.ChangeShapes Go.WideShapes Go.RowKit Go.Deep
theorem qX {P:Program} {W:World} {a:String} {k:IntKind} {d:List Int} {g:Nat} {t e:TypeId} {n:Nat} (z:P.globalNamed a=some g) (o:(P.globals[g]?).map (·.type)=some t) (w:P.underlying t=some (.array n e)) (A:P.underlying e=some (.int k)) (H:P.cellsOf e=1) (G:P.cellsOf t=n)
  (I:Lib.VarReads P W a (Lib.tabData k d)):Lib.TabIs P W a k d:=by
 obtain⟨K,J,R,M,p,y,u,h,F⟩:=I;obtain rfl:=ab (z.symm.trans y);obtain rfl:=ab (o.symm.trans u);unfold Lib.TabIs;rw[h,<-Lib.cells_of_tab w A H G F]
theorem qq {P:Program} {u:World} {base h:Nat} {y:Nat->Bool} {G:Bool} {t:TypeId} {A:Array (String×TypeId)} (F:P.underlying t=some (.interface A)) {o:List Value} {x:DataW Unit×List MemPlace}
  (a:DataW.trod (λ_=>()) P u base y G h t o=some x): ∃d,o=[d]/\(d= .nilIface\/ ∃w z,d= .iface w z):=by
 cases h with
 |zero=>simp[DataW.trod]at a
 |succ n=>
  unfold DataW.trod at a;rw[F]at a;split at a<;>first|(simp_all;done)|skip
  all_goals first|exact⟨_,rfl, .inl rfl⟩|exact⟨_,rfl, .inr ⟨_,_,rfl⟩⟩|skip
theorem mA {P:Program} {W:World} {d:String} {M:DataW Unit} {g:Nat} {t:TypeId} {w:Array (String×TypeId)} (h:P.globalNamed d=some g) (z:(P.globals[g]?).map (·.type)=some t) (F:P.underlying t=some (.interface w)) (I:Lib.VarReads P W d M):
  ∃a,W.cell? ⟨g,0,none⟩=some a/\(a= .nilIface\/ ∃o u,a= .iface o u):=by
 obtain⟨V,R,Z,X,p,G,A,y,H⟩:=I;obtain rfl:=ab (h.symm.trans G);obtain rfl:=ab (z.symm.trans A);obtain⟨a,K,J⟩:=qq F H;refine⟨a,?_,J⟩;rw[World.var?_cell h y 0];have:=congrArg (λl=>l[0]?) K;simpa using this
theorem sk (s:ByteArray):ak s.data.toList=s:=by
 apply mt;simp[ak]
theorem GT {G:World} {M base:Nat} {H:Nat->Bool} {J:Bool} {y:List Value} {z:DataW Unit×List MemPlace} (K:DataW.trod (λ_=>()) prog G base H J M 294 y=some z) (F b:List UInt8) (n:Int) (a:z.1= .agg [.lit (.string F), .lit (.int .i64 n), .lit (.string b)]):
  y=[.string (ak F), .int .i64 n, .string (ak b)]:=by
 have c1:prog.cellsOf 9=1:=Qb
 have c2:prog.cellsOf 3=1:=Qb
 have Z:prog.cellsOf 294=3:=Qb
 obtain⟨ad,ac,ab,m,I,A,o,h,d⟩:=trod_struct3 underlying294 K;rw[Z]at A;simp only[c1,c2]at o h d
 match y,A with
 | [u0,u1,u2],_=>
  simp only[List.drop,List.take]at o h d;obtain⟨af,e0,X,_⟩:=DataW.trod_string underlying9 o;obtain⟨aa,w,V,_⟩:=DataW.trod_int underlying3 h;obtain⟨ae,u,R,_⟩:=DataW.trod_string underlying9 d;rw[I,X,V,R]at a;simp only[DataW.agg.injEq,dM,DataW.lit.injEq,Lit.string.injEq,Lit.int.injEq,and_true,true_and]at a;obtain⟨rfl,rfl,rfl⟩:=a;rw[sk,sk];injection e0 with e0 _;injection w with w _;injection u with u _;rw[e0,w,u]
theorem xN {a:Type}: ∀(n:Nat) (l:List a) (r:Nat->List a),l.length=n*3->(∀i,i<n->(l.drop (i*3)).take 3=r i)->l=(List.range n).flatMap r
 |0,l,r,hl,_=>by
  have:l=[]:=List.length_eq_zero_iff.1 Qa;rw[this];rfl
 |n+1,l,r,hl,h=>by
  have d:=h 0 Qa;rw[aY,aw]at d
  have o:=xN n (l.drop 3) (λi=>r (i+1)) (by rw[bH];omega) (λi u=>by
   rw[d6,show 3+i*3=(i+1)*3 by omega]
   exact h (i+1) Qa)
  rw[kv,bG,<-d,List.flatMap_map];show l=l.take 3++(List.range n).flatMap (λi=>r (i+1));rw[<-o,db]
theorem DM:(Rows.laid_ratoon_types_builtins:DataW Unit)= .agg (tw.map λx=> .agg [.lit (.string x.1), .lit (.int .i64 x.2.1), .lit (.string x.2.2)]):=Qb
theorem ve {W:World} (F:Lib.VarReads prog W "ratoon/types.builtins" Rows.laid_ratoon_types_builtins):BT W:=by
 rw[DM]at F;obtain⟨aa,X,d,ac,p,y,I,a,M⟩:=F;obtain rfl:=ab ((show prog.globalNamed "ratoon/types.builtins" =some 1 by kernel_rfl).symm.trans y);obtain rfl:=ab ((show(prog.globals[1]?).map (·.type)=some 295 by kernel_rfl).symm.trans I);have V:prog.cellsOf 294=3:=Qb
 have R:prog.cellsOf 295=57:=Qb
 obtain⟨xs,m,_,H,u,Z,z⟩:=DataW.trod_array underlying295 M;rw[R]at u;simp only[V]at z;have G:tw.map (λx=>(DataW.agg [.lit (.string x.1), .lit (.int .i64 x.2.1), .lit (.string x.2.2)]:DataW Unit))=xs.map (·.1):=by
  have:=congrArg Prod.fst H;simpa using this
 have J: ∀i,i<19->(d.toList.drop (i*3)).take 3=[.string (ak (zt i).1), .int .i64 (zt i).2.1, .string (ak (zt i).2.2)]:=λi hi=>by
  have A:=z i hi;have w:i<xs.length:=Qa
  rw[aI w]at A;refine GT A _ _ _ ?_;have h:=congrArg (λl=>l[i]?) G;simp only[dw]at h;rw[aI w,aI (show i<tw.length from hi)]at h;simp only[iQ,gU]at h;rw[<-h];unfold zt;rw[show tw.getD i ([],0,[])=tw[i]'hi from by rw[bP,aI (show i<tw.length from hi)];rfl];rfl
 have o:d.toList=GW.toList:=(xN 19 d.toList _ u J).trans Qb;have o:d=GW:=by rw[<-Array.toList_inj];exact o
 subst o;unfold World.var? at a;rw[y]at a;simp only[fj]at a;split at a
 ·rename_i d t fr K;injection a with a;subst a;exact⟨_,_,K⟩
 ·cases a
theorem qW {W:World} {l:List (String×DataW Unit)} (d:laidMetH prog l W) (w:(l.all λx=>x.2.handleName?.isNone)=true) (G:("strconv.ErrSyntax",Rows.laid_strconv_ErrSyntax)∈l) (F:("strconv.ErrRange",Rows.laid_strconv_ErrRange)∈l)
  (A:("internal/strconv.uint64pow10",Rows.laid_internal_strconv_uint64pow10)∈l) (z:("ratoon/types.builtins",Rows.laid_ratoon_types_builtins)∈l):EZ W/\ea W W.heap.size/\BT W:=by
 rw[MakeChecks.laidMetH_plain _ _ _ w]at d;have u:=Lib.laidMet.reads d G;have o:=Lib.laidMet.reads d F;have h:=Lib.laidMet.reads d A;have y:=ve (Lib.laidMet.reads d z);have H:(Rows.laid_internal_strconv_uint64pow10:DataW Unit)=Lib.tabData .u64 Lib.pow10Tab:=Qb
 rw[H]at h;have a:=qX (g:=3) (t:=322) (e:=195) Qb Qb underlying322 underlying195 Qb Qb h;refine⟨⟨mA (g:=4) (t:=219) Qb Qb underlying219 u,mA (g:=5) (t:=219) Qb Qb underlying219 o⟩,⟨a,?_⟩,y⟩;unfold Lib.TabIs World.var? at a;rw[show prog.globalNamed "internal/strconv.uint64pow10" =some 3 by kernel_rfl]at a;simp only[fj]at a;by_cases hlt:3<W.heap.size
 ·exact hlt
 ·rw[fD Qa]at a
  cases a
end
section
open Go.RowKit
def Fj:List (List UInt8×Bool×Bool×Bool×Bool×Bool):=
 [([],false,false,false,false,false),([115,101,116],true,false,false,true,false),([104,105,103,104],true,false,false,true,false),([112,108,117,115],true,true,true,false,true),
  ([97,100,100],true,true,true,false,false),([115,117,98],true,true,true,false,false),([109,117,108],true,true,true,false,false),([100,105,118],true,true,true,false,false),
  ([114,101,109],true,true,true,false,false),([97,110,100],true,true,true,false,false),([111,114],true,true,true,false,false),([120,111,114],true,true,true,false,false),
  ([108,101,115,115],true,true,true,false,false),([115,97,109,101],true,true,true,false,false),([108,111,97,100],true,true,true,false,true),([115,116,111,114,101],true,true,true,false,true),
  ([108,111,97,100,98,121,116,101],true,true,true,false,true),([115,116,111,114,101,98,121,116,101],true,true,true,false,true),([106,117,109,112],false,false,false,true,false),([122,101,114,111],true,false,false,true,false),
  ([99,97,108,108],true,false,false,true,false),([98,97,99,107],true,false,false,false,false),([115,121,115,116,101,109],false,false,false,false,false)]
def zF:Array Value:=(Fj.flatMap λx=>[.string (ak x.1), .bool x.2.1, .bool x.2.2.1, .bool x.2.2.2.1, .bool x.2.2.2.2.1, .bool x.2.2.2.2.2]).toArray
def iO (n:Nat):List UInt8×Bool×Bool×Bool×Bool×Bool:=Fj.getD n ([],false,false,false,false,false)
def FT (w:World):Prop:= ∃t fr,w.heap[0]? =some (.cells zF t fr)
theorem FT.ext {d w':World} (a:FT d) (h:au d w'):FT w':=let⟨t,fr,a⟩:=a;⟨t,fr,(h.obj (Array.getElem?_eq_some_iff.1 a).1).trans a⟩
theorem Ib: ∀(n:Nat),n<23->zF[n*6]? =some (.string (ak (iO n).1))/\zF[n*6+1]? =some (.bool (iO n).2.1)/\zF[n*6+2]? =some (.bool (iO n).2.2.1)/\zF[n*6+3]? =some (.bool (iO n).2.2.2.1)/\zF[n*6+4]? =some (.bool (iO n).2.2.2.2.1)/\zF[n*6+5]? =some (.bool (iO n).2.2.2.2.2):=by
 intro n a
 iterate 23 (rcases n with _|n;(exact⟨by kernel_rfl,by kernel_rfl,by kernel_rfl,by kernel_rfl,by kernel_rfl,by kernel_rfl⟩))
 omega
theorem FT.row {a:World} (d:FT a) (n:Nat) (h:n<23):a.cell? ⟨0,n*6,none⟩=some (.string (ak (iO n).1))/\a.cell? ⟨0,n*6+1,none⟩=some (.bool (iO n).2.1)/\a.cell? ⟨0,n*6+2,none⟩=some (.bool (iO n).2.2.1)/\a.cell? ⟨0,n*6+3,none⟩=some (.bool (iO n).2.2.2.1)/\a.cell? ⟨0,n*6+4,none⟩=some (.bool (iO n).2.2.2.2.1)/\a.cell? ⟨0,n*6+5,none⟩=some (.bool (iO n).2.2.2.2.2):=by
 obtain⟨t,fr,d⟩:=d;have o: ∀i,a.cell? ⟨0,i,none⟩=zF[i]? :=λi=>cell_of_row a _ i zF t fr d;simp only[o];exact Ib n h
theorem sC (n:Int) (a:Bool) (d:World):Calls prog 187 #[.int .i64 n, .bool a] d λe w'=>e= .returned (.bool (n==0||(a&&decide (0<n)&&decide (n<16))))/\d=w':=by
 by_cases h0:n=0
 ·subst h0;go_enter func187,ntmps187;go_wp2_with fail;go_ret;exact⟨rfl,rfl⟩
 have o:(n==0)=false:=Qn.2 h0
 cases a<;>by_cases h2:0<n<;>by_cases h3:n<16;all_goals
  go_enter func187,ntmps187;go_wp2_with fail;go_ret;exact⟨by simp[o,h2,h3],rfl⟩
end
section
open Go.ChangeShapes Go.WideShapes Go.RowKit Go.Deep
theorem sg {P:Program} {d:World} {ab base:Nat} {h:Nat->Bool} {o:Bool} {t:TypeId} {G F A z y w:Field} {a:List Value} {x:DataW Unit×List MemPlace} (V:P.underlying t=some (.struct #[G,F,A,z,y,w])) (aa:DataW.trod (λ_=>()) P d base h o ab t a=some x):
  ∃(R M K J I H:DataW Unit×List MemPlace) (n:Nat),x.1= .agg [R.1,M.1,K.1,J.1,I.1,H.1]/\a.length=P.cellsOf t/\DataW.trod (λ_=>()) P d base h o n G.type ((a.drop G.offset).take (P.cellsOf G.type))=some R/\DataW.trod (λ_=>()) P d base h o n F.type ((a.drop F.offset).take (P.cellsOf F.type))=some M/\
   DataW.trod (λ_=>()) P d base h o n A.type ((a.drop A.offset).take (P.cellsOf A.type))=some K/\DataW.trod (λ_=>()) P d base h o n z.type ((a.drop z.offset).take (P.cellsOf z.type))=some J/\DataW.trod (λ_=>()) P d base h o n y.type ((a.drop y.offset).take (P.cellsOf y.type))=some I/\DataW.trod (λ_=>()) P d base h o n w.type ((a.drop w.offset).take (P.cellsOf w.type))=some H:=by
 obtain⟨xs,n,_,rfl,Z,X,u⟩:=DataW.trod_struct V aa
 match xs,X with
 | [R,M,K,J,I,H],_=>exact⟨R,M,K,J,I,H,n,by simp,Z,by simpa using u 0 G rfl,by simpa using u 1 F rfl,by simpa using u 2 A rfl,by simpa using u 3 z rfl,by simpa using u 4 y rfl,by simpa using u 5 w rfl⟩
theorem F8 {V:World} {ac base:Nat} {X:Nat->Bool} {aa:Bool} {z:List Value} {A:DataW Unit×List MemPlace} (ab:DataW.trod (λ_=>()) prog V base X aa ac 234 z=some A) (R:List UInt8) (b c M e f:Bool) (a:A.1= .agg [.lit (.string R), .lit (.bool b), .lit (.bool c), .lit (.bool M), .lit (.bool e), .lit (.bool f)]):
  z=[.string (ak R), .bool b, .bool c, .bool M, .bool e, .bool f]:=by
 have c1:prog.cellsOf 9=1:=Qb
 have c2:prog.cellsOf 4=1:=Qb
 have aj:prog.cellsOf 234=6:=Qb
 obtain⟨aq,ap,ao,an,am,al,m,Z,F,y,w,u,o,h,d⟩:=sg underlying234 ab;rw[aj]at F;simp only[c1,c2]at y w u o h d
 match z,F with
 | [u0,u1,u2,u3,u4,u5],_=>
  simp only[List.drop,List.take]at y w u o h d;obtain⟨ar,e0,ai,_⟩:=DataW.trod_string underlying9 y;obtain⟨b1,K,ah⟩:=DataW.trod_bool underlying4 w;obtain⟨b2,J,ag⟩:=DataW.trod_bool underlying4 u;obtain⟨b3,I,af⟩:=DataW.trod_bool underlying4 o;obtain⟨av,H,ae⟩:=DataW.trod_bool underlying4 h;obtain⟨au,G,ad⟩:=DataW.trod_bool underlying4 d;rw[Z,ai,ah,ag,af,ae,ad]at a;simp only[DataW.agg.injEq,dM,DataW.lit.injEq,Lit.string.injEq,Lit.bool.injEq,and_true,true_and]at a;obtain⟨rfl,rfl,rfl,rfl,rfl,rfl⟩:=a;rw[sk];simp only[dM,and_true]at e0 K J I H G;rw[e0,K,J,I,H,G]
theorem xM {a:Type}: ∀(n:Nat) (l:List a) (r:Nat->List a),l.length=n*6->(∀i,i<n->(l.drop (i*6)).take 6=r i)->l=(List.range n).flatMap r
 |0,l,r,hl,_=>by
  have:l=[]:=List.length_eq_zero_iff.1 Qa;rw[this];rfl
 |n+1,l,r,hl,h=>by
  have d:=h 0 Qa;rw[aY,aw]at d
  have o:=xM n (l.drop 6) (λi=>r (i+1)) (by rw[bH];omega) (λi u=>by
   rw[d6,show 6+i*6=(i+1)*6 by omega]
   exact h (i+1) Qa)
  rw[kv,bG,<-d,List.flatMap_map];show l=l.take 6++(List.range n).flatMap (λi=>r (i+1));rw[<-o,db]
theorem DK:(Rows.laid_ratoon_cpu_formats:DataW Unit)= .agg (Fj.map λx=> .agg [.lit (.string x.1), .lit (.bool x.2.1), .lit (.bool x.2.2.1), .lit (.bool x.2.2.2.1), .lit (.bool x.2.2.2.2.1), .lit (.bool x.2.2.2.2.2)]):=Qb
theorem uF {W:World} (F:Lib.VarReads prog W "ratoon/cpu.formats" Rows.laid_ratoon_cpu_formats):FT W:=by
 rw[DK]at F;obtain⟨aa,X,d,ac,p,y,I,a,M⟩:=F;obtain rfl:=ab ((show prog.globalNamed "ratoon/cpu.formats" =some 0 by kernel_rfl).symm.trans y);obtain rfl:=ab ((show(prog.globals[0]?).map (·.type)=some 235 by kernel_rfl).symm.trans I);have V:prog.cellsOf 234=6:=Qb
 have R:prog.cellsOf 235=138:=Qb
 obtain⟨xs,m,_,H,u,Z,z⟩:=DataW.trod_array underlying235 M;rw[R]at u;simp only[V]at z;have G:Fj.map (λx=>(DataW.agg [.lit (.string x.1), .lit (.bool x.2.1), .lit (.bool x.2.2.1), .lit (.bool x.2.2.2.1), .lit (.bool x.2.2.2.2.1), .lit (.bool x.2.2.2.2.2)]:DataW Unit))=xs.map (·.1):=by
  have:=congrArg Prod.fst H;simpa using this
 have J: ∀i,i<23->(d.toList.drop (i*6)).take 6=[.string (ak (iO i).1), .bool (iO i).2.1, .bool (iO i).2.2.1, .bool (iO i).2.2.2.1, .bool (iO i).2.2.2.2.1, .bool (iO i).2.2.2.2.2]:=λi hi=>by
  have A:=z i hi;have w:i<xs.length:=Qa
  rw[aI w]at A;refine F8 A _ _ _ _ _ _ ?_;have h:=congrArg (λl=>l[i]?) G;simp only[dw]at h;rw[aI w,aI (show i<Fj.length from hi)]at h;simp only[iQ,gU]at h;rw[<-h];unfold iO;rw[show Fj.getD i ([],false,false,false,false,false)=Fj[i]'hi from by rw[bP,aI (show i<Fj.length from hi)];rfl];rfl
 have o:d.toList=zF.toList:=(xM 23 d.toList _ u J).trans Qb;have o:d=zF:=by rw[<-Array.toList_inj];exact o
 subst o;unfold World.var? at a;rw[y]at a;simp only[fj]at a;split at a
 ·rename_i d t fr K;injection a with a;subst a;exact⟨_,_,K⟩
 ·cases a
theorem wH {W:World} {l:List (String×DataW Unit)} (a:laidMetH prog l W) (d:(l.all λx=>x.2.handleName?.isNone)=true) (h:("ratoon/cpu.formats",Rows.laid_ratoon_cpu_formats)∈l):FT W:=by
 rw[MakeChecks.laidMetH_plain _ _ _ d]at a;exact uF (Lib.laidMet.reads a h)
end
end Go.Proofs.YtoedmpgicdekmaaGreatDoor
