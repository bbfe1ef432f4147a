/- Parts of the proof. -/
import Derived.Lay
import Derived.Lib.LaidU8
import Derived.Deep.Strs
import Derived.OpenShut
import Derived.ChangeAt
import Derived.Test.YtoedmpgicdekmaaGreatDoorTie
import Derived.Test.YtoedmpgicdekmaaGreatDoorCards
import Derived.Test.YtoedmpgicdekmaaGreatDoorCo22
set_option maxRecDepth 100000
set_option maxHeartbeats 8000000
set_option linter.all false
namespace Go.Proofs.YtoedmpgicdekmaaGreatDoor
open Go.Proofs.Tryz
section
open Go.ChangeShapes Go.WideShapes Go.RowKit Go.Deep
theorem rF {P:Program} {W:World} {a:String} {k:IntKind} {d:List Int} {g:Nat} {t e:TypeId} {n:Nat} (z:P.globalNamed a=some g) (o:(P.globals[g]?).map (·.type)=some t) (w:P.underlying t=some (.array n e)) (A:P.underlying e=some (.int k)) (R:P.cellsOf e=1) (G:P.cellsOf t=n)
  (V:Lib.VarReads P W a (Lib.tabData k d)):Lib.TabIs P W a k d:=by
 obtain⟨aa,X,ad,H,p,y,u,h,F⟩:=V;obtain rfl:=I (z.symm.trans y);obtain rfl:=I (o.symm.trans u);unfold Lib.TabIs;rw[h,<-Lib.cells_of_tab w A R G F]
theorem qR {P:Program} {u:World} {base h:Nat} {y:Nat->Bool} {G:Bool} {t:TypeId} {A:Array (String×TypeId)} (F:P.underlying t=some (.interface A)) {o:List Value} {x:DataW Unit×List MemPlace}
  (a:DataW.trod (λ_=>()) P u base y G h t o=some x): ∃d,o=[d]/\(d=.nilIface\/ ∃w z,d=.iface w z):=by
 cases h with
 |zero=>simp[DataW.trod]at a
 |succ n=>
  unfold DataW.trod at a;rw[F]at a;split at a<;>first|(simp_all;done)|skip
  all_goals first|exact⟨_,rfl,.inl rfl⟩|exact⟨_,rfl,.inr ⟨_,_,rfl⟩⟩|skip
theorem mZ {P:Program} {W:World} {d:String} {H:DataW Unit} {g:Nat} {t:TypeId} {w:Array (String×TypeId)} (h:P.globalNamed d=some g) (z:(P.globals[g]?).map (·.type)=some t) (F:P.underlying t=some (.interface w)) (V:Lib.VarReads P W d H):
  ∃a,W.cell? ⟨g,0,none⟩=some a/\(a=.nilIface\/ ∃o u,a=.iface o u):=by
 obtain⟨ae,ad,ag,af,p,G,A,y,R⟩:=V;obtain rfl:=I (h.symm.trans G);obtain rfl:=I (z.symm.trans A);obtain⟨a,aa,X⟩:=qR F R;refine⟨a,?_,X⟩;rw[World.var?_cell h y 0];have:=congrArg (λl=>l[0]?) aa;simpa using this
theorem sV (s:ByteArray):Z s.data.toList=s:=by
 apply mT;simp[Z]
theorem G8 {G:World} {I base:Nat} {R:Nat->Bool} {X:Bool} {y:List Value} {z:DataW Unit×List MemPlace} (aa:DataW.trod (λ_=>()) prog G base R X I 294 y=some z) (F b:List UInt8) (n:Int) (a:z.1=.agg [.lit (.string F),.lit (.int .i64 n),.lit (.string b)]):
  y=[.string (Z F),.int .i64 n,.string (Z b)]:=by
 have c1:prog.cellsOf 9=1:=Qb
 have c2:prog.cellsOf 3=1:=Qb
 have af:prog.cellsOf 294=3:=Qb
 obtain⟨aj,ai,ah,m,V,A,o,h,d⟩:=trod_struct3 underlying294 aa;rw[af]at A;simp only[c1,c2]at o h d
 match y,A with
 | [u0,u1,u2],_=>
  simp only[List.drop,List.take]at o h d;obtain⟨am,e0,ae,_⟩:=DataW.trod_string underlying9 o;obtain⟨ag,w,ad,_⟩:=DataW.trod_int underlying3 h;obtain⟨al,u,H,_⟩:=DataW.trod_string underlying9 d;rw[V,ae,ad,H]at a;simp only[DataW.agg.injEq,dT,DataW.lit.injEq,Lit.string.injEq,Lit.int.injEq,and_true,true_and]at a;obtain⟨rfl,rfl,rfl⟩:=a;rw[sV,sV];injection e0 with e0 _;injection w with w _;injection u with u _;rw[e0,w,u]
theorem yz {a:Type}: ∀(n:Nat) (l:List a) (r:Nat->List a),l.length=n*3->(∀i,i<n->(l.drop (i*3)).take 3=r i)->l=(List.range n).flatMap r
 |0,l,r,hl,_=>by
  have:l=[]:=List.length_eq_zero_iff.1 J;rw[this];rfl
 |n+1,l,r,hl,h=>by
  have d:=h 0 J;rw[aY,aw]at d
  have o:=yz n (l.drop 3) (λi=>r (i+1)) (by rw[bK];omega) (λi hi=>by
   rw[eh,show 3+i*3=(i+1)*3 by omega]
   exact h (i+1) J)
  rw[kP,bJ,<-d,List.flatMap_map];show l=l.take 3++(List.range n).flatMap (λi=>r (i+1));rw[<-o,df]
theorem EE:(Rows.laid_ratoon_types_builtins:DataW Unit)=.agg (sD.map λx=> .agg [.lit (.string x.1),.lit (.int .i64 x.2.1),.lit (.string x.2.2)]):=Qb
theorem vV {W:World} (F:Lib.VarReads prog W "ratoon/types.builtins" Rows.laid_ratoon_types_builtins):BT W:=by
 rw[EE]at F;obtain⟨ah,af,d,ai,p,y,V,a,H⟩:=F;obtain rfl:=I ((show prog.globalNamed "ratoon/types.builtins" =some 1 by kernel_rfl).symm.trans y);obtain rfl:=I ((show(prog.globals[1]?).map (·.type)=some 295 by kernel_rfl).symm.trans V);have ae:prog.cellsOf 294=3:=Qb
 have ad:prog.cellsOf 295=57:=Qb
 obtain⟨xs,m,_,R,u,ag,z⟩:=DataW.trod_array underlying295 H;rw[ad]at u;simp only[ae]at z;have G:sD.map (λx=>(DataW.agg [.lit (.string x.1),.lit (.int .i64 x.2.1),.lit (.string x.2.2)]:DataW Unit))=xs.map (·.1):=by
  have:=congrArg Prod.fst R;simpa using this
 have X: ∀i,i<19->(d.toList.drop (i*3)).take 3=[.string (Z (Ah i).1),.int .i64 (Ah i).2.1,.string (Z (Ah i).2.2)]:=λi hi=>by
  have A:=z i hi;have w:i<xs.length:=J
  rw[aH w]at A;refine G8 A _ _ _ ?_;have h:=congrArg (λl=>l[i]?) G;simp only[dC]at h;rw[aH w,aH (show i<sD.length from hi)]at h;simp only[ji,io]at h;rw[<-h];unfold Ah;rw[show sD.getD i ([],0,[])=sD[i]'hi from by rw[bN,aH (show i<sD.length from hi)];rfl];rfl
 have o:d.toList=G'.toList:=(yz 19 d.toList _ u X).trans Qb;have o:d=G':=by rw[<-Array.toList_inj];exact o
 subst o;unfold World.var? at a;rw[y]at a;simp only[fF]at a;split at a
 ·rename_i d t fr aa;injection a with a;subst a;exact⟨_,_,aa⟩
 ·cases a
theorem rE {W:World} {l:List (String×DataW Unit)} (d:laidMetH prog l W) (w:(l.all λx=>x.2.handleName?.isNone)=true) (G:("strconv.ErrSyntax",Rows.laid_strconv_ErrSyntax)∈l) (F:("strconv.ErrRange",Rows.laid_strconv_ErrRange)∈l)
  (A:("internal/strconv.uint64pow10",Rows.laid_internal_strconv_uint64pow10)∈l) (z:("ratoon/types.builtins",Rows.laid_ratoon_types_builtins)∈l):EZ W/\ew W W.heap.size/\BT W:=by
 rw[MakeChecks.laidMetH_plain _ _ _ w]at d;have u:=Lib.laidMet.reads d G;have o:=Lib.laidMet.reads d F;have h:=Lib.laidMet.reads d A;have y:=vV (Lib.laidMet.reads d z);have R:(Rows.laid_internal_strconv_uint64pow10:DataW Unit)=Lib.tabData .u64 Lib.pow10Tab:=Qb
 rw[R]at h;have a:=rF (g:=3) (t:=322) (e:=195) Qb Qb underlying322 underlying195 Qb Qb h;refine⟨⟨mZ (g:=4) (t:=219) Qb Qb underlying219 u,mZ (g:=5) (t:=219) Qb Qb underlying219 o⟩,⟨a,?_⟩,y⟩;unfold Lib.TabIs World.var? at a;rw[show prog.globalNamed "internal/strconv.uint64pow10" =some 3 by kernel_rfl]at a;simp only[fF]at a;by_cases hlt:3<W.heap.size
 ·exact hlt
 ·rw[fR J]at a
  cases a
end
section
open Go.RowKit
def FX:List (List UInt8×Bool×Bool×Bool×Bool×Bool):=
 [([],false,false,false,false,false),([115,101,116],true,false,false,true,false),([104,105,103,104],true,false,false,true,false),([112,108,117,115],true,true,true,false,true),
  ([97,100,100],true,true,true,false,false),([115,117,98],true,true,true,false,false),([109,117,108],true,true,true,false,false),([100,105,118],true,true,true,false,false),
  ([114,101,109],true,true,true,false,false),([97,110,100],true,true,true,false,false),([111,114],true,true,true,false,false),([120,111,114],true,true,true,false,false),
  ([108,101,115,115],true,true,true,false,false),([115,97,109,101],true,true,true,false,false),([108,111,97,100],true,true,true,false,true),([115,116,111,114,101],true,true,true,false,true),
  ([108,111,97,100,98,121,116,101],true,true,true,false,true),([115,116,111,114,101,98,121,116,101],true,true,true,false,true),([106,117,109,112],false,false,false,true,false),([122,101,114,111],true,false,false,true,false),
  ([99,97,108,108],true,false,false,true,false),([98,97,99,107],true,false,false,false,false),([115,121,115,116,101,109],false,false,false,false,false)]
def Au:Array Value:=(FX.flatMap λx=>[.string (Z x.1),.bool x.2.1,.bool x.2.2.1,.bool x.2.2.2.1,.bool x.2.2.2.2.1,.bool x.2.2.2.2.2]).toArray
def jh (n:Nat):List UInt8×Bool×Bool×Bool×Bool×Bool:=FX.getD n ([],false,false,false,false,false)
def FT (w:World):Prop:= ∃t fr,w.heap[0]? =some (.cells Au t fr)
theorem FT.ext {d w':World} (a:FT d) (h:au d w'):FT w':=let⟨t,fr,a⟩:=a;⟨t,fr,(h.obj (Array.getElem?_eq_some_iff.1 a).1).trans a⟩
theorem Iq: ∀(n:Nat),n<23->Au[n*6]? =some (.string (Z (jh n).1))/\Au[n*6+1]? =some (.bool (jh n).2.1)/\Au[n*6+2]? =some (.bool (jh n).2.2.1)/\Au[n*6+3]? =some (.bool (jh n).2.2.2.1)/\Au[n*6+4]? =some (.bool (jh n).2.2.2.2.1)/\Au[n*6+5]? =some (.bool (jh n).2.2.2.2.2):=by
 intro n a
 iterate 23 (rcases n with _|n;(exact⟨by kernel_rfl,by kernel_rfl,by kernel_rfl,by kernel_rfl,by kernel_rfl,by kernel_rfl⟩))
 omega
theorem FT.row {a:World} (d:FT a) (n:Nat) (h:n<23):a.cell? ⟨0,n*6,none⟩=some (.string (Z (jh n).1))/\a.cell? ⟨0,n*6+1,none⟩=some (.bool (jh n).2.1)/\a.cell? ⟨0,n*6+2,none⟩=some (.bool (jh n).2.2.1)/\a.cell? ⟨0,n*6+3,none⟩=some (.bool (jh n).2.2.2.1)/\a.cell? ⟨0,n*6+4,none⟩=some (.bool (jh n).2.2.2.2.1)/\a.cell? ⟨0,n*6+5,none⟩=some (.bool (jh n).2.2.2.2.2):=by
 obtain⟨t,fr,d⟩:=d;have o: ∀i,a.cell? ⟨0,i,none⟩=Au[i]? :=λi=>cell_of_row a _ i Au t fr d;simp only[o];exact Iq n h
theorem th (n:Int) (a:Bool) (d:World):Calls prog 187 #[.int .i64 n,.bool a] d λe w'=>e=.returned (.bool (n==0||(a&&decide (0<n)&&decide (n<16))))/\d=w':=by
 by_cases h0:n=0
 ·subst h0;go_enter func187,ntmps187;go_wp2_with fail;go_ret;exact⟨rfl,rfl⟩
 have o:(n==0)=false:=Qn.2 h0
 cases a<;>by_cases h2:0<n<;>by_cases h3:n<16;all_goals
  go_enter func187,ntmps187;go_wp2_with fail;go_ret;exact⟨by simp[o,h2,h3],rfl⟩
end
section
open Go.ChangeShapes Go.WideShapes Go.RowKit Go.Deep
theorem sR {P:Program} {d:World} {ah base:Nat} {h:Nat->Bool} {o:Bool} {t:TypeId} {G F A z y w:Field} {a:List Value} {x:DataW Unit×List MemPlace} (ad:P.underlying t=some (.struct #[G,F,A,z,y,w])) (ag:DataW.trod (λ_=>()) P d base h o ah t a=some x):
  ∃(H I aa X V R:DataW Unit×List MemPlace) (n:Nat),x.1=.agg [H.1,I.1,aa.1,X.1,V.1,R.1]/\a.length=P.cellsOf t/\DataW.trod (λ_=>()) P d base h o n G.type ((a.drop G.offset).take (P.cellsOf G.type))=some H/\DataW.trod (λ_=>()) P d base h o n F.type ((a.drop F.offset).take (P.cellsOf F.type))=some I/\
   DataW.trod (λ_=>()) P d base h o n A.type ((a.drop A.offset).take (P.cellsOf A.type))=some aa/\DataW.trod (λ_=>()) P d base h o n z.type ((a.drop z.offset).take (P.cellsOf z.type))=some X/\DataW.trod (λ_=>()) P d base h o n y.type ((a.drop y.offset).take (P.cellsOf y.type))=some V/\DataW.trod (λ_=>()) P d base h o n w.type ((a.drop w.offset).take (P.cellsOf w.type))=some R:=by
 obtain⟨xs,n,_,rfl,af,ae,u⟩:=DataW.trod_struct ad ag
 match xs,ae with
 | [H,I,aa,X,V,R],_=>exact⟨H,I,aa,X,V,R,n,by simp,af,by simpa using u 0 G rfl,by simpa using u 1 F rfl,by simpa using u 2 A rfl,by simpa using u 3 z rfl,by simpa using u 4 y rfl,by simpa using u 5 w rfl⟩
theorem GP {ad:World} {ai base:Nat} {ae:Nat->Bool} {ag:Bool} {z:List Value} {A:DataW Unit×List MemPlace} (ah:DataW.trod (λ_=>()) prog ad base ae ag ai 234 z=some A) (H:List UInt8) (b c I e f:Bool) (a:A.1=.agg [.lit (.string H),.lit (.bool b),.lit (.bool c),.lit (.bool I),.lit (.bool e),.lit (.bool f)]):
  z=[.string (Z H),.bool b,.bool c,.bool I,.bool e,.bool f]:=by
 have c1:prog.cellsOf 9=1:=Qb
 have c2:prog.cellsOf 4=1:=Qb
 have aq:prog.cellsOf 234=6:=Qb
 obtain⟨ay,ax,aw,av,au,ar,m,af,F,y,w,u,o,h,d⟩:=sR underlying234 ah;rw[aq]at F;simp only[c1,c2]at y w u o h d
 match z,F with
 | [u0,u1,u2,u3,u4,u5],_=>
  simp only[List.drop,List.take]at y w u o h d;obtain⟨az,e0,ap,_⟩:=DataW.trod_string underlying9 y;obtain⟨b1,aa,ao⟩:=DataW.trod_bool underlying4 w;obtain⟨b2,X,an⟩:=DataW.trod_bool underlying4 u;obtain⟨b3,V,am⟩:=DataW.trod_bool underlying4 o;obtain⟨aB,R,al⟩:=DataW.trod_bool underlying4 h;obtain⟨aA,G,aj⟩:=DataW.trod_bool underlying4 d;rw[af,ap,ao,an,am,al,aj]at a;simp only[DataW.agg.injEq,dT,DataW.lit.injEq,Lit.string.injEq,Lit.bool.injEq,and_true,true_and]at a;obtain⟨rfl,rfl,rfl,rfl,rfl,rfl⟩:=a;rw[sV];simp only[dT,and_true]at e0 aa X V R G;rw[e0,aa,X,V,R,G]
theorem yy {a:Type}: ∀(n:Nat) (l:List a) (r:Nat->List a),l.length=n*6->(∀i,i<n->(l.drop (i*6)).take 6=r i)->l=(List.range n).flatMap r
 |0,l,r,hl,_=>by
  have:l=[]:=List.length_eq_zero_iff.1 J;rw[this];rfl
 |n+1,l,r,hl,h=>by
  have d:=h 0 J;rw[aY,aw]at d
  have o:=yy n (l.drop 6) (λi=>r (i+1)) (by rw[bK];omega) (λi hi=>by
   rw[eh,show 6+i*6=(i+1)*6 by omega]
   exact h (i+1) J)
  rw[kP,bJ,<-d,List.flatMap_map];show l=l.take 6++(List.range n).flatMap (λi=>r (i+1));rw[<-o,df]
theorem ED:(Rows.laid_ratoon_cpu_formats:DataW Unit)=.agg (FX.map λx=> .agg [.lit (.string x.1),.lit (.bool x.2.1),.lit (.bool x.2.2.1),.lit (.bool x.2.2.2.1),.lit (.bool x.2.2.2.2.1),.lit (.bool x.2.2.2.2.2)]):=Qb
theorem vx {W:World} (F:Lib.VarReads prog W "ratoon/cpu.formats" Rows.laid_ratoon_cpu_formats):FT W:=by
 rw[ED]at F;obtain⟨ah,af,d,ai,p,y,V,a,H⟩:=F;obtain rfl:=I ((show prog.globalNamed "ratoon/cpu.formats" =some 0 by kernel_rfl).symm.trans y);obtain rfl:=I ((show(prog.globals[0]?).map (·.type)=some 235 by kernel_rfl).symm.trans V);have ae:prog.cellsOf 234=6:=Qb
 have ad:prog.cellsOf 235=138:=Qb
 obtain⟨xs,m,_,R,u,ag,z⟩:=DataW.trod_array underlying235 H;rw[ad]at u;simp only[ae]at z;have G:FX.map (λx=>(DataW.agg [.lit (.string x.1),.lit (.bool x.2.1),.lit (.bool x.2.2.1),.lit (.bool x.2.2.2.1),.lit (.bool x.2.2.2.2.1),.lit (.bool x.2.2.2.2.2)]:DataW Unit))=xs.map (·.1):=by
  have:=congrArg Prod.fst R;simpa using this
 have X: ∀i,i<23->(d.toList.drop (i*6)).take 6=[.string (Z (jh i).1),.bool (jh i).2.1,.bool (jh i).2.2.1,.bool (jh i).2.2.2.1,.bool (jh i).2.2.2.2.1,.bool (jh i).2.2.2.2.2]:=λi hi=>by
  have A:=z i hi;have w:i<xs.length:=J
  rw[aH w]at A;refine GP A _ _ _ _ _ _ ?_;have h:=congrArg (λl=>l[i]?) G;simp only[dC]at h;rw[aH w,aH (show i<FX.length from hi)]at h;simp only[ji,io]at h;rw[<-h];unfold jh;rw[show FX.getD i ([],false,false,false,false,false)=FX[i]'hi from by rw[bN,aH (show i<FX.length from hi)];rfl];rfl
 have o:d.toList=Au.toList:=(yy 23 d.toList _ u X).trans Qb;have o:d=Au:=by rw[<-Array.toList_inj];exact o
 subst o;unfold World.var? at a;rw[y]at a;simp only[fF]at a;split at a
 ·rename_i d t fr aa;injection a with a;subst a;exact⟨_,_,aa⟩
 ·cases a
theorem xz {W:World} {l:List (String×DataW Unit)} (a:laidMetH prog l W) (d:(l.all λx=>x.2.handleName?.isNone)=true) (h:("ratoon/cpu.formats",Rows.laid_ratoon_cpu_formats)∈l):FT W:=by
 rw[MakeChecks.laidMetH_plain _ _ _ d]at a;exact vx (Lib.laidMet.reads a h)
end
end Go.Proofs.YtoedmpgicdekmaaGreatDoor
