/- Parts of the proof. -/
import Derived.Test.YtoedmpgicdekmaaGreatDoorCl00
import Derived.Maps.OwnOps
import Derived.StringKeys
import Derived.Test.YtoedmpgicdekmaaGreatDoorCl05
import Derived.WalkLawsBesides
import Derived.Test.YtoedmpgicdekmaaGreatDoorCl15
set_option maxRecDepth 100000
set_option maxHeartbeats 8000000
set_option linter.unusedVariables false
set_option linter.unusedSimpArgs false
set_option linter.defProp false
set_option linter.unusedSectionVars false
namespace Go.Proofs.YtoedmpgicdekmaaGreatDoor
open Go.Proofs.Tryz
section
open Go.RowKit
open Go.ChangeMaps Go.MapKept Go.WideMaps
open Go.Maps (Keyed string_keyed)
abbrev KF:=List UInt8->Option Value
def cB (w:World) (b:Nat) (L:KF):Prop:=
 ∃es clock,w.heap[b]? =some (.map es clock)/\(∀e∈es.toList,∃s:List UInt8,s.length<=maxLen/\e.key= .string (ak s)/\L s=some e.val)/\(∀s v,L s=some v-> ∃e∈es.toList,e.key= .string (ak s))/\es.toList.Pairwise (λx y=>x.key≠y.key)
def KF.upd (L:KF) (s:List UInt8) (v:Value):KF:=λx=>if x=s then some v else L x
theorem C9 {a b:List UInt8} (d:ak a=ak b):a=b:=by have:=congrArg ByteArray.toList d;simpa using this
theorem pJ {a b:List UInt8} (d:Value.string (ak a)= .string (ak b)):a=b:=C9 (by injection d)
theorem cB.new (w:World):cB (w.alloc (.map #[] 0)) w.heap.size (λ_=>none):=⟨#[],0,(MapKept.heap_alloc w _).1,by simp,by simp,by simp⟩
theorem cB.lt {w:World} {b:Nat} {L:KF} (d:cB w b L):b<w.heap.size:=let⟨_,_,d,_⟩:=d;(Array.getElem?_eq_some_iff.1 d).1
theorem cB.obj {w w':World} {b:Nat} {L:KF} (h:cB w b L) (d:w'.heap[b]? =w.heap[b]?):cB w' b L:=let⟨es,c,h1,h2⟩:=h;⟨es,c,d.trans h1,h2⟩
theorem cB.congr {w:World} {b:Nat} {L d:KF} (h:cB w b L) (e: ∀s,L s=d s):cB w b d:=by rwa [<-show L=d from funext e]
structure oS (P:Program) (t k e:TypeId) (z:Value):Prop where
 map:P.underlying t=some (.map k e)
 key:P.underlying k=some .string
 zero: ∀w,(zeroValue e).run P w= .ok z w
section
variable {P:Program} {t k e:TypeId} {z:Value} {w:World} {b:Nat} {L:KF}
theorem mQ (h:oS P t k e z) {s:List UInt8} (d:s.length<=maxLen):keyOf P k (.string (ak s))=some (.string s):=by
 have:=keyOf_string_mk h.key (s:=ak s) (by rw[a7];exact d);rw[this];simp[ak]
theorem cB.keys (h:oS P t k e z) {es:List MapEntry} (y: ∀e∈es,∃s:List UInt8,s.length<=maxLen/\e.key= .string (ak s)/\L s=some e.val): ∀e∈es,∃l,keyOf P k e.key=some l:=λe d=>by
 obtain⟨s,u,o,_⟩:=y e d;exact⟨_,by rw[o];exact mQ h u⟩
theorem cB.look (d:oS P t k e z) (Z:cB w b L) {s:List UInt8} (I:s.length<=maxLen):
  (Instr.lookup t (.map (some b)) (.string (ak s)) false).run P w= .ok ((L s).getD z) w/\(Instr.lookup t (.map (some b)) (.string (ak s)) true).run P w= .ok (.tuple #[(L s).getD z, .bool (L s).isSome]) w:=by
 obtain⟨es,c,F,A,K,_⟩:=Z;have y:=string_keyed d.key;have h:=mQ d I;rcases y.find w h es.toList (cB.keys d A)with⟨u,o⟩|⟨j,e0,u,o,h3⟩
 ·have V:L s=none:=by
   cases hv:L s with
   |none=>rfl
   |some v=>obtain⟨x,H,J⟩:=K s v hv;exact absurd J (o x H)
  constructor<;>simp[Instr.lookup,run_underlying d.map,MapKept.run_getObj_map F,y.check w _ h,u,d.zero,Result.andThen,V]
 ·obtain⟨aa,_,G,R⟩:=A e0 (cD o);rw[h3]at G;have M:=pJ G;subst M;constructor<;>simp[Instr.lookup,run_underlying d.map,MapKept.run_getObj_map F,y.check w _ h,u,Result.andThen,R]
theorem uz (d:oS P t k e z) (w:World) {s:List UInt8} (u:s.length<=maxLen):
  (Instr.lookup t (.map none) (.string (ak s)) false).run P w= .ok z w/\(Instr.lookup t (.map none) (.string (ak s)) true).run P w= .ok (.tuple #[z, .bool false]) w:=by
 have o:=string_keyed d.key;have h:=mQ d u;rcases o.find w h [] (λe A=>by cases A)with⟨y,_⟩|⟨j,e0,_,h2,_⟩
 ·constructor<;>simp[Instr.lookup,run_underlying d.map,o.check w _ h,y,d.zero,Result.andThen]
 ·simp at h2
theorem cB.store (K:oS P t k e z) (aA:cB w b L) {s:List UInt8} (af:s.length<=maxLen) (v:Value):
  ∃w',(Instr.mapUpdate t (.map (some b)) (.string (ak s)) v).run P w= .ok () w'/\cB w' b (L.upd s v)/\w.grownBy w' (some b):=by
 obtain⟨es,c,A,aj,au,Z⟩:=aA;have aa:=string_keyed K.key;have R:=mQ K af;have aq: ∀x,w.grownBy (setBlock w b x) (some b):=λx=>⟨rfl,rfl,rfl,by simp[setBlock],λi _ o=>heap_setBlock_other A _ (λe=>o (by rw[e]))⟩
 rcases aa.find w R es.toList (cB.keys K aj)with⟨al,h⟩|⟨j,e0,al,h,h3⟩
 ·refine⟨setBlock w b (.map (es.push ⟨.string (ak s),v,c⟩) (c+1)),?_,⟨_,_,heap_setBlock_same A _,?_,?_,?_⟩,aq _⟩
  ·simp[Instr.mapUpdate,run_underlying K.map,MapKept.run_getObj_map A,aa.check w false R,al,MapKept.run_setObj_map _ A,Result.andThen,setBlock]
  ·intro x d;simp only[dH,List.mem_append,cH]at d;rcases d with d|rfl
   ·obtain⟨ac,H,y,G⟩:=aj x d;refine⟨ac,H,y,?_⟩;rw[KF.upd,if_neg (λe=>h x d (by rw[y,e]))];exact G
   ·exact⟨s,af,rfl,by rw[KF.upd,if_pos rfl]⟩
  ·intro x ab d;rw[KF.upd]at d;split at d
   ·rename_i I;subst I;exact⟨⟨.string (ak x),v,c⟩,by simp,rfl⟩
   ·obtain⟨M,F,u⟩:=au x ab d;exact⟨M,by simp[dH,F],u⟩
  ·rw[dH,List.pairwise_append];refine⟨Z,by simp,λx d M F=> ?_⟩;rw[cH]at F;subst F;exact h x d
 ·have az:es[j]? =some e0:=by simpa using h
  have V:j<es.toList.length:=(List.getElem?_eq_some_iff.1 h).1;have ai:(es.modify j (λam=>{am with key:= .string (ak s),val:=v})).toList=es.toList.set j {e0 with key:= .string (ak s),val:=v}:=by rw[ej,modify_eq_set _ _ _ _ h]
  have ag: ∀i (o:i<es.toList.length),i≠j->es.toList[i].key≠ .string (ak s):=λi o J u=>by
   have ar:=List.pairwise_iff_getElem.1 Z;have ax:es.toList[j]=e0:=by rw[aI V]at h;injection h
   rcases Nat.lt_or_gt_of_ne J with ah|ah
   ·exact ar i j o V ah (by rw[u,ax,h3])
   ·exact ar j i V o ah (by rw[u,ax,h3])
  refine⟨setBlock w b (.map (es.modify j (λam=>{am with key:= .string (ak s),val:=v})) c),?_,⟨_,_,heap_setBlock_same A _,?_,?_,?_⟩,aq _⟩
  ·simp[Instr.mapUpdate,run_underlying K.map,MapKept.run_getObj_map A,aa.check w false R,al,az,h3,aa.stays w R,MapKept.run_setObj_map _ A,Result.andThen,setBlock]
  ·intro x d;rw[ai]at d;obtain⟨i,o,rfl⟩:=List.getElem_of_mem d;rw[j6];split
   ·exact⟨s,af,rfl,by rw[KF.upd,if_pos rfl]⟩
   ·rename_i J;have ap:i<es.toList.length:=by simpa using o
    obtain⟨ac,H,y,G⟩:=aj _ (ay ap);refine⟨ac,H,y,?_⟩;rw[KF.upd,if_neg (λe=>ag i ap (λe=>J e.symm) (by rw[y,e]))];exact G
  ·intro x ab d;rw[ai];rw[KF.upd]at d;split at d
   ·rename_i I;subst I;exact⟨_,List.mem_set V _,rfl⟩
   ·rename_i I;obtain⟨M,F,u⟩:=au x ab d;refine⟨M,?_,u⟩;obtain⟨i,o,rfl⟩:=List.getElem_of_mem F;have J:i≠j:=by
     rintro rfl;rw[aI o]at h;injection h with h;rw[h,h3]at u;exact I (pJ u).symm
    exact List.mem_iff_getElem?.2 ⟨i,by rw[List.getElem?_set_ne (eK J),aI o]⟩
  ·rw[ai];rw[jG]at Z⊢;intro ae ad H y G;have ao:ae<es.toList.length:=by simpa using H
   have an:ad<es.toList.length:=by simpa using y
   rw[j6,j6];split
   ·split
    ·omega
    ·rename_i aw av;subst aw;exact λe=>ag ad an Qa e.symm
   ·split
    ·rename_i aw av;subst av;exact ag ae ao Qa
    ·exact Z ae ad ao an G
theorem eU {ops:Array Oper} {rest:List Oper} {d:Oper} {a:Act} {Q:Exit->Act->World->Prop} (K:oS P t k e z) (J:d.guard=none) (m x v:Operand) (H:d.op=Op.mapUpdate t m x v)
  (V:cB w b L) (I:a.eval m= .map (some b)) {s:List UInt8} (F:s.length<=maxLen) (y:a.eval x= .string (ak s)) (h:Value) (A:a.eval v=h)
  (R: ∀w',cB w' b (L.upd s h)->w.grownBy w' (some b)->wpList P ops Q rest (a.put d.dst undef) w'):wpList P ops Q (d::rest) a w:=by
 refine wpList_plain J λZ M=> ?_;obtain⟨w',G,u,o⟩:=V.store K F h;unfold Oper.wp;simp[execOp,H,I,y,A,G,Result.andThen];exact M _ _ (R w' u o)
end
end
section
open Go.RowKit
structure Mv (S:Nat->Prop) (w w':World):Prop where
 os:w'.os=w.os
 tape:w'.tape=w.tape
 output:w'.output=w.output
 size:w.heap.size<=w'.heap.size
 block: ∀k,k<w.heap.size-> ¬S k->w'.heap[k]? =w.heap[k]?
section
variable {S S':Nat->Prop} {a b c w w':World}
theorem Mv.refl (S:Nat->Prop) (w:World):Mv S w w:=⟨rfl,rfl,rfl,ah _,λ_ _ _=>rfl⟩
theorem Mv.trans (d:Mv S a b) (k:Mv S b c):Mv S a c:=
 ⟨k.os.trans d.os,k.tape.trans d.tape,k.output.trans d.output,ax d.size k.size,λi h o=>(k.block i (aA h d.size) o).trans (d.block i h o)⟩
theorem Mv.mono (d:Mv S a b) (y: ∀k,k<a.heap.size->S k->S' k):Mv S' a b:=⟨d.os,d.tape,d.output,d.size,λi h u=>d.block i h λo=>u (y i h o)⟩
theorem Mv.tr (d:Mv S a b) (k:Mv S' b c) (y: ∀i,i<a.heap.size->S' i->S i):Mv S a c:=
 ⟨k.os.trans d.os,k.tape.trans d.tape,k.output.trans d.output,ax d.size k.size,λi h o=>(k.block i (aA h d.size) λu=>o (y i h u)).trans (d.block i h o)⟩
theorem Mv.of_ext (d:au w w'):Mv S w w':=⟨d.os,d.tape,d.output,d.size,λk h _=>d.obj h⟩
theorem Mv.ext (d:Mv S w w') (o: ∀k,k<w.heap.size-> ¬S k):au w w':=⟨d.os,d.tape,d.output,d.size,λk h=>d.block k h (o k h)⟩
theorem Mv.of_grown {row:Option Nat} (d:w.grownBy w' row) (u: ∀k,row=some k->S k):Mv S w w':=⟨d.os,d.tape,d.output,d.size,λk o h=>d.block k o λe=>h (u k e.symm)⟩
theorem Mv.alloc (h:Mv S a b) (d:Obj):Mv S a (b.alloc d):=h.trans (.of_ext (aa b d))
theorem Mv.set (d:Mv S a b) {p:Addr} (y:p.block<a.heap.size->S p.block) (h:Value):Mv S a (b.setCell p h):=
 ⟨d.os,d.tape,d.output,by simpa[World.setCell]using d.size,λk u o=>(Below.heap_setCell b p h k λe=>o (e▸y (e▸u))).trans (d.block k u o)⟩
theorem Mv.un (d:Mv S w.drew w'):Mv S w w':=⟨d.os,d.tape,d.output,d.size,d.block⟩
theorem Mv.keepP {P:Nat->Prop} (h:Mv S w w') (u: ∀k,P k->k<w.heap.size-> ¬S k):dE P w w':=⟨h.size,λk o d=>h.block k d (u k o d)⟩
theorem Mv.blk {g:Nat} {t:TypeId} {h:Array Value} (u:Mv S w w') (d:aM w g t h) (o: ¬S g):aM w' g t h:=(u.block g d.lt o).trans d
theorem Mv.map {g:Nat} {L:KF} (o:Mv S w w') (d:cB w g L) (h: ¬S g):cB w' g L:=d.obj (o.block g d.lt h)
theorem cB.ext {g:Nat} {L:KF} (d:cB w g L) (h:au w w'):cB w' g L:=d.obj (h.obj d.lt)
theorem cB.set {g:Nat} {L:KF} (o:cB w g L) {p:Addr} (h:g≠p.block) (d:Value):cB (w.setCell p d) g L:=o.obj (Below.heap_setCell w p d g h)
theorem cB.grown {g:Nat} {L:KF} {row:Option Nat} (d:cB w g L) (o:w.grownBy w' row) (h:some g≠row):cB w' g L:=d.obj (o.block g d.lt h)
end
theorem Ff:oS prog 87 9 4 (.bool false):=⟨underlying87,underlying9,λw=>by kernel_rfl⟩
theorem wu:oS prog 88 9 3 (.int .i64 0):=⟨underlying88,underlying9,λw=>by kernel_rfl⟩
structure CB where
 g:Nat
 bi:Nat
 ba:Nat
 bf:Nat
 sv:Value
 sf:Value
def DO (g:Gl):KF:=λs=>if g.int s=true then some (.bool true)else none
def DP (g:Gl):KF:=λs=>(g.arr s).map (.int .i64)
def IM (g:Gl):KF:=λs=>(g.fn s).map λn=> .int .i64 (n:Int)
def F6 (l:Ls):KF:=λs=>if l s=true then some (.bool true)else none
structure CK (X:CB) (gl:Gl) (lv:Value) (lo:Ls) (w:World):Prop where
 blk:aM w X.g 90 #[X.sv,X.sf, .map (some X.bi), .map (some X.ba), .map (some X.bf),lv]
 i:cB w X.bi (DO gl)
 a:cB w X.ba (DP gl)
 f:cB w X.bf (IM gl)
 l:(lv= .map none/\lo=gM)\/ ∃bl,lv= .map (some bl)/\cB w bl (F6 lo)/\bl≠X.g/\bl≠X.bi/\bl≠X.ba/\bl≠X.bf
 t:BT w
abbrev CB.p (X:CB):Value:= .pointer (some ⟨X.g,0,none⟩)
section
variable {X:CB} {gl:Gl} {lv:Value} {lo:Ls} {w w':World}
theorem CK.ext (h:CK X gl lv lo w) (d:au w w'):CK X gl lv lo w':=
 ⟨h.blk.ext d,h.i.ext d,h.a.ext d,h.f.ext d,h.l.imp id fun⟨A,y,u,o⟩=>⟨A,y,u.ext d,o⟩,h.t.ext d⟩
theorem CK.lookI (d:CK X gl lv lo w) {s:List UInt8} (h:s.length<=1073741824):(Instr.lookup 87 (.map (some X.bi)) (.string (ak s)) false).run prog w= .ok (.bool (gl.int s)) w:=by
 rw[(d.i.look Ff Qj).1];simp only[DO];cases gl.int s<;>rfl
theorem CK.lookL (d:CK X gl lv lo w) {s:List UInt8} (h:s.length<=1073741824):(Instr.lookup 87 lv (.string (ak s)) false).run prog w= .ok (.bool (lo s)) w:=by
 rcases d.l with⟨rfl,rfl⟩|⟨bl,rfl,hm,_⟩
 ·rw[(uz Ff w Qj).1];rfl
 ·rw[(hm.look Ff Qj).1];simp only[F6];cases lo s<;>rfl
theorem CK.lookA (d:CK X gl lv lo w) {s:List UInt8} (h:s.length<=1073741824):(Instr.lookup 88 (.map (some X.ba)) (.string (ak s)) true).run prog w= .ok (.tuple #[.int .i64 ((gl.arr s).getD 0), .bool (gl.arr s).isSome]) w:=by
 rw[(d.a.look wu Qj).2];simp only[DP];cases gl.arr s<;>rfl
theorem CK.lookF (d:CK X gl lv lo w) {s:List UInt8} (h:s.length<=1073741824):(Instr.lookup 88 (.map (some X.bf)) (.string (ak s)) true).run prog w= .ok (.tuple #[.int .i64 (((gl.fn s).getD 0:Nat):Int), .bool (gl.fn s).isSome]) w:=by
 rw[(d.f.look wu Qj).2];simp only[IM];cases gl.fn s<;>rfl
end
def bh (nm:List UInt8) (n:Int):Ending:= .panicked [{v:= .iface 84 (.agg #[.string (ak nm), .int .i64 n]),recovered:=false}]
def cG:CR->Ending
 | .ok _=> .returned (.tuple #[])
 | .error (nm,n)=>bh nm n
theorem ew (nm:List UInt8) (n:Int) (w:World):Calls prog 65 #[.string (ak nm), .int .i64 n] w λe w'=>e=bh nm n/\au w w':=by
 go_enter func65,ntmps65;go_wp2_with fail;exact⟨rfl,rfl,aG _⟩
theorem u_ (s:List UInt8) (w:World) (y:BT w):Calls prog 123 #[.string (ak s)] w λe w'=>e= .returned (.bool (H' s))/\au w w':=by
 have o:=G (mh s w y);have A:=G (show H' s=(gh s).isSome from rfl);clear y;generalize gh s=b at*
 cases b with
 |none=>
  go_enter func123,ntmps123;go_wp2_with (go_at_call 175;refine o.out.mono ?_;rintro e F ⟨rfl,d⟩;unfold GS;have u:=G d;clear d o);go_ret;exact⟨by rw[A.out];rfl,u.out⟩
 |some x=>
  obtain⟨c,a⟩:=x;go_enter func123,ntmps123;go_wp2_with (go_at_call 175;refine o.out.mono ?_;rintro e F ⟨rfl,d⟩;unfold GS;have u:=G d;clear d o);go_ret;exact⟨by rw[A.out];rfl,u.out⟩
theorem eA (X:CB) (gl:Gl) (lv:Value) (lo:Ls) (w:World) (d:CK X gl lv lo w) (s:List UInt8) (y:s.length<=1073741824):
  Calls prog 64 #[X.p, .string (ak s)] w λe w'=>e= .returned (.bool (gl.known lo s))/\au w w':=by
 have ac:=d.lookA y;have ab:=d.lookF y;have aa:=d.lookI y;have Z:=d.lookL y;have V:=d.blk.cell;have o:=G (u_ s w d.t);have u:=G (show gl.known lo s=((gl.arr s).isSome||((gl.fn s).isSome||(gl.int s||(lo s||H' s))))from rfl);clear d;obtain⟨g,ad,af,ae,M,R⟩:=X;simp only[CB.p]at*;generalize (gl.arr s).isSome=b1 at*;generalize (gl.fn s).isSome=b2 at*;generalize gl.int s=b3 at*;generalize lo s=F at*;generalize (gl.arr s).getD 0=J at*;generalize (((gl.fn s).getD 0:Nat):Int)=I at*
 cases b1 with
 |true=>
  clear o;go_enter func64,ntmps64;go_wp2_with fail;go_ret;exact⟨by rw[u.out];rfl,aG _⟩
 |false=>
 cases b2 with
 |true=>
  clear o;go_enter func64,ntmps64;go_wp2_with fail;go_ret;exact⟨by rw[u.out];rfl,aG _⟩
 |false=>
 cases b3 with
 |true=>
  clear o;go_enter func64,ntmps64;go_wp2_with fail;go_ret;exact⟨by rw[u.out];rfl,aG _⟩
 |false=>
 cases F with
 |true=>
  clear o;go_enter func64,ntmps64;go_wp2_with fail;go_ret;exact⟨by rw[u.out];rfl,aG _⟩
 |false=>
  go_enter func64,ntmps64;go_wp2_with (go_at_call 123;refine o.out.mono ?_;rintro e K ⟨rfl,A⟩;have H:=G A;clear A o);go_ret;exact⟨by rw[u.out];rfl,H.out⟩
theorem fE (X:CB) (gl:Gl) (lv:Value) (lo:Ls) (w:World) (y:CK X gl lv lo w) (s:List UInt8) (F:s.length<=1073741824):
  Calls prog 124 #[X.p, .string (ak s)] w λe w'=>e=cG (rT gl lo s)/\au w w':=by
 have ac:=y.lookI F;have ab:=y.lookL F;have aa:=y.blk.cell;have o:=G (eA X gl lv lo w y s F);have u:=G (λn W=>ew s n W);have A:=G (show rT gl lo s=if(lo s||gl.int s)=true then .ok ()else if gl.known lo s=true then .error (s,16)else .error (s,15)from rfl);clear y;obtain⟨g,ad,af,ae,V,Z⟩:=X;simp only[CB.p]at*;generalize gl.int s=b3 at*;generalize lo s=R at*;generalize gl.known lo s=M at*
 cases R with
 |true=>
  clear o u;go_enter func124,ntmps124;go_wp2_with fail;exact bodyPost_end (results_none rfl _ _ _) rfl ⟨by rw[A.out];rfl,aG _⟩
 |false=>
 cases b3 with
 |true=>
  clear o u;go_enter func124,ntmps124;go_wp2_with fail;exact bodyPost_end (results_none rfl _ _ _) rfl ⟨by rw[A.out];rfl,aG _⟩
 |false=>
 cases M with
 |true=>
  go_enter func124,ntmps124;go_wp2_with (first|(go_at_call 64;refine o.out.mono ?_;rintro e K ⟨rfl,d⟩;have I:=G d;clear d o)|(go_at_call 65;refine(u.out _ _).mono ?_;unfold bh;rintro e J ⟨rfl,d⟩;have H:=G (I.out.trans d);clear d u));exact⟨rfl,by rw[A.out];rfl,H.out⟩
 |false=>
  go_enter func124,ntmps124;go_wp2_with (first|(go_at_call 64;refine o.out.mono ?_;rintro e K ⟨rfl,d⟩;have I:=G d;clear d o)|(go_at_call 65;refine(u.out _ _).mono ?_;unfold bh;rintro e J ⟨rfl,d⟩;have H:=G (I.out.trans d);clear d u));exact⟨rfl,by rw[A.out];rfl,H.out⟩
theorem eQ (X:CB) (gl:Gl) (lv:Value) (lo:Ls) (w:World) (y:CK X gl lv lo w) (s:List UInt8) (I:s.length<=1073741824):
  Calls prog 125 #[X.p, .string (ak s)] w λe w'=>e=cG (mC gl lo s)/\au w w':=by
 have ab:=y.lookA I;have aa:=y.blk.cell;have o:=G (eA X gl lv lo w y s I);have u:=G (λn W=>ew s n W);have H:=G (show mC gl lo s=if(gl.arr s).isSome=true then .ok ()else if gl.known lo s=true then .error (s,16)else .error (s,15)from rfl);clear y;obtain⟨g,ac,ae,ad,V,Z⟩:=X;simp only[CB.p]at*;generalize (gl.arr s).isSome=b1 at*;generalize (gl.arr s).getD 0=R at*;generalize gl.known lo s=M at*
 cases b1 with
 |true=>
  clear o u;go_enter func125,ntmps125;go_wp2_with fail;exact bodyPost_ret (results_none rfl _ _ _) rfl ⟨by rw[H.out];rfl,aG _⟩
 |false=>
 cases M with
 |true=>
  go_enter func125,ntmps125;go_wp2_with (first|(go_at_call 64;refine o.out.mono ?_;rintro e K ⟨rfl,d⟩;have F:=G d;clear d o)|(go_at_call 65;refine(u.out _ _).mono ?_;unfold bh;rintro e J ⟨rfl,d⟩;have A:=G (F.out.trans d);clear d u));exact⟨rfl,by rw[H.out];rfl,A.out⟩
 |false=>
  go_enter func125,ntmps125;go_wp2_with (first|(go_at_call 64;refine o.out.mono ?_;rintro e K ⟨rfl,d⟩;have F:=G d;clear d o)|(go_at_call 65;refine(u.out _ _).mono ?_;unfold bh;rintro e J ⟨rfl,d⟩;have A:=G (F.out.trans d);clear d u));exact⟨rfl,by rw[H.out];rfl,A.out⟩
def cQ:=@Mv.of_ext
def gn:=@Mv.refl
def jU:=@Mv.of_grown
def kr:=@cB.new
def oT:=@Mv.blk
def qN:=@cB.keys
end
end Go.Proofs.YtoedmpgicdekmaaGreatDoor
