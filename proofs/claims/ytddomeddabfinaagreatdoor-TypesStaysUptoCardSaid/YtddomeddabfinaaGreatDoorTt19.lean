/- Parts of the proof. -/
import Derived.Test.YtddomeddabfinaaGreatDoorTt00
import Derived.Maps.OwnOps
import Derived.StringKeys
import Derived.Test.YtddomeddabfinaaGreatDoorTt05
import Derived.WalkLawsBesides
import Derived.Test.YtddomeddabfinaaGreatDoorTt18
set_option maxRecDepth 100000
set_option maxHeartbeats 8000000
set_option linter.unusedVariables false
set_option linter.unusedSimpArgs false
set_option linter.defProp false
set_option linter.unusedSectionVars false
namespace Go.Proofs.YtddomeddabfinaaGreatDoor
open Go.Proofs.Tryz
section
open Go.RowKit
open Go.ChangeMaps Go.MapKept Go.WideMaps
open Go.Maps (Keyed string_keyed)
abbrev KF:=List UInt8->Option Value
def cd (w:World) (b:Nat) (L:KF):Prop:=
 ∃es clock,w.heap[b]? =some (.map es clock)/\(∀e∈es.toList,∃s:List UInt8,s.length<=maxLen/\e.key=.string (J s)/\L s=some e.val)/\(∀s v,L s=some v-> ∃e∈es.toList,e.key=.string (J s))/\es.toList.Pairwise (λx y=>x.key≠y.key)
def KF.upd (L:KF) (s:List UInt8) (v:Value):KF:=λx=>if x=s then some v else L x
theorem CA {a b:List UInt8} (h:J a=J b):a=b:=by have:=congrArg ByteArray.toList h;simpa using this
theorem wJ {a b:List UInt8} (h:Value.string (J a)=.string (J b)):a=b:=CA (by injection h)
theorem cd.new (a:World):cd (a.alloc (.map #[] 0)) a.heap.size (λ_=>none):=⟨#[],0,(MapKept.heap_alloc a _).1,by simp,by simp,by simp⟩
theorem cd.lt {h:World} {b:Nat} {L:KF} (a:cd h b L):b<h.heap.size:=let⟨_,_,a,_⟩:=a;(Array.getElem?_eq_some_iff.1 a).1
theorem cd.obj {a w':World} {b:Nat} {L:KF} (j:cd a b L) (h:w'.heap[b]? =a.heap[b]?):cd w' b L:=let⟨es,c,h1,h2⟩:=j;⟨es,c,h.trans h1,h2⟩
theorem cd.congr {h:World} {b:Nat} {L a:KF} (j:cd h b L) (e: ∀s,L s=a s):cd h b a:=by rwa [<-show L=a from funext e]
structure qs (P:Program) (t k e:TypeId) (z:Value):Prop where
 map:P.underlying t=some (.map k e)
 key:P.underlying k=some .string
 zero: ∀w,(zeroValue e).run P w=.ok z w
section
variable {P:Program} {t k e:TypeId} {z:Value} {w:World} {b:Nat} {L:KF}
theorem sF (h:qs P t k e z) {s:List UInt8} (a:s.length<=maxLen):keyOf P k (.string (J s))=some (.string s):=by
 have:=keyOf_string_mk h.key (s:=J s) (by rw[bm];exact a);rw[this];simp[J]
theorem cd.keys (h:qs P t k e z) {es:List MapEntry} (A: ∀e∈es,∃s:List UInt8,s.length<=maxLen/\e.key=.string (J s)/\L s=some e.val): ∀e∈es,∃l,keyOf P k e.key=some l:=λe a=>by
 obtain⟨s,o,j,_⟩:=A e a;exact⟨_,by rw[j];exact sF h o⟩
theorem cd.look (a:qs P t k e z) (ae:cd w b L) {s:List UInt8} (V:s.length<=maxLen):
  (Instr.lookup t (.map (some b)) (.string (J s)) false).run P w=.ok ((L s).getD z) w/\(Instr.lookup t (.map (some b)) (.string (J s)) true).run P w=.ok (.tuple #[(L s).getD z,.bool (L s).isSome]) w:=by
 obtain⟨es,c,M,K,I,_⟩:=ae;have G:=string_keyed a.key;have h:=sF a V;rcases G.find w h es.toList (cd.keys a K)with⟨A,o⟩|⟨j,e0,A,o,h3⟩
 ·have ad:L s=none:=by
   cases hv:L s with
   |none=>rfl
   |some v=>obtain⟨x,R,X⟩:=I s v hv;exact absurd X (o x R)
  constructor<;>simp[Instr.lookup,run_underlying a.map,MapKept.run_getObj_map M,G.check w _ h,A,a.zero,Result.andThen,ad]
 ·obtain⟨af,_,O,ac⟩:=K e0 (List.mem_of_getElem? o);rw[h3]at O;have ab:=wJ O;subst ab;constructor<;>simp[Instr.lookup,run_underlying a.map,MapKept.run_getObj_map M,G.check w _ h,A,Result.andThen,ac]
theorem AR (a:qs P t k e z) (w:World) {s:List UInt8} (A:s.length<=maxLen):
  (Instr.lookup t (.map none) (.string (J s)) false).run P w=.ok z w/\(Instr.lookup t (.map none) (.string (J s)) true).run P w=.ok (.tuple #[z,.bool false]) w:=by
 have o:=string_keyed a.key;have h:=sF a A;rcases o.find w h [] (λe K=>by cases K)with⟨G,_⟩|⟨j,e0,_,h2,_⟩
 ·constructor<;>simp[Instr.lookup,run_underlying a.map,o.check w _ h,G,a.zero,Result.andThen]
 ·simp at h2
theorem cd.store (I:qs P t k e z) (aD:cd w b L) {s:List UInt8} (ai:s.length<=maxLen) (v:Value):
  ∃w',(Instr.mapUpdate t (.map (some b)) (.string (J s)) v).run P w=.ok () w'/\cd w' b (L.upd s v)/\w.grownBy w' (some b):=by
 obtain⟨es,c,K,an,ax,ad⟩:=aD;have ae:=string_keyed I.key;have ab:=sF I ai;have av: ∀x,w.grownBy (setBlock w b x) (some b):=λx=>⟨rfl,rfl,rfl,by simp[setBlock],λi _ o=>heap_setBlock_other K _ (λe=>o (by rw[e]))⟩
 rcases ae.find w ab es.toList (cd.keys I an)with⟨ao,h⟩|⟨j,e0,ao,h,h3⟩
 ·refine⟨setBlock w b (.map (es.push ⟨.string (J s),v,c⟩) (c+1)),?_,⟨_,_,heap_setBlock_same K _,?_,?_,?_⟩,av _⟩
  ·simp[Instr.mapUpdate,run_underlying I.map,MapKept.run_getObj_map K,ae.check w false ab,ao,MapKept.run_setObj_map _ K,Result.andThen,setBlock]
  ·intro x a;simp only[jL,List.mem_append,cP]at a;rcases a with a|rfl
   ·obtain⟨af,R,G,O⟩:=an x a;refine⟨af,R,G,?_⟩;rw[KF.upd,if_neg (λe=>h x a (by rw[G,e]))];exact O
   ·exact⟨s,ai,rfl,by rw[KF.upd,if_pos rfl]⟩
  ·intro x u a;rw[KF.upd]at a;split at a
   ·rename_i V;subst V;exact⟨⟨.string (J x),v,c⟩,by simp,rfl⟩
   ·obtain⟨y,M,A⟩:=ax x u a;exact⟨y,by simp[jL,M],A⟩
  ·rw[jL,List.pairwise_append];refine⟨ad,by simp,λx a y M=> ?_⟩;rw[cP]at M;subst M;exact h x a
 ·have aC:es[j]? =some e0:=by simpa using h
  have ac:j<es.toList.length:=(List.getElem?_eq_some_iff.1 h).1;have al:(es.modify j (λap=>{ap with key:=.string (J s),val:=v})).toList=es.toList.set j {e0 with key:=.string (J s),val:=v}:=by rw[Array.toList_modify,modify_eq_set _ _ _ _ h]
  have aj: ∀i (o:i<es.toList.length),i≠j->es.toList[i].key≠ .string (J s):=λi o X A=>by
   have aw:=List.pairwise_iff_getElem.1 ad;have aB:es.toList[j]=e0:=by rw[aO ac]at h;injection h
   rcases Nat.lt_or_gt_of_ne X with ak|ak
   ·exact aw i j o ac ak (by rw[A,aB,h3])
   ·exact aw j i ac o ak (by rw[A,aB,h3])
  refine⟨setBlock w b (.map (es.modify j (λap=>{ap with key:=.string (J s),val:=v})) c),?_,⟨_,_,heap_setBlock_same K _,?_,?_,?_⟩,av _⟩
  ·simp[Instr.mapUpdate,run_underlying I.map,MapKept.run_getObj_map K,ae.check w false ab,ao,aC,h3,ae.stays w ab,MapKept.run_setObj_map _ K,Result.andThen,setBlock]
  ·intro x a;rw[al]at a;obtain⟨i,o,rfl⟩:=List.getElem_of_mem a;rw[ke];split
   ·exact⟨s,ai,rfl,by rw[KF.upd,if_pos rfl]⟩
   ·rename_i X;have au:i<es.toList.length:=by simpa using o
    obtain⟨af,R,G,O⟩:=an _ (ay au);refine⟨af,R,G,?_⟩;rw[KF.upd,if_neg (λe=>aj i au (λe=>X e.symm) (by rw[G,e]))];exact O
  ·intro x u a;rw[al];rw[KF.upd]at a;split at a
   ·rename_i V;subst V;exact⟨_,List.mem_set ac _,rfl⟩
   ·rename_i V;obtain⟨y,M,A⟩:=ax x u a;refine⟨y,?_,A⟩;obtain⟨i,o,rfl⟩:=List.getElem_of_mem M;have X:i≠j:=by
     rintro rfl;rw[aO o]at h;injection h with h;rw[h,h3]at A;exact V (wJ A).symm
    exact List.mem_iff_getElem?.2 ⟨i,by rw[List.getElem?_set_ne (gp X),aO o]⟩
  ·rw[al];rw[List.pairwise_iff_getElem]at ad⊢;intro ah ag R G O;have ar:ah<es.toList.length:=by simpa using R
   have aq:ag<es.toList.length:=by simpa using G
   rw[ke,ke];split
   ·split
    ·omega
    ·rename_i aA az;subst aA;exact λe=>aj ag aq Qa e.symm
   ·split
    ·rename_i aA az;subst az;exact aj ah ar Qa
    ·exact ad ah ag ar aq O
theorem cZ {ops:Array Oper} {rest:List Oper} {h:Oper} {a:Act} {Q:Exit->Act->World->Prop} (X:qs P t k e z) (V:h.guard=none) (m x v:Operand) (O:h.op=Op.mapUpdate t m x v)
  (ac:cd w b L) (R:a.eval m=.map (some b)) {s:List UInt8} (K:s.length<=maxLen) (A:a.eval x=.string (J s)) (u:Value) (G:a.eval v=u)
  (ab: ∀w',cd w' b (L.upd s u)->w.grownBy w' (some b)->wpList P ops Q rest (a.put h.dst undef) w'):wpList P ops Q (h::rest) a w:=by
 refine wpList_plain V λad I=> ?_;obtain⟨w',M,o,j⟩:=ac.store X K u;unfold Oper.wp;simp[execOp,O,R,A,G,M,Result.andThen];exact I _ _ (ab w' o j)
end
end
section
open Go.RowKit
structure Mv (S:Nat->Prop) (w w':World):Prop where
 os:w'.os=w.os
 tape:w'.tape=w.tape
 output:w'.output=w.output
 size:w.heap.size<=w'.heap.size
 block: ∀k,k<w.heap.size-> ¬S k->w'.heap[k]? =w.heap[k]?
section
variable {S S':Nat->Prop} {a b c w w':World}
theorem Mv.refl (S:Nat->Prop) (w:World):Mv S w w:=⟨rfl,rfl,rfl,ak _,λ_ _ _=>rfl⟩
theorem Mv.trans (h:Mv S a b) (k:Mv S b c):Mv S a c:=
 ⟨k.os.trans h.os,k.tape.trans h.tape,k.output.trans h.output,aR h.size k.size,λi j o=>(k.block i (aF j h.size) o).trans (h.block i j o)⟩
theorem Mv.mono (h:Mv S a b) (A: ∀k,k<a.heap.size->S k->S' k):Mv S' a b:=⟨h.os,h.tape,h.output,h.size,λi j z=>h.block i j λo=>z (A i j o)⟩
theorem Mv.tr (h:Mv S a b) (k:Mv S' b c) (A: ∀i,i<a.heap.size->S' i->S i):Mv S a c:=
 ⟨k.os.trans h.os,k.tape.trans h.tape,k.output.trans h.output,aR h.size k.size,λi j o=>(k.block i (aF j h.size) λz=>o (A i j z)).trans (h.block i j o)⟩
theorem Mv.of_ext (h:az w w'):Mv S w w':=⟨h.os,h.tape,h.output,h.size,λk j _=>h.obj j⟩
theorem Mv.of_grown {row:Option Nat} (h:w.grownBy w' row) (z: ∀k,row=some k->S k):Mv S w w':=⟨h.os,h.tape,h.output,h.size,λk o j=>h.block k o λe=>j (z k e.symm)⟩
theorem Mv.alloc (j:Mv S a b) (h:Obj):Mv S a (b.alloc h):=j.trans (.of_ext (Z b h))
theorem Mv.set (h:Mv S a b) {p:Addr} (z:p.block<a.heap.size->S p.block) (u:Value):Mv S a (b.setCell p u):=
 ⟨h.os,h.tape,h.output,by simpa[World.setCell]using h.size,λk o j=>(Below.heap_setCell b p u k λe=>j (e▸z (e▸o))).trans (h.block k o j)⟩
theorem Mv.un (h:Mv S w.drew w'):Mv S w w':=⟨h.os,h.tape,h.output,h.size,h.block⟩
theorem Mv.keepP {P:Nat->Prop} (j:Mv S w w') (z: ∀k,P k->k<w.heap.size-> ¬S k):cR P w w':=⟨j.size,λk o h=>j.block k h (z k o h)⟩
theorem Mv.blk {g:Nat} {t:TypeId} {j:Array Value} (z:Mv S w w') (h:aU w g t j) (o: ¬S g):aU w' g t j:=(z.block g h.lt o).trans h
theorem Mv.map {g:Nat} {L:KF} (o:Mv S w w') (h:cd w g L) (j: ¬S g):cd w' g L:=h.obj (o.block g h.lt j)
theorem cd.ext {g:Nat} {L:KF} (h:cd w g L) (j:az w w'):cd w' g L:=h.obj (j.obj h.lt)
theorem cd.set {g:Nat} {L:KF} (j:cd w g L) {p:Addr} (h:g≠p.block) (u:Value):cd (w.setCell p u) g L:=j.obj (Below.heap_setCell w p u g h)
theorem cd.grown {g:Nat} {L:KF} {row:Option Nat} (h:cd w g L) (o:w.grownBy w' row) (j:some g≠row):cd w' g L:=h.obj (o.block g h.lt j)
end
theorem Es:qs prog 105 9 4 (.bool false):=⟨underlying105,underlying9,λa=>by kernel_rfl⟩
theorem GK:qs prog 106 9 3 (.int .i64 0):=⟨underlying106,underlying9,λa=>by kernel_rfl⟩
structure CB where
 g:Nat
 bi:Nat
 ba:Nat
 bf:Nat
 sv:Value
 sf:Value
def DH (g:Gl):KF:=λs=>if g.int s=true then some (.bool true)else none
def DI (g:Gl):KF:=λs=>(g.arr s).map (.int .i64)
def GN (g:Gl):KF:=λs=>(g.fn s).map λn=> .int .i64 (n:Int)
def Fk (l:Ls):KF:=λs=>if l s=true then some (.bool true)else none
structure CK (X:CB) (gl:Gl) (lv:Value) (lo:Ls) (w:World):Prop where
 blk:aU w X.g 108 #[X.sv,X.sf,.map (some X.bi),.map (some X.ba),.map (some X.bf),lv]
 i:cd w X.bi (DH gl)
 a:cd w X.ba (DI gl)
 f:cd w X.bf (GN gl)
 l:(lv=.map none/\lo=gc)\/ ∃bl,lv=.map (some bl)/\cd w bl (Fk lo)/\bl≠X.g/\bl≠X.bi/\bl≠X.ba/\bl≠X.bf
 t:BT w
abbrev CB.p (X:CB):Value:=.pointer (some ⟨X.g,0,none⟩)
section
variable {X:CB} {gl:Gl} {lv:Value} {lo:Ls} {w w':World}
theorem CK.ext (j:CK X gl lv lo w) (h:az w w'):CK X gl lv lo w':=
 ⟨j.blk.ext h,j.i.ext h,j.a.ext h,j.f.ext h,j.l.imp id fun⟨G,A,z,o⟩=>⟨G,A,z.ext h,o⟩,j.t.ext h⟩
theorem CK.lookI (a:CK X gl lv lo w) {s:List UInt8} (h:s.length<=1073741824):(Instr.lookup 105 (.map (some X.bi)) (.string (J s)) false).run prog w=.ok (.bool (gl.int s)) w:=by
 rw[(a.i.look Es Qg).1];simp only[DH];cases gl.int s<;>rfl
theorem CK.lookL (a:CK X gl lv lo w) {s:List UInt8} (h:s.length<=1073741824):(Instr.lookup 105 lv (.string (J s)) false).run prog w=.ok (.bool (lo s)) w:=by
 rcases a.l with⟨rfl,rfl⟩|⟨bl,rfl,hm,_⟩
 ·rw[(AR Es w Qg).1];rfl
 ·rw[(hm.look Es Qg).1];simp only[Fk];cases lo s<;>rfl
theorem CK.lookA (h:CK X gl lv lo w) {s:List UInt8} (j:s.length<=1073741824):(Instr.lookup 106 (.map (some X.ba)) (.string (J s)) true).run prog w=.ok (.tuple #[.int .i64 ((gl.arr s).getD 0),.bool (gl.arr s).isSome]) w:=by
 rw[(h.a.look GK Qg).2];simp only[DI];cases gl.arr s<;>rfl
theorem CK.lookF (a:CK X gl lv lo w) {s:List UInt8} (h:s.length<=1073741824):(Instr.lookup 106 (.map (some X.bf)) (.string (J s)) true).run prog w=.ok (.tuple #[.int .i64 (((gl.fn s).getD 0:Nat):Int),.bool (gl.fn s).isSome]) w:=by
 rw[(a.f.look GK Qg).2];simp only[GN];cases gl.fn s<;>rfl
end
def bq (nm:List UInt8) (n:Int):Ending:=.panicked [{v:=.iface 102 (.agg #[.string (J nm),.int .i64 n]),recovered:=false}]
def cu:CR->Ending
 | .ok _=> .returned (.tuple #[])
 | .error (nm,n)=>bq nm n
theorem eD (nm:List UInt8) (n:Int) (a:World):Calls prog 73 #[.string (J nm),.int .i64 n] a λe w'=>e=bq nm n/\az a w':=by
 go_enter func73,ntmps73;go_wp2_with fail;exact⟨rfl,rfl,aS _⟩
theorem um (s:List UInt8) (j:World) (z:BT j):Calls prog 118 #[.string (J s)] j λe w'=>e=.returned (.bool (Ce s))/\az j w':=by
 have o:=O (mC s j z);have A:=O (show Ce s=(fp s).isSome from rfl);clear z;generalize fp s=b at*
 cases b with
 |none=>
  go_enter func118,ntmps118;go_wp2_with (go_at_call 22;refine o.out.mono ?_;rintro e G ⟨rfl,a⟩;unfold Fw;have w:=O a;clear a o);go_ret;exact⟨by rw[A.out];rfl,w.out⟩
 |some x=>
  obtain⟨c,K⟩:=x;go_enter func118,ntmps118;go_wp2_with (go_at_call 22;refine o.out.mono ?_;rintro e G ⟨rfl,a⟩;unfold Fw;have w:=O a;clear a o);go_ret;exact⟨by rw[A.out];rfl,w.out⟩
theorem eE (A:CB) (gl:Gl) (K:Value) (lo:Ls) (w:World) (a:CK A gl K lo w) (s:List UInt8) (z:s.length<=1073741824):
  Calls prog 72 #[A.p,.string (J s)] w λe w'=>e=.returned (.bool (gl.known lo s))/\az w w':=by
 have ak:=a.lookA z;have aj:=a.lookF z;have ai:=a.lookI z;have ah:=a.lookL z;have ag:=a.blk.cell;have j:=O (um s w a.t);have o:=O (show gl.known lo s=((gl.arr s).isSome||((gl.fn s).isSome||(gl.int s||(lo s||Ce s))))from rfl);clear a;obtain⟨g,al,ao,an,ae,af⟩:=A;simp only[CB.p]at*;generalize (gl.arr s).isSome=X at*;generalize (gl.fn s).isSome=V at*;generalize gl.int s=R at*;generalize lo s=M at*;generalize (gl.arr s).getD 0=ac at*;generalize (((gl.fn s).getD 0:Nat):Int)=ab at*
 cases X with
 |true=>
  clear j;go_enter func72,ntmps72;go_wp2_with fail;go_ret;exact⟨by rw[o.out];rfl,aS _⟩
 |false=>
 cases V with
 |true=>
  clear j;go_enter func72,ntmps72;go_wp2_with fail;go_ret;exact⟨by rw[o.out];rfl,aS _⟩
 |false=>
 cases R with
 |true=>
  clear j;go_enter func72,ntmps72;go_wp2_with fail;go_ret;exact⟨by rw[o.out];rfl,aS _⟩
 |false=>
 cases M with
 |true=>
  clear j;go_enter func72,ntmps72;go_wp2_with fail;go_ret;exact⟨by rw[o.out];rfl,aS _⟩
 |false=>
  go_enter func72,ntmps72;go_wp2_with (go_at_call 118;refine j.out.mono ?_;rintro e ad ⟨rfl,G⟩;have I:=O G;clear G j);go_ret;exact⟨by rw[o.out];rfl,I.out⟩
theorem fQ (A:CB) (gl:Gl) (V:Value) (lo:Ls) (z:World) (w:CK A gl V lo z) (s:List UInt8) (K:s.length<=1073741824):
  Calls prog 119 #[A.p,.string (J s)] z λe w'=>e=cu (qb gl lo s)/\az z w':=by
 have ai:=w.lookI K;have ah:=w.lookL K;have ag:=w.blk.cell;have j:=O (eE A gl V lo z w s K);have o:=O (λn W=>eD s n W);have G:=O (show qb gl lo s=if(lo s||gl.int s)=true then .ok ()else if gl.known lo s=true then .error (s,16)else .error (s,15)from rfl);clear w;obtain⟨g,aj,al,ak,ae,af⟩:=A;simp only[CB.p]at*;generalize gl.int s=ad at*;generalize lo s=ac at*;generalize gl.known lo s=ab at*
 cases ac with
 |true=>
  clear j o;go_enter func119,ntmps119;go_wp2_with fail;exact bodyPost_end (results_none rfl _ _ _) rfl ⟨by rw[G.out];rfl,aS _⟩
 |false=>
 cases ad with
 |true=>
  clear j o;go_enter func119,ntmps119;go_wp2_with fail;exact bodyPost_end (results_none rfl _ _ _) rfl ⟨by rw[G.out];rfl,aS _⟩
 |false=>
 cases ab with
 |true=>
  go_enter func119,ntmps119;go_wp2_with (first|(go_at_call 72;refine j.out.mono ?_;rintro e I ⟨rfl,a⟩;have R:=O a;clear a j)|(go_at_call 73;refine(o.out _ _).mono ?_;unfold bq;rintro e X ⟨rfl,a⟩;have M:=O (R.out.trans a);clear a o));exact⟨rfl,by rw[G.out];rfl,M.out⟩
 |false=>
  go_enter func119,ntmps119;go_wp2_with (first|(go_at_call 72;refine j.out.mono ?_;rintro e I ⟨rfl,a⟩;have R:=O a;clear a j)|(go_at_call 73;refine(o.out _ _).mono ?_;unfold bq;rintro e X ⟨rfl,a⟩;have M:=O (R.out.trans a);clear a o));exact⟨rfl,by rw[G.out];rfl,M.out⟩
theorem eR (A:CB) (gl:Gl) (R:Value) (lo:Ls) (w:World) (z:CK A gl R lo w) (s:List UInt8) (V:s.length<=1073741824):
  Calls prog 120 #[A.p,.string (J s)] w λe w'=>e=cu (md gl lo s)/\az w w':=by
 have ah:=z.lookA V;have ag:=z.blk.cell;have j:=O (eE A gl R lo w z s V);have o:=O (λn W=>eD s n W);have M:=O (show md gl lo s=if(gl.arr s).isSome=true then .ok ()else if gl.known lo s=true then .error (s,16)else .error (s,15)from rfl);clear z;obtain⟨g,ai,ak,aj,ae,af⟩:=A;simp only[CB.p]at*;generalize (gl.arr s).isSome=ac at*;generalize (gl.arr s).getD 0=ad at*;generalize gl.known lo s=ab at*
 cases ac with
 |true=>
  clear j o;go_enter func120,ntmps120;go_wp2_with fail;exact bodyPost_ret (results_none rfl _ _ _) rfl ⟨by rw[M.out];rfl,aS _⟩
 |false=>
 cases ab with
 |true=>
  go_enter func120,ntmps120;go_wp2_with (first|(go_at_call 72;refine j.out.mono ?_;rintro e I ⟨rfl,a⟩;have K:=O a;clear a j)|(go_at_call 73;refine(o.out _ _).mono ?_;unfold bq;rintro e X ⟨rfl,a⟩;have G:=O (K.out.trans a);clear a o));exact⟨rfl,by rw[M.out];rfl,G.out⟩
 |false=>
  go_enter func120,ntmps120;go_wp2_with (first|(go_at_call 72;refine j.out.mono ?_;rintro e I ⟨rfl,a⟩;have K:=O a;clear a j)|(go_at_call 73;refine(o.out _ _).mono ?_;unfold bq;rintro e X ⟨rfl,a⟩;have G:=O (K.out.trans a);clear a o));exact⟨rfl,by rw[M.out];rfl,G.out⟩
def iw:=@cd.new
def j6:=@Mv.refl
end
end Go.Proofs.YtddomeddabfinaaGreatDoor
