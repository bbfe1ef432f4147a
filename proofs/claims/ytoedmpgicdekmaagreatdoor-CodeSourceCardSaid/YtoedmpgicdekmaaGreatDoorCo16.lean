/- Parts of the proof. -/
import Derived.Test.YtoedmpgicdekmaaGreatDoorCo15
set_option maxRecDepth 100000
set_option maxHeartbeats 8000000
set_option linter.all false
namespace Go.Proofs.YtoedmpgicdekmaaGreatDoor
open Go.Proofs.Tryz
section
open Go.RowKit
open Go.ChangeMaps Go.MapKept Go.WideMaps
open Go.Maps (Keyed string_keyed)
abbrev KF:=List UInt8->Option Value
def cH (w:World) (b:Nat) (L:KF):Prop:=
 ∃es clock,w.heap[b]? =some (.map es clock)/\(∀e∈es.toList,∃s:List UInt8,s.length<=maxLen/\e.key=.string (Z s)/\L s=some e.val)/\(∀s v,L s=some v-> ∃e∈es.toList,e.key=.string (Z s))/\es.toList.Pairwise (λx y=>x.key≠y.key)
def KF.upd (L:KF) (s:List UInt8) (v:Value):KF:=λx=>if x=s then some v else L x
theorem DU {a b:List UInt8} (d:Z a=Z b):a=b:=by have:=congrArg ByteArray.toList d;simpa using this
theorem qb {a b:List UInt8} (d:Value.string (Z a)=.string (Z b)):a=b:=DU (by injection d)
theorem cH.new (a:World):cH (a.alloc (.map #[] 0)) a.heap.size (λ_=>none):=⟨#[],0,(MapKept.heap_alloc a _).1,by simp,by simp,by simp⟩
theorem cH.lt {d:World} {b:Nat} {L:KF} (a:cH d b L):b<d.heap.size:=let⟨_,_,a,_⟩:=a;(Array.getElem?_eq_some_iff.1 a).1
theorem cH.obj {a w':World} {b:Nat} {L:KF} (h:cH a b L) (d:w'.heap[b]? =a.heap[b]?):cH w' b L:=let⟨es,c,h1,h2⟩:=h;⟨es,c,d.trans h1,h2⟩
theorem cH.congr {a:World} {b:Nat} {L M:KF} (d:cH a b L) (e: ∀s,L s=M s):cH a b M:=by rwa [<-show L=M from funext e]
structure pC (P:Program) (t k e:TypeId) (z:Value):Prop where
 map:P.underlying t=some (.map k e)
 key:P.underlying k=some .string
 zero: ∀w,(zeroValue e).run P w=.ok z w
section
variable {P:Program} {t k e:TypeId} {z:Value} {w:World} {b:Nat} {L:KF}
theorem nA (d:pC P t k e z) {s:List UInt8} (a:s.length<=maxLen):keyOf P k (.string (Z s))=some (.string s):=by
 have:=keyOf_string_mk d.key (s:=Z s) (by rw[aZ];exact a);rw[this];simp[Z]
theorem cH.keys (d:pC P t k e z) {es:List MapEntry} (u: ∀e∈es,∃s:List UInt8,s.length<=maxLen/\e.key=.string (Z s)/\L s=some e.val): ∀e∈es,∃l,keyOf P k e.key=some l:=λe a=>by
 obtain⟨s,o,h,_⟩:=u e a;exact⟨_,by rw[h];exact nA d o⟩
theorem cH.look (a:pC P t k e z) (H:cH w b L) {s:List UInt8} (G:s.length<=maxLen):
  (Instr.lookup t (.map (some b)) (.string (Z s)) false).run P w=.ok ((L s).getD z) w/\(Instr.lookup t (.map (some b)) (.string (Z s)) true).run P w=.ok (.tuple #[(L s).getD z,.bool (L s).isSome]) w:=by
 obtain⟨es,c,y,u,V,_⟩:=H;have K:=string_keyed a.key;have d:=nA a G;rcases K.find w d es.toList (cH.keys a u)with⟨o,h⟩|⟨j,e0,o,h,h3⟩
 ·have I:L s=none:=by
   cases hv:L s with
   |none=>rfl
   |some v=>obtain⟨x,F,R⟩:=V s v hv;exact absurd R (h x F)
  constructor<;>simp[Instr.lookup,run_underlying a.map,MapKept.run_getObj_map y,K.check w _ d,o,a.zero,Result.andThen,I]
 ·obtain⟨ad,_,A,aa⟩:=u e0 (cI h);rw[h3]at A;have X:=qb A;subst X;constructor<;>simp[Instr.lookup,run_underlying a.map,MapKept.run_getObj_map y,K.check w _ d,o,Result.andThen,aa]
theorem vh (a:pC P t k e z) (w:World) {s:List UInt8} (h:s.length<=maxLen):
  (Instr.lookup t (.map none) (.string (Z s)) false).run P w=.ok z w/\(Instr.lookup t (.map none) (.string (Z s)) true).run P w=.ok (.tuple #[z,.bool false]) w:=by
 have K:=string_keyed a.key;have d:=nA a h;rcases K.find w d [] (λe u=>by cases u)with⟨o,_⟩|⟨j,e0,_,h2,_⟩
 ·constructor<;>simp[Instr.lookup,run_underlying a.map,K.check w _ d,o,a.zero,Result.andThen]
 ·simp at h2
theorem cH.store (V:pC P t k e z) (aC:cH w b L) {s:List UInt8} (ah:s.length<=maxLen) (v:Value):
  ∃w',(Instr.mapUpdate t (.map (some b)) (.string (Z s)) v).run P w=.ok () w'/\cH w' b (L.upd s v)/\w.grownBy w' (some b):=by
 obtain⟨es,c,u,am,aw,H⟩:=aC;have K:=string_keyed V.key;have aa:=nA V ah;have au: ∀x,w.grownBy (setBlock w b x) (some b):=λx=>⟨rfl,rfl,rfl,by simp[setBlock],λi _ hi=>heap_setBlock_other u _ (λe=>hi (by rw[e]))⟩
 rcases K.find w aa es.toList (cH.keys V am)with⟨an,d⟩|⟨j,e0,an,d,h3⟩
 ·refine⟨setBlock w b (.map (es.push ⟨.string (Z s),v,c⟩) (c+1)),?_,⟨_,_,heap_setBlock_same u _,?_,?_,?_⟩,au _⟩
  ·simp[Instr.mapUpdate,run_underlying V.map,MapKept.run_getObj_map u,K.check w false aa,an,MapKept.run_setObj_map _ u,Result.andThen,setBlock]
  ·intro x a;simp only[dP,fU,bR]at a;rcases a with a|rfl
   ·obtain⟨ae,F,o,A⟩:=am x a;refine⟨ae,F,o,?_⟩;rw[KF.upd,if_neg (λe=>d x a (by rw[o,e]))];exact A
   ·exact⟨s,ah,rfl,by rw[KF.upd,if_pos rfl]⟩
  ·intro x ad a;rw[KF.upd]at a;split at a
   ·rename_i G;subst G;exact⟨⟨.string (Z x),v,c⟩,by simp,rfl⟩
   ·obtain⟨X,y,h⟩:=aw x ad a;exact⟨X,by simp[dP,y],h⟩
  ·rw[dP,List.pairwise_append];refine⟨H,by simp,λx a X y=> ?_⟩;rw[bR]at y;subst y;exact d x a
 ·have aB:es[j]? =some e0:=by simpa using d
  have I:j<es.toList.length:=(List.getElem?_eq_some_iff.1 d).1;have al:(es.modify j (λao=>{ao with key:=.string (Z s),val:=v})).toList=es.toList.set j {e0 with key:=.string (Z s),val:=v}:=by rw[eB,modify_eq_set _ _ _ _ d]
  have ai: ∀i (hi:i<es.toList.length),i≠j->es.toList[i].key≠ .string (Z s):=λi hi R h=>by
   have av:=List.pairwise_iff_getElem.1 H;have aA:es.toList[j]=e0:=by rw[aH I]at d;injection d
   rcases Nat.lt_or_gt_of_ne R with aj|aj
   ·exact av i j hi I aj (by rw[h,aA,h3])
   ·exact av j i I hi aj (by rw[h,aA,h3])
  refine⟨setBlock w b (.map (es.modify j (λao=>{ao with key:=.string (Z s),val:=v})) c),?_,⟨_,_,heap_setBlock_same u _,?_,?_,?_⟩,au _⟩
  ·simp[Instr.mapUpdate,run_underlying V.map,MapKept.run_getObj_map u,K.check w false aa,an,aB,h3,K.stays w aa,MapKept.run_setObj_map _ u,Result.andThen,setBlock]
  ·intro x a;rw[al]at a;obtain⟨i,hi,rfl⟩:=List.getElem_of_mem a;rw[kt];split
   ·exact⟨s,ah,rfl,by rw[KF.upd,if_pos rfl]⟩
   ·rename_i R;have ar:i<es.toList.length:=by simpa using hi
    obtain⟨ae,F,o,A⟩:=am _ (ax ar);refine⟨ae,F,o,?_⟩;rw[KF.upd,if_neg (λe=>ai i ar (λe=>R e.symm) (by rw[o,e]))];exact A
  ·intro x ad a;rw[al];rw[KF.upd]at a;split at a
   ·rename_i G;subst G;exact⟨_,List.mem_set I _,rfl⟩
   ·rename_i G;obtain⟨X,y,h⟩:=aw x ad a;refine⟨X,?_,h⟩;obtain⟨i,hi,rfl⟩:=List.getElem_of_mem y;have R:i≠j:=by
     rintro rfl;rw[aH hi]at d;injection d with d;rw[d,h3]at h;exact G (qb h).symm
    exact List.mem_iff_getElem?.2 ⟨i,by rw[List.getElem?_set_ne (eS R),aH hi]⟩
  ·rw[al];rw[jZ]at H⊢;intro ag af F o A;have aq:ag<es.toList.length:=by simpa using F
   have ap:af<es.toList.length:=by simpa using o
   rw[kt,kt];split
   ·split
    ·omega
    ·rename_i az ay;subst az;exact λe=>ai af ap J e.symm
   ·split
    ·rename_i az ay;subst ay;exact ai ag aq J
    ·exact H ag af aq ap A
theorem fi {ops:Array Oper} {rest:List Oper} {d:Oper} {a:Act} {Q:Exit->Act->World->Prop} (aa:pC P t k e z) (X:d.guard=none) (m x v:Operand) (R:d.op=Op.mapUpdate t m x v)
  (ad:cH w b L) (V:a.eval m=.map (some b)) {s:List UInt8} (F:s.length<=maxLen) (y:a.eval x=.string (Z s)) (h:Value) (A:a.eval v=h)
  (H: ∀w',cH w' b (L.upd s h)->w.grownBy w' (some b)->wpList P ops Q rest (a.put d.dst undef) w'):wpList P ops Q (d::rest) a w:=by
 refine wpList_plain X λae I=> ?_;obtain⟨w',G,u,o⟩:=ad.store aa F h;unfold Oper.wp;simp[execOp,R,V,y,A,G,Result.andThen];exact I _ _ (H w' u o)
end
end
section
open Go.RowKit
structure Mv (S:Nat->Prop) (w w':World):Prop where
 os:w'.os=w.os
 tape:w'.tape=w.tape
 output:w'.output=w.output
 size:w.heap.size<=w'.heap.size
 block: ∀k,k<w.heap.size-> ¬S k->w'.heap[k]? =w.heap[k]?
section
variable {S S':Nat->Prop} {a b c w w':World}
theorem Mv.refl (S:Nat->Prop) (w:World):Mv S w w:=⟨rfl,rfl,rfl,ah _,λ_ _ _=>rfl⟩
theorem Mv.trans (d:Mv S a b) (k:Mv S b c):Mv S a c:=
 ⟨k.os.trans d.os,k.tape.trans d.tape,k.output.trans d.output,ay d.size k.size,λi hi h=>(k.block i (aA hi d.size) h).trans (d.block i hi h)⟩
theorem Mv.mono (d:Mv S a b) (u: ∀k,k<a.heap.size->S k->S' k):Mv S' a b:=⟨d.os,d.tape,d.output,d.size,λi hi o=>d.block i hi λh=>o (u i hi h)⟩
theorem Mv.tr (d:Mv S a b) (k:Mv S' b c) (u: ∀i,i<a.heap.size->S' i->S i):Mv S a c:=
 ⟨k.os.trans d.os,k.tape.trans d.tape,k.output.trans d.output,ay d.size k.size,λi hi h=>(k.block i (aA hi d.size) λo=>h (u i hi o)).trans (d.block i hi h)⟩
theorem Mv.of_ext (d:au w w'):Mv S w w':=⟨d.os,d.tape,d.output,d.size,λk h _=>d.obj h⟩
theorem Mv.ext (d:Mv S w w') (o: ∀k,k<w.heap.size-> ¬S k):au w w':=⟨d.os,d.tape,d.output,d.size,λk h=>d.block k h (o k h)⟩
theorem Mv.of_grown {row:Option Nat} (d:w.grownBy w' row) (u: ∀k,row=some k->S k):Mv S w w':=⟨d.os,d.tape,d.output,d.size,λk o h=>d.block k o λe=>h (u k e.symm)⟩
theorem Mv.alloc (h:Mv S a b) (d:Obj):Mv S a (b.alloc d):=h.trans (.of_ext (aa b d))
theorem Mv.set (d:Mv S a b) {p:Addr} (y:p.block<a.heap.size->S p.block) (h:Value):Mv S a (b.setCell p h):=
 ⟨d.os,d.tape,d.output,by simpa[World.setCell]using d.size,λk u o=>(Below.heap_setCell b p h k λe=>o (e▸y (e▸u))).trans (d.block k u o)⟩
theorem Mv.un (d:Mv S w.drew w'):Mv S w w':=⟨d.os,d.tape,d.output,d.size,d.block⟩
theorem Mv.keepP {P:Nat->Prop} (h:Mv S w w') (u: ∀k,P k->k<w.heap.size-> ¬S k):dM P w w':=⟨h.size,λk o d=>h.block k d (u k o d)⟩
theorem Mv.blk {g:Nat} {t:TypeId} {h:Array Value} (u:Mv S w w') (d:aO w g t h) (o: ¬S g):aO w' g t h:=(u.block g d.lt o).trans d
theorem Mv.map {g:Nat} {L:KF} (o:Mv S w w') (d:cH w g L) (h: ¬S g):cH w' g L:=d.obj (o.block g d.lt h)
theorem cH.ext {g:Nat} {L:KF} (d:cH w g L) (h:au w w'):cH w' g L:=d.obj (h.obj d.lt)
theorem cH.set {g:Nat} {L:KF} (o:cH w g L) {p:Addr} (h:g≠p.block) (d:Value):cH (w.setCell p d) g L:=o.obj (Below.heap_setCell w p d g h)
theorem cH.grown {g:Nat} {L:KF} {row:Option Nat} (d:cH w g L) (o:w.grownBy w' row) (h:some g≠row):cH w' g L:=d.obj (o.block g d.lt h)
end
theorem FR:pC prog 87 9 4 (.bool false):=⟨underlying87,underlying9,λa=>by kernel_rfl⟩
theorem xn:pC prog 88 9 3 (.int .i64 0):=⟨underlying88,underlying9,λa=>by kernel_rfl⟩
structure CB where
 g:Nat
 bi:Nat
 ba:Nat
 bf:Nat
 sv:Value
 sf:Value
def EG (g:Gl):KF:=λs=>if g.int s=true then some (.bool true)else none
def EH (g:Gl):KF:=λs=>(g.arr s).map (.int .i64)
def I0 (g:Gl):KF:=λs=>(g.fn s).map λn=> .int .i64 (n:Int)
def GN (l:Ls):KF:=λs=>if l s=true then some (.bool true)else none
structure CK (X:CB) (gl:Gl) (lv:Value) (lo:Ls) (w:World):Prop where
 blk:aO w X.g 90 #[X.sv,X.sf,.map (some X.bi),.map (some X.ba),.map (some X.bf),lv]
 i:cH w X.bi (EG gl)
 a:cH w X.ba (EH gl)
 f:cH w X.bf (I0 gl)
 l:(lv=.map none/\lo=gK)\/ ∃bl,lv=.map (some bl)/\cH w bl (GN lo)/\bl≠X.g/\bl≠X.bi/\bl≠X.ba/\bl≠X.bf
 t:BT w
abbrev CB.p (X:CB):Value:=.pointer (some ⟨X.g,0,none⟩)
section
variable {X:CB} {gl:Gl} {lv:Value} {lo:Ls} {w w':World}
theorem CK.ext (h:CK X gl lv lo w) (d:au w w'):CK X gl lv lo w':=
 ⟨h.blk.ext d,h.i.ext d,h.a.ext d,h.f.ext d,h.l.imp id fun⟨z,y,u,o⟩=>⟨z,y,u.ext d,o⟩,h.t.ext d⟩
theorem CK.lookI (a:CK X gl lv lo w) {s:List UInt8} (d:s.length<=1073741824):(Instr.lookup 87 (.map (some X.bi)) (.string (Z s)) false).run prog w=.ok (.bool (gl.int s)) w:=by
 rw[(a.i.look FR Qj).1];simp only[EG];cases gl.int s<;>rfl
theorem CK.lookL (a:CK X gl lv lo w) {s:List UInt8} (d:s.length<=1073741824):(Instr.lookup 87 lv (.string (Z s)) false).run prog w=.ok (.bool (lo s)) w:=by
 rcases a.l with⟨rfl,rfl⟩|⟨bl,rfl,hm,_⟩
 ·rw[(vh FR w Qj).1];rfl
 ·rw[(hm.look FR Qj).1];simp only[GN];cases lo s<;>rfl
theorem CK.lookA (d:CK X gl lv lo w) {s:List UInt8} (h:s.length<=1073741824):(Instr.lookup 88 (.map (some X.ba)) (.string (Z s)) true).run prog w=.ok (.tuple #[.int .i64 ((gl.arr s).getD 0),.bool (gl.arr s).isSome]) w:=by
 rw[(d.a.look xn Qj).2];simp only[EH];cases gl.arr s<;>rfl
theorem CK.lookF (a:CK X gl lv lo w) {s:List UInt8} (d:s.length<=1073741824):(Instr.lookup 88 (.map (some X.bf)) (.string (Z s)) true).run prog w=.ok (.tuple #[.int .i64 (((gl.fn s).getD 0:Nat):Int),.bool (gl.fn s).isSome]) w:=by
 rw[(a.f.look xn Qj).2];simp only[I0];cases gl.fn s<;>rfl
end
def bw (nm:List UInt8) (n:Int):Ending:=.panicked [{v:=.iface 84 (.agg #[.string (Z nm),.int .i64 n]),recovered:=false}]
def cL:CR->Ending
 | .ok _=> .returned (.tuple #[])
 | .error (nm,n)=>bw nm n
theorem eJ (nm:List UInt8) (n:Int) (a:World):Calls prog 65 #[.string (Z nm),.int .i64 n] a λe w'=>e=bw nm n/\au a w':=by
 go_enter func65,ntmps65;go_wp2_with fail;exact⟨rfl,rfl,aI _⟩
theorem vU (s:List UInt8) (d:World) (w:BT d):Calls prog 123 #[.string (Z s)] d λe w'=>e=.returned (.bool (Ip s))/\au d w':=by
 have o:=G (mL s d w);have y:=G (show Ip s=(fX s).isSome from rfl);clear w;generalize fX s=b at*
 cases b with
 |none=>
  go_enter func123,ntmps123;go_wp2_with (go_at_call 175;refine o.out.mono ?_;rintro e z ⟨rfl,a⟩;unfold G7;have u:=G a;clear a o);go_ret;exact⟨by rw[y.out];rfl,u.out⟩
 |some x=>
  obtain⟨c,A⟩:=x;go_enter func123,ntmps123;go_wp2_with (go_at_call 175;refine o.out.mono ?_;rintro e z ⟨rfl,a⟩;unfold G7;have u:=G a;clear a o);go_ret;exact⟨by rw[y.out];rfl,u.out⟩
theorem eK (y:CB) (gl:Gl) (A:Value) (lo:Ls) (u:World) (a:CK y gl A lo u) (s:List UInt8) (w:s.length<=1073741824):
  Calls prog 64 #[y.p,.string (Z s)] u λe w'=>e=.returned (.bool (gl.known lo s))/\au u w':=by
 have ah:=a.lookA w;have ag:=a.lookF w;have af:=a.lookI w;have ae:=a.lookL w;have ad:=a.blk.cell;have d:=G (vU s u a.t);have o:=G (show gl.known lo s=((gl.arr s).isSome||((gl.fn s).isSome||(gl.int s||(lo s||Ip s))))from rfl);clear a;obtain⟨g,ai,al,aj,I,H⟩:=y;simp only[CB.p]at*;generalize (gl.arr s).isSome=b1 at*;generalize (gl.fn s).isSome=b2 at*;generalize gl.int s=b3 at*;generalize lo s=F at*;generalize (gl.arr s).getD 0=X at*;generalize (((gl.fn s).getD 0:Nat):Int)=V at*
 cases b1 with
 |true=>
  clear d;go_enter func64,ntmps64;go_wp2_with fail;go_ret;exact⟨by rw[o.out];rfl,aI _⟩
 |false=>
 cases b2 with
 |true=>
  clear d;go_enter func64,ntmps64;go_wp2_with fail;go_ret;exact⟨by rw[o.out];rfl,aI _⟩
 |false=>
 cases b3 with
 |true=>
  clear d;go_enter func64,ntmps64;go_wp2_with fail;go_ret;exact⟨by rw[o.out];rfl,aI _⟩
 |false=>
 cases F with
 |true=>
  clear d;go_enter func64,ntmps64;go_wp2_with fail;go_ret;exact⟨by rw[o.out];rfl,aI _⟩
 |false=>
  go_enter func64,ntmps64;go_wp2_with (go_at_call 123;refine d.out.mono ?_;rintro e aa ⟨rfl,z⟩;have R:=G z;clear z d);go_ret;exact⟨by rw[o.out];rfl,R.out⟩
theorem fS (y:CB) (gl:Gl) (V:Value) (lo:Ls) (w:World) (u:CK y gl V lo w) (s:List UInt8) (A:s.length<=1073741824):
  Calls prog 124 #[y.p,.string (Z s)] w λe w'=>e=cL (rj gl lo s)/\au w w':=by
 have ah:=u.lookI A;have ag:=u.lookL A;have af:=u.blk.cell;have d:=G (eK y gl V lo w u s A);have o:=G (λn W=>eJ s n W);have z:=G (show rj gl lo s=if(lo s||gl.int s)=true then .ok ()else if gl.known lo s=true then .error (s,16)else .error (s,15)from rfl);clear u;obtain⟨g,ai,al,aj,ad,ae⟩:=y;simp only[CB.p]at*;generalize gl.int s=b3 at*;generalize lo s=H at*;generalize gl.known lo s=I at*
 cases H with
 |true=>
  clear d o;go_enter func124,ntmps124;go_wp2_with fail;exact bodyPost_end (results_none rfl _ _ _) rfl ⟨by rw[z.out];rfl,aI _⟩
 |false=>
 cases b3 with
 |true=>
  clear d o;go_enter func124,ntmps124;go_wp2_with fail;exact bodyPost_end (results_none rfl _ _ _) rfl ⟨by rw[z.out];rfl,aI _⟩
 |false=>
 cases I with
 |true=>
  go_enter func124,ntmps124;go_wp2_with (first|(go_at_call 64;refine d.out.mono ?_;rintro e aa ⟨rfl,a⟩;have R:=G a;clear a d)|(go_at_call 65;refine(o.out _ _).mono ?_;unfold bw;rintro e X ⟨rfl,a⟩;have F:=G (R.out.trans a);clear a o));exact⟨rfl,by rw[z.out];rfl,F.out⟩
 |false=>
  go_enter func124,ntmps124;go_wp2_with (first|(go_at_call 64;refine d.out.mono ?_;rintro e aa ⟨rfl,a⟩;have R:=G a;clear a d)|(go_at_call 65;refine(o.out _ _).mono ?_;unfold bw;rintro e X ⟨rfl,a⟩;have F:=G (R.out.trans a);clear a o));exact⟨rfl,by rw[z.out];rfl,F.out⟩
theorem fe (y:CB) (gl:Gl) (R:Value) (lo:Ls) (u:World) (w:CK y gl R lo u) (s:List UInt8) (V:s.length<=1073741824):
  Calls prog 125 #[y.p,.string (Z s)] u λe w'=>e=cL (mg gl lo s)/\au u w':=by
 have ag:=w.lookA V;have af:=w.blk.cell;have d:=G (eK y gl R lo u w s V);have o:=G (λn W=>eJ s n W);have F:=G (show mg gl lo s=if(gl.arr s).isSome=true then .ok ()else if gl.known lo s=true then .error (s,16)else .error (s,15)from rfl);clear w;obtain⟨g,ah,aj,ai,ad,ae⟩:=y;simp only[CB.p]at*;generalize (gl.arr s).isSome=b1 at*;generalize (gl.arr s).getD 0=H at*;generalize gl.known lo s=I at*
 cases b1 with
 |true=>
  clear d o;go_enter func125,ntmps125;go_wp2_with fail;exact bodyPost_ret (results_none rfl _ _ _) rfl ⟨by rw[F.out];rfl,aI _⟩
 |false=>
 cases I with
 |true=>
  go_enter func125,ntmps125;go_wp2_with (first|(go_at_call 64;refine d.out.mono ?_;rintro e aa ⟨rfl,a⟩;have A:=G a;clear a d)|(go_at_call 65;refine(o.out _ _).mono ?_;unfold bw;rintro e X ⟨rfl,a⟩;have z:=G (A.out.trans a);clear a o));exact⟨rfl,by rw[F.out];rfl,z.out⟩
 |false=>
  go_enter func125,ntmps125;go_wp2_with (first|(go_at_call 64;refine d.out.mono ?_;rintro e aa ⟨rfl,a⟩;have A:=G a;clear a d)|(go_at_call 65;refine(o.out _ _).mono ?_;unfold bw;rintro e X ⟨rfl,a⟩;have z:=G (A.out.trans a);clear a o));exact⟨rfl,by rw[F.out];rfl,z.out⟩
def cT:=@Mv.of_ext
def gG:=@Mv.refl
def ki:=@Mv.of_grown
def kM:=@cH.new
def pE:=@Mv.blk
def rt:=@cH.keys
end
end Go.Proofs.YtoedmpgicdekmaaGreatDoor
