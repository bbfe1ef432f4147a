/-
  Parts of the proof: TyM TyMv TyB.
-/
import Derived.Test.YtoedmpgicdekmaaGreatDoorCq00
import Derived.Maps.OwnOps
import Derived.StringKeys
import Derived.Test.YtoedmpgicdekmaaGreatDoorCq05
import Derived.WalkLawsBesides
import Derived.Test.YtoedmpgicdekmaaGreatDoorCq14
set_option maxRecDepth 100000
set_option maxHeartbeats 8000000
set_option linter.unusedVariables false
set_option linter.unusedSimpArgs false
set_option linter.defProp false
set_option linter.unusedSectionVars false
namespace Go.Proofs.YtoedmpgicdekmaaGreatDoor
open Go.Proofs.Tryz
section
open Go.RowKit
open Go.ChangeMaps Go.MapKept Go.WideMaps
open Go.Maps (Keyed string_keyed)
abbrev KF:=List UInt8->Option Value
def b7 (w:World) (b:Nat) (L:KF):Prop:=
 ∃es clock,w.heap[b]? =some (.map es clock)/\(∀e∈es.toList,∃s:List UInt8,s.length<=maxLen/\e.key= .string (an s)/\L s=some e.val)/\(∀s v,L s=some v-> ∃e∈es.toList,e.key= .string (an s))/\es.toList.Pairwise (fun x y=>x.key≠y.key)
def KF.upd (L:KF) (s:List UInt8) (v:Value):KF:=fun x=>if x=s then some v else L x
theorem AM {a b:List UInt8} (h:an a=an b):a=b:=by have:=congrArg ByteArray.toList h;simpa using this
theorem nz {a b:List UInt8} (h:Value.string (an a)= .string (an b)):a=b:=AM (by injection h)
theorem b7.new (w:World):b7 (w.alloc (.map #[] 0)) w.heap.size (fun _=>none):=⟨#[],0,(MapKept.heap_alloc w _).1,by simp,by simp,by simp⟩
theorem b7.lt {w:World} {b:Nat} {L:KF} (h:b7 w b L):b<w.heap.size:=let⟨_,_,h,_⟩:=h;(Array.getElem?_eq_some_iff.1 h).1
theorem b7.obj {w w':World} {b:Nat} {L:KF} (h:b7 w b L) (he:w'.heap[b]? =w.heap[b]?):b7 w' b L:=let⟨es,c,h1,h2⟩:=h;⟨es,c,he.trans h1,h2⟩
theorem b7.congr {w:World} {b:Nat} {L M:KF} (h:b7 w b L) (e: ∀s,L s=M s):b7 w b M:=by rwa [<-show L=M from funext e]
structure mO (P:Program) (t k e:TypeId) (z:Value):Prop where
 map:P.underlying t=some (.map k e)
 key:P.underlying k=some .string
 zero: ∀w,(zeroValue e).run P w= .ok z w
section
variable {P:Program} {t k e:TypeId} {z:Value} {w:World} {b:Nat} {L:KF}
theorem lq (hT:mO P t k e z) {s:List UInt8} (hs:s.length<=maxLen):keyOf P k (.string (an s))=some (.string s):=by
 have:=keyOf_string_mk hT.key (s:=an s) (by rw[aU];exact hs);rw[this];simp[an]
theorem b7.keys (hT:mO P t k e z) {es:List MapEntry} (h: ∀e∈es,∃s:List UInt8,s.length<=maxLen/\e.key= .string (an s)/\L s=some e.val): ∀e∈es,∃l,keyOf P k e.key=some l:=fun e he=>by
 obtain⟨s,h1,h2,_⟩:=h e he;exact⟨_,by rw[h2];exact lq hT h1⟩
theorem b7.look (hT:mO P t k e z) (h:b7 w b L) {s:List UInt8} (hs:s.length<=maxLen):
  (Instr.lookup t (.map (some b)) (.string (an s)) false).run P w= .ok ((L s).getD z) w/\(Instr.lookup t (.map (some b)) (.string (an s)) true).run P w= .ok (.tuple #[(L s).getD z, .bool (L s).isSome]) w:=by
 obtain⟨es,c,hb,hk,hL,_⟩:=h;have K:=string_keyed hT.key;have hkey:=lq hT hs;rcases K.find w hkey es.toList (b7.keys hT hk)with⟨h1,h2⟩|⟨j,e0,h1,h2,h3⟩
 ·have h0:L s=none:=by
   cases hv:L s with
   |none=>rfl
   |some v=>obtain⟨x,hx,he⟩:=hL s v hv;exact absurd he (h2 x hx)
  constructor<;>simp[Instr.lookup,run_underlying hT.map,MapKept.run_getObj_map hb,K.check w _ hkey,h1,hT.zero,Result.andThen,h0]
 ·obtain⟨s',_,h5,h6⟩:=hk e0 (ce h2);rw[h3]at h5;have h7:=nz h5;subst h7;constructor<;>simp[Instr.lookup,run_underlying hT.map,MapKept.run_getObj_map hb,K.check w _ hkey,h1,Result.andThen,h6]
theorem sm (hT:mO P t k e z) (w:World) {s:List UInt8} (hs:s.length<=maxLen):
  (Instr.lookup t (.map none) (.string (an s)) false).run P w= .ok z w/\(Instr.lookup t (.map none) (.string (an s)) true).run P w= .ok (.tuple #[z, .bool false]) w:=by
 have K:=string_keyed hT.key;have hkey:=lq hT hs;rcases K.find w hkey [] (fun e h=>by cases h)with⟨h1,_⟩|⟨j,e0,_,h2,_⟩
 ·constructor<;>simp[Instr.lookup,run_underlying hT.map,K.check w _ hkey,h1,hT.zero,Result.andThen]
 ·simp at h2
theorem b7.store (hT:mO P t k e z) (h:b7 w b L) {s:List UInt8} (hs:s.length<=maxLen) (v:Value):
  ∃w',(Instr.mapUpdate t (.map (some b)) (.string (an s)) v).run P w= .ok () w'/\b7 w' b (L.upd s v)/\w.grownBy w' (some b):=by
 obtain⟨es,c,hb,hk,hL,hP⟩:=h;have K:=string_keyed hT.key;have hkey:=lq hT hs;have hg: ∀x,w.grownBy (setBlock w b x) (some b):=fun x=>⟨rfl,rfl,rfl,by simp[setBlock],fun i _ hi=>heap_setBlock_other hb _ (fun e=>hi (by rw[e]))⟩
 rcases K.find w hkey es.toList (b7.keys hT hk)with⟨h1,h2⟩|⟨j,e0,h1,h2,h3⟩
 ·refine⟨setBlock w b (.map (es.push ⟨.string (an s),v,c⟩) (c+1)),?_,⟨_,_,heap_setBlock_same hb _,?_,?_,?_⟩,hg _⟩
  ·simp[Instr.mapUpdate,run_underlying hT.map,MapKept.run_getObj_map hb,K.check w false hkey,h1,MapKept.run_setObj_map _ hb,Result.andThen,setBlock]
  ·intro x hx;simp only[de,List.mem_append,dw]at hx;rcases hx with hx|rfl
   ·obtain⟨s',q1,q2,q3⟩:=hk x hx;refine⟨s',q1,q2,?_⟩;rw[KF.upd,if_neg (fun e=>h2 x hx (by rw[q2,e]))];exact q3
   ·exact⟨s,hs,rfl,by rw[KF.upd,if_pos rfl]⟩
  ·intro x u hx;rw[KF.upd]at hx;split at hx
   ·rename_i hxs;subst hxs;exact⟨⟨.string (an x),v,c⟩,by simp,rfl⟩
   ·obtain⟨y,hy,he⟩:=hL x u hx;exact⟨y,by simp[de,hy],he⟩
  ·rw[de,List.pairwise_append];refine⟨hP,by simp,fun x hx y hy=> ?_⟩;rw[dw]at hy;subst hy;exact h2 x hx
 ·have hj:es[j]? =some e0:=by simpa using h2
  have hjl:j<es.toList.length:=(List.getElem?_eq_some_iff.1 h2).1;have hlist:(es.modify j (fun e'=>{e' with key:= .string (an s),val:=v})).toList=es.toList.set j {e0 with key:= .string (an s),val:=v}:=by rw[dM,modify_eq_set _ _ _ _ h2]
  have hne: ∀i (hi:i<es.toList.length),i≠j->es.toList[i].key≠ .string (an s):=fun i hi hij he=>by
   have hP':=List.pairwise_iff_getElem.1 hP;have e0j:es.toList[j]=e0:=by rw[aD hjl]at h2;injection h2
   rcases Nat.lt_or_gt_of_ne hij with hlt|hlt
   ·exact hP' i j hi hjl hlt (by rw[he,e0j,h3])
   ·exact hP' j i hjl hi hlt (by rw[he,e0j,h3])
  refine⟨setBlock w b (.map (es.modify j (fun e'=>{e' with key:= .string (an s),val:=v})) c),?_,⟨_,_,heap_setBlock_same hb _,?_,?_,?_⟩,hg _⟩
  ·simp[Instr.mapUpdate,run_underlying hT.map,MapKept.run_getObj_map hb,K.check w false hkey,h1,hj,h3,K.stays w hkey,MapKept.run_setObj_map _ hb,Result.andThen,setBlock]
  ·intro x hx;rw[hlist]at hx;obtain⟨i,hi,rfl⟩:=List.getElem_of_mem hx;rw[iU];split
   ·exact⟨s,hs,rfl,by rw[KF.upd,if_pos rfl]⟩
   ·rename_i hij;have hi':i<es.toList.length:=by simpa using hi
    obtain⟨s',q1,q2,q3⟩:=hk _ (ap hi');refine⟨s',q1,q2,?_⟩;rw[KF.upd,if_neg (fun e=>hne i hi' (fun e=>hij e.symm) (by rw[q2,e]))];exact q3
  ·intro x u hx;rw[hlist];rw[KF.upd]at hx;split at hx
   ·rename_i hxs;subst hxs;exact⟨_,List.mem_set hjl _,rfl⟩
   ·rename_i hxs;obtain⟨y,hy,he⟩:=hL x u hx;refine⟨y,?_,he⟩;obtain⟨i,hi,rfl⟩:=List.getElem_of_mem hy;have hij:i≠j:=by
     rintro rfl;rw[aD hi]at h2;injection h2 with h2;rw[h2,h3]at he;exact hxs (nz he).symm
    exact List.mem_iff_getElem?.2 ⟨i,by rw[List.getElem?_set_ne (ft hij),aD hi]⟩
  ·rw[hlist];rw[iw]at hP⊢;intro i1 i2 q1 q2 q3;have q1':i1<es.toList.length:=by simpa using q1
   have q2':i2<es.toList.length:=by simpa using q2
   rw[iU,iU];split
   ·split
    ·omega
    ·rename_i e1 e2;subst e1;exact fun e=>hne i2 q2' (by omega) e.symm
   ·split
    ·rename_i e1 e2;subst e2;exact hne i1 q1' (by omega)
    ·exact hP i1 i2 q1' q2' q3
theorem ej {ops:Array Oper} {rest:List Oper} {o:Oper} {a:Act} {Q:Exit->Act->World->Prop} (hT:mO P t k e z) (hg:o.guard=none) (m x v:Operand) (hop:o.op=Op.mapUpdate t m x v)
  (h:b7 w b L) (hm:a.eval m= .map (some b)) {s:List UInt8} (hs:s.length<=maxLen) (hx:a.eval x= .string (an s)) (u:Value) (hv:a.eval v=u)
  (hK: ∀w',b7 w' b (L.upd s u)->w.grownBy w' (some b)->wpList P ops Q rest (a.put o.dst undef) w'):wpList P ops Q (o::rest) a w:=by
 refine wpList_plain hg fun K' hK'=> ?_;obtain⟨w',hrun,r1,r2⟩:=h.store hT hs u;unfold Oper.wp;simp[execOp,hop,hm,hx,hv,hrun,Result.andThen];exact hK' _ _ (hK w' r1 r2)
end
end
section
open Go.RowKit
structure Mv (S:Nat->Prop) (w w':World):Prop where
 os:w'.os=w.os
 tape:w'.tape=w.tape
 output:w'.output=w.output
 size:w.heap.size<=w'.heap.size
 block: ∀k,k<w.heap.size-> ¬S k->w'.heap[k]? =w.heap[k]?
section
variable {S S':Nat->Prop} {a b c w w':World}
theorem Mv.refl (S:Nat->Prop) (w:World):Mv S w w:=⟨rfl,rfl,rfl,ah _,fun _ _ _=>rfl⟩
theorem Mv.trans (h:Mv S a b) (k:Mv S b c):Mv S a c:=
 ⟨k.os.trans h.os,k.tape.trans h.tape,k.output.trans h.output,ax h.size k.size,fun i hi hS=>(k.block i (aA hi h.size) hS).trans (h.block i hi hS)⟩
theorem Mv.mono (h:Mv S a b) (hS: ∀k,k<a.heap.size->S k->S' k):Mv S' a b:=⟨h.os,h.tape,h.output,h.size,fun i hi hn=>h.block i hi fun hs=>hn (hS i hi hs)⟩
theorem Mv.tr (h:Mv S a b) (k:Mv S' b c) (hS: ∀i,i<a.heap.size->S' i->S i):Mv S a c:=
 ⟨k.os.trans h.os,k.tape.trans h.tape,k.output.trans h.output,ax h.size k.size,fun i hi hn=>(k.block i (aA hi h.size) fun hs=>hn (hS i hi hs)).trans (h.block i hi hn)⟩
theorem Mv.of_ext (h:au w w'):Mv S w w':=⟨h.os,h.tape,h.output,h.size,fun k hk _=>h.obj hk⟩
theorem Mv.ext (h:Mv S w w') (hS: ∀k,k<w.heap.size-> ¬S k):au w w':=⟨h.os,h.tape,h.output,h.size,fun k hk=>h.block k hk (hS k hk)⟩
theorem Mv.of_grown {row:Option Nat} (h:w.grownBy w' row) (hS: ∀k,row=some k->S k):Mv S w w':=⟨h.os,h.tape,h.output,h.size,fun k hk hn=>h.block k hk fun e=>hn (hS k e.symm)⟩
theorem Mv.alloc (h:Mv S a b) (o:Obj):Mv S a (b.alloc o):=h.trans (.of_ext (aa b o))
theorem Mv.set (h:Mv S a b) {p:Addr} (hp:p.block<a.heap.size->S p.block) (u:Value):Mv S a (b.setCell p u):=
 ⟨h.os,h.tape,h.output,by simpa[World.setCell]using h.size,fun k hk hn=>(Below.heap_setCell b p u k fun e=>hn (e▸hp (e▸hk))).trans (h.block k hk hn)⟩
theorem Mv.un (h:Mv S w.drew w'):Mv S w w':=⟨h.os,h.tape,h.output,h.size,h.block⟩
theorem Mv.keepP {P:Nat->Prop} (h:Mv S w w') (hP: ∀k,P k->k<w.heap.size-> ¬S k):dm P w w':=⟨h.size,fun k hk hl=>h.block k hl (hP k hk hl)⟩
theorem Mv.blk {g:Nat} {t:TypeId} {cs:Array Value} (h:Mv S w w') (hb:aP w g t cs) (hS: ¬S g):aP w' g t cs:=(h.block g hb.lt hS).trans hb
theorem Mv.map {g:Nat} {L:KF} (h:Mv S w w') (hb:b7 w g L) (hS: ¬S g):b7 w' g L:=hb.obj (h.block g hb.lt hS)
theorem b7.ext {g:Nat} {L:KF} (h:b7 w g L) (he:au w w'):b7 w' g L:=h.obj (he.obj h.lt)
theorem b7.set {g:Nat} {L:KF} (h:b7 w g L) {p:Addr} (hp:g≠p.block) (u:Value):b7 (w.setCell p u) g L:=h.obj (Below.heap_setCell w p u g hp)
theorem b7.grown {g:Nat} {L:KF} {row:Option Nat} (h:b7 w g L) (hb:w.grownBy w' row) (hg:some g≠row):b7 w' g L:=h.obj (hb.block g h.lt hg)
end
end
section
open Go.RowKit
theorem Cz:mO prog 87 9 4 (.bool false):=⟨underlying87,underlying9,fun w=>by kernel_rfl⟩
theorem ud:mO prog 88 9 3 (.int .i64 0):=⟨underlying88,underlying9,fun w=>by kernel_rfl⟩
structure CB where
 g:Nat
 bi:Nat
 ba:Nat
 bf:Nat
 sv:Value
 sf:Value
def BF (g:Gl):KF:=fun s=>if g.int s=true then some (.bool true)else none
def BG (g:Gl):KF:=fun s=>(g.arr s).map (.int .i64)
def Fv (g:Gl):KF:=fun s=>(g.fn s).map fun n=> .int .i64 (n:Int)
def DA (l:Ls):KF:=fun s=>if l s=true then some (.bool true)else none
structure CK (X:CB) (gl:Gl) (lv:Value) (lo:Ls) (w:World):Prop where
 blk:aP w X.g 90 #[X.sv,X.sf, .map (some X.bi), .map (some X.ba), .map (some X.bf),lv]
 i:b7 w X.bi (BF gl)
 a:b7 w X.ba (BG gl)
 f:b7 w X.bf (Fv gl)
 l:(lv= .map none/\lo=fV)\/ ∃bl,lv= .map (some bl)/\b7 w bl (DA lo)/\bl≠X.g/\bl≠X.bi/\bl≠X.ba/\bl≠X.bf
 t:BT w
abbrev CB.p (X:CB):Value:= .pointer (some ⟨X.g,0,none⟩)
section
variable {X:CB} {gl:Gl} {lv:Value} {lo:Ls} {w w':World}
theorem CK.ext (h:CK X gl lv lo w) (he:au w w'):CK X gl lv lo w':=
 ⟨h.blk.ext he,h.i.ext he,h.a.ext he,h.f.ext he,h.l.imp id fun⟨bl,h1,h2,h3⟩=>⟨bl,h1,h2.ext he,h3⟩,h.t.ext he⟩
theorem CK.lookI (h:CK X gl lv lo w) {s:List UInt8} (hs:s.length<=1073741824):(Instr.lookup 87 (.map (some X.bi)) (.string (an s)) false).run prog w= .ok (.bool (gl.int s)) w:=by
 rw[(h.i.look Cz (by unfold maxLen;omega)).1];simp only[BF];cases gl.int s<;>rfl
theorem CK.lookL (h:CK X gl lv lo w) {s:List UInt8} (hs:s.length<=1073741824):(Instr.lookup 87 lv (.string (an s)) false).run prog w= .ok (.bool (lo s)) w:=by
 rcases h.l with⟨rfl,rfl⟩|⟨bl,rfl,hm,_⟩
 ·rw[(sm Cz w (by unfold maxLen;omega)).1];rfl
 ·rw[(hm.look Cz (by unfold maxLen;omega)).1];simp only[DA];cases lo s<;>rfl
theorem CK.lookA (h:CK X gl lv lo w) {s:List UInt8} (hs:s.length<=1073741824):(Instr.lookup 88 (.map (some X.ba)) (.string (an s)) true).run prog w= .ok (.tuple #[.int .i64 ((gl.arr s).getD 0), .bool (gl.arr s).isSome]) w:=by
 rw[(h.a.look ud (by unfold maxLen;omega)).2];simp only[BG];cases gl.arr s<;>rfl
theorem CK.lookF (h:CK X gl lv lo w) {s:List UInt8} (hs:s.length<=1073741824):(Instr.lookup 88 (.map (some X.bf)) (.string (an s)) true).run prog w= .ok (.tuple #[.int .i64 (((gl.fn s).getD 0:Nat):Int), .bool (gl.fn s).isSome]) w:=by
 rw[(h.f.look ud (by unfold maxLen;omega)).2];simp only[Fv];cases gl.fn s<;>rfl
end
def aY (nm:List UInt8) (n:Int):Ending:= .panicked [{v:= .iface 84 (.agg #[.string (an nm), .int .i64 n]),recovered:=false}]
def cg:CR->Ending
 | .ok _=> .returned (.tuple #[])
 | .error (nm,n)=>aY nm n
theorem dT (nm:List UInt8) (n:Int) (w:World):Calls prog 65 #[.string (an nm), .int .i64 n] w fun e w'=>e=aY nm n/\au w w':=by
 go_enter func65,ntmps65;go_wp2_with fail;exact⟨rfl,rfl,aG _⟩
theorem s6 (s:List UInt8) (w:World) (h:BT w):Calls prog 123 #[.string (an s)] w fun e w'=>e= .returned (.bool (EQ s))/\au w w':=by
 have HB:=G (kK s w h);have HI:=G (show EQ s=(fx s).isSome from rfl);clear h;generalize fx s=b at*
 cases b with
 |none=>
  go_enter func123,ntmps123;go_wp2_with (go_at_call 175;refine HB.out.mono ?_;rintro e w1 ⟨rfl,hE⟩;unfold DR;have HX:=G hE;clear hE HB);go_ret;exact⟨by rw[HI.out];rfl,HX.out⟩
 |some x=>
  obtain⟨c,a⟩:=x;go_enter func123,ntmps123;go_wp2_with (go_at_call 175;refine HB.out.mono ?_;rintro e w1 ⟨rfl,hE⟩;unfold DR;have HX:=G hE;clear hE HB);go_ret;exact⟨by rw[HI.out];rfl,HX.out⟩
theorem dU (X:CB) (gl:Gl) (lv:Value) (lo:Ls) (w:World) (h:CK X gl lv lo w) (s:List UInt8) (hs:s.length<=1073741824):
  Calls prog 64 #[X.p, .string (an s)] w fun e w'=>e= .returned (.bool (gl.known lo s))/\au w w':=by
 have f1:=h.lookA hs;have f2:=h.lookF hs;have f3:=h.lookI hs;have f4:=h.lookL hs;have hc:=h.blk.cell;have HB:=G (s6 s w h.t);have HK:=G (show gl.known lo s=((gl.arr s).isSome||((gl.fn s).isSome||(gl.int s||(lo s||EQ s))))from rfl);clear h;obtain⟨g,bi,ba,bf,sv,sf⟩:=X;simp only[CB.p]at*;generalize (gl.arr s).isSome=b1 at*;generalize (gl.fn s).isSome=b2 at*;generalize gl.int s=b3 at*;generalize lo s=b4 at*;generalize (gl.arr s).getD 0=x1 at*;generalize (((gl.fn s).getD 0:Nat):Int)=x2 at*
 cases b1 with
 |true=>
  clear HB;go_enter func64,ntmps64;go_wp2_with fail;go_ret;exact⟨by rw[HK.out];rfl,aG _⟩
 |false=>
 cases b2 with
 |true=>
  clear HB;go_enter func64,ntmps64;go_wp2_with fail;go_ret;exact⟨by rw[HK.out];rfl,aG _⟩
 |false=>
 cases b3 with
 |true=>
  clear HB;go_enter func64,ntmps64;go_wp2_with fail;go_ret;exact⟨by rw[HK.out];rfl,aG _⟩
 |false=>
 cases b4 with
 |true=>
  clear HB;go_enter func64,ntmps64;go_wp2_with fail;go_ret;exact⟨by rw[HK.out];rfl,aG _⟩
 |false=>
  go_enter func64,ntmps64;go_wp2_with (go_at_call 123;refine HB.out.mono ?_;rintro e w1 ⟨rfl,hE⟩;have HX:=G hE;clear hE HB);go_ret;exact⟨by rw[HK.out];rfl,HX.out⟩
theorem eL (X:CB) (gl:Gl) (lv:Value) (lo:Ls) (w:World) (h:CK X gl lv lo w) (s:List UInt8) (hs:s.length<=1073741824):
  Calls prog 124 #[X.p, .string (an s)] w fun e w'=>e=cg (p9 gl lo s)/\au w w':=by
 have f3:=h.lookI hs;have f4:=h.lookL hs;have hc:=h.blk.cell;have HN:=G (dU X gl lv lo w h s hs);have HF:=G (fun n W=>dT s n W);have HK:=G (show p9 gl lo s=if(lo s||gl.int s)=true then .ok ()else if gl.known lo s=true then .error (s,16)else .error (s,15)from rfl);clear h;obtain⟨g,bi,ba,bf,sv,sf⟩:=X;simp only[CB.p]at*;generalize gl.int s=b3 at*;generalize lo s=b4 at*;generalize gl.known lo s=b5 at*
 cases b4 with
 |true=>
  clear HN HF;go_enter func124,ntmps124;go_wp2_with fail;exact bodyPost_end (results_none rfl _ _ _) rfl ⟨by rw[HK.out];rfl,aG _⟩
 |false=>
 cases b3 with
 |true=>
  clear HN HF;go_enter func124,ntmps124;go_wp2_with fail;exact bodyPost_end (results_none rfl _ _ _) rfl ⟨by rw[HK.out];rfl,aG _⟩
 |false=>
 cases b5 with
 |true=>
  go_enter func124,ntmps124;go_wp2_with (first|(go_at_call 64;refine HN.out.mono ?_;rintro e w1 ⟨rfl,hE⟩;have HX:=G hE;clear hE HN)|(go_at_call 65;refine(HF.out _ _).mono ?_;unfold aY;rintro e w2 ⟨rfl,hE⟩;have HY:=G (HX.out.trans hE);clear hE HF));exact⟨rfl,by rw[HK.out];rfl,HY.out⟩
 |false=>
  go_enter func124,ntmps124;go_wp2_with (first|(go_at_call 64;refine HN.out.mono ?_;rintro e w1 ⟨rfl,hE⟩;have HX:=G hE;clear hE HN)|(go_at_call 65;refine(HF.out _ _).mono ?_;unfold aY;rintro e w2 ⟨rfl,hE⟩;have HY:=G (HX.out.trans hE);clear hE HF));exact⟨rfl,by rw[HK.out];rfl,HY.out⟩
theorem ef (X:CB) (gl:Gl) (lv:Value) (lo:Ls) (w:World) (h:CK X gl lv lo w) (s:List UInt8) (hs:s.length<=1073741824):
  Calls prog 125 #[X.p, .string (an s)] w fun e w'=>e=cg (kZ gl lo s)/\au w w':=by
 have f1:=h.lookA hs;have hc:=h.blk.cell;have HN:=G (dU X gl lv lo w h s hs);have HF:=G (fun n W=>dT s n W);have HK:=G (show kZ gl lo s=if(gl.arr s).isSome=true then .ok ()else if gl.known lo s=true then .error (s,16)else .error (s,15)from rfl);clear h;obtain⟨g,bi,ba,bf,sv,sf⟩:=X;simp only[CB.p]at*;generalize (gl.arr s).isSome=b1 at*;generalize (gl.arr s).getD 0=x1 at*;generalize gl.known lo s=b5 at*
 cases b1 with
 |true=>
  clear HN HF;go_enter func125,ntmps125;go_wp2_with fail;exact bodyPost_ret (results_none rfl _ _ _) rfl ⟨by rw[HK.out];rfl,aG _⟩
 |false=>
 cases b5 with
 |true=>
  go_enter func125,ntmps125;go_wp2_with (first|(go_at_call 64;refine HN.out.mono ?_;rintro e w1 ⟨rfl,hE⟩;have HX:=G hE;clear hE HN)|(go_at_call 65;refine(HF.out _ _).mono ?_;unfold aY;rintro e w2 ⟨rfl,hE⟩;have HY:=G (HX.out.trans hE);clear hE HF));exact⟨rfl,by rw[HK.out];rfl,HY.out⟩
 |false=>
  go_enter func125,ntmps125;go_wp2_with (first|(go_at_call 64;refine HN.out.mono ?_;rintro e w1 ⟨rfl,hE⟩;have HX:=G hE;clear hE HN)|(go_at_call 65;refine(HF.out _ _).mono ?_;unfold aY;rintro e w2 ⟨rfl,hE⟩;have HY:=G (HX.out.trans hE);clear hE HF));exact⟨rfl,by rw[HK.out];rfl,HY.out⟩
def cE:=@Mv.of_ext
def fA:=@Mv.refl
def iJ:=@Mv.of_grown
def jj:=@b7.new
def mP:=@Mv.blk
def oV:=@b7.keys
end
end Go.Proofs.YtoedmpgicdekmaaGreatDoor
