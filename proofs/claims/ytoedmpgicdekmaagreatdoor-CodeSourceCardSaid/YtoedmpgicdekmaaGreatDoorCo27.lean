/- Parts of the proof. -/
import Derived.Test.YtoedmpgicdekmaaGreatDoorCo26
set_option maxRecDepth 100000
set_option maxHeartbeats 8000000
set_option linter.all false
namespace Go.Proofs.YtoedmpgicdekmaaGreatDoor
open IntKind(i64)
open Go.Proofs.Tryz
section
open Go.RowKit
def nE (x:dq):List Value:=[.int i64 x.op,.int i64 x.a,.int i64 x.b,.int i64 x.c,.int i64 x.v]
def gM (l:List dq):List Value:=l.flatMap nE
def oo (p:Nat×Nm):List Value:=[.int i64 (p.1:Int),.string (Z p.2)]
def f9 (l:List (Nat×Nm)):List Value:=l.flatMap oo
def gL (l:List (Nm×Int)):KF:=λs=>(iw l s).map (.int i64 ·)
def oS (w:World) (b:Nat) (L:KF) (n:Nat):Prop:=cH w b L/\ ∃es clock,w.heap[b]? =some (.map es clock)/\es.size=n
theorem oS.obj {a w':World} {b n:Nat} {L:KF} (h:oS a b L n) (d:w'.heap[b]? =a.heap[b]?):oS w' b L n:=let⟨h1,es,c,h2,h3⟩:=h;⟨h1.obj d,es,c,d.trans h2,h3⟩
structure CC where
 c:Nat
 base:Nat
 va:Value
 fa:Value
 bp:Nat
 bs:Nat
 ba:Nat
 pl:List (Nm×Int)
 sz:List (Nm×Int)
def DC:Value->Option Nat
 | .map b=>b
 | _=>none
def bM (k:CC) (vc vt vl vd vs:Value):List (Option Nat):=[some k.c,some k.bp,some k.bs,some k.ba,DC vs,vc.ownBlock,vt.ownBlock,vl.ownBlock,vd.ownBlock]
structure jt (k:CC) (at_:List (Nm×Int)) (vc vt vl vd vs:Value) (w:World) (s:CS):Prop where
 blk:aO w k.c 95 #[k.va,k.fa,vc,vt,.map (some k.bp),.map (some k.bs),.map (some k.ba),vl,vd,vs,.int i64 s.frame]
 code:w.ownsRow k.base 159 5 vc s.code.length (gM s.code)
 tx:im w k.base 5 vt s.tx
 calls:w.ownsRow k.base 155 2 vl s.calls.length (f9 s.calls)
 dats:w.ownsRow k.base 155 2 vd s.dats.length (f9 s.dats)
 pl:cH w k.bp (gL k.pl)
 sz:cH w k.bs (gL k.sz)
 at_:cH w k.ba (gL at_)
 sl:vs=.map none/\s.slots=[]/\s.frame=0\/ ∃b,vs=.map (some b)/\oS w b (gL s.slots) s.slots.length
 nd:(bM k vc vt vl vd vs).Pairwise λx y=>x=none\/x≠y
 lo: ∀b,some b∈bM k vc vt vl vd vs->k.base<=b/\b<w.heap.size
def CX (k:CC) (at_:List (Nm×Int)) (O:Nat->Prop) (w:World) (s:CS):Prop:= ∃vc vt vl vd vs,jt k at_ vc vt vl vd vs w s/\ ∀b,O b↔some b∈bM k vc vt vl vd vs
def eo (O:Nat->Prop) (w:World) (O':Nat->Prop) (w':World):Prop:=Mv O w w'/\ ∀b,O' b->O b\/w.heap.size<=b
def CP (k:CC) (at_:List (Nm×Int)) (O:Nat->Prop) (w:World) (s':CS) (w':World):Prop:= ∃O',CX k at_ O' w' s'/\eo O w O' w'
def LB (O:Nat->Prop) (w:World) (b:Nat) (t:TypeId) (cs:Array Value):Prop:=aO w b t cs/\ ¬O b
section
variable {k:CC} {at_:List (Nm×Int)} {O O' O2:Nat->Prop} {w w' w2:World} {s s' s2:CS} {vc vt vl vd vs:Value}
theorem eo.refl (O:Nat->Prop) (w:World):eo O w O w:=⟨gG _ _,λb a=> .inl a⟩
theorem eo.trans (a:eo O w O' w') (d:eo O' w' O2 w2):eo O w O2 w2:=
 ⟨a.1.tr d.1 λi hi h=>(a.2 i h).resolve_right J,λb o=>(d.2 b o).elim (λe=>a.2 b e) λe=> .inr (ay a.1.size e)⟩
theorem eo.of_ext (a:au w w'):eo O w O w':=⟨.of_ext a,λb d=> .inl d⟩
theorem eo.ex (d:eo O w O' w') (a:au w' w2):eo O w O' w2:=d.trans (.of_ext a)
theorem eo.pre (a:au w w') (d:eo O w' O' w2):eo O w O' w2:=eo.trans (.of_ext a) d
theorem CX.lt (o:CX k at_ O w s) {b:Nat} (a:O b):k.base<=b/\b<w.heap.size:=by
 obtain⟨vc,vt,vl,vd,vs,h,d⟩:=o;exact h.lo b ((d b).1 a)
theorem CX.low (a:CX k at_ O w s) {b:Nat} (d:b<k.base): ¬O b:=λe=>by have:=(a.lt e).1;omega
theorem CX.new (a:CX k at_ O w s) {b:Nat} (d:w.heap.size<=b): ¬O b:=λe=>by have:=(a.lt e).2;omega
theorem jt.keep (a:jt k at_ vc vt vl vd vs w s) (z:w.heap.size<=w'.heap.size) (h: ∀b,some b∈bM k vc vt vl vd vs->w'.heap[b]? =w.heap[b]?):jt k at_ vc vt vl vd vs w' s:=by
 have q: ∀{v:Value} {e:TypeId} {o n:Nat} {xs:List Value},v.ownBlock∈bM k vc vt vl vd vs->w.ownsRow k.base e o v n xs->w'.ownsRow k.base e o v n xs:=λA u=>by
  refine⟨u.1,?_⟩;rcases u.2 with d|⟨g,cap,cur,rfl,d,h2,h3⟩
  ·exact .inl d
  ·exact .inr ⟨g,cap,cur,rfl,d,(h g A).trans h2,h3⟩
 refine⟨(h _ (by simp[bM])).trans a.blk,q (by simp[bM]) a.code,q (by simp[bM]) a.tx,q (by simp[bM]) a.calls,q (by simp[bM]) a.dats,a.pl.obj (h _ (by simp[bM])),a.sz.obj (h _ (by simp[bM])),a.at_.obj (h _ (by simp[bM])),?_,a.nd,λb y=>⟨(a.lo b y).1,aA (a.lo b y).2 z⟩⟩;rcases a.sl with d|⟨b,rfl,d⟩
 ·exact .inl d
 ·exact .inr ⟨b,rfl,d.obj (h b (by simp[bM,DC]))⟩
theorem CX.ext (u:CX k at_ O w s) (a:au w w'):CX k at_ O w' s:=by
 obtain⟨vc,vt,vl,vd,vs,d,o⟩:=u;exact⟨vc,vt,vl,vd,vs,d.keep a.size λb h=>a.obj (d.lo b h).2,o⟩
theorem LB.new (d:CX k at_ O w s) (t:TypeId) (a:Array Value):LB O (w.alloc (.cells a t)) w.heap.size t a:=⟨aq w t a,d.new (ah _)⟩
theorem LB.ext {b:Nat} {t:TypeId} {d:Array Value} (a:LB O w b t d) (h:au w w'):LB O w' b t d:=⟨a.1.ext h,a.2⟩
theorem LB.st {b:Nat} {t:TypeId} {h:Array Value} (a:LB O w b t h) (d:eo O w O' w'):LB O' w' b t h:=⟨d.1.blk a.1 a.2,λe=>(d.2 b e).elim a.2 λe=>by have:=a.1.lt;omega⟩
theorem eo.keepP (h:eo O w O' w') (a:CX k at_ O w s):dM (λb=>b<k.base) w w':=h.1.keepP λb d _=>a.low d
end
theorem o7 {o:Nat}: ∀{l:List (Option Nat)},l.Pairwise (λx a=>x=none\/x≠a)-> ∀i,(∀a∈l,a≠some o)->(l.set i (some o)).Pairwise (λx a=>x=none\/x≠a)
 | [],h,i,_=>by simp
 |x::t,h,0,hA=>by
  rw[gZ]at h;rw[b7,gZ];exact⟨λa d=> .inr λe=>hA a (.tail _ d) e.symm,h.2⟩
 |x::t,h,i+1,hA=>by
  rw[gZ]at h;rw[b_,gZ];refine⟨λa d=> ?_,o7 h.2 i λa d=>hA a (.tail _ d)⟩;rcases List.mem_or_eq_of_mem_set d with d|rfl
  ·exact h.1 a d
  ·exact .inr (hA x (.head _))
theorem jN {l:List (Option Nat)} (o:l.Pairwise (λx d=>x=none\/x≠d)) {i j:Nat} {x d:Option Nat} (F:i≠j) (hi:l[i]? =some x) (A:l[j]? =some d):x=none\/x≠d:=by
 obtain⟨z,y⟩:=List.getElem?_eq_some_iff.1 hi;obtain⟨w,u⟩:=List.getElem?_eq_some_iff.1 A;rw[jZ]at o;rcases Nat.lt_or_gt_of_ne F with h|h
 ·have:=o i j z w h;rwa [y,u]at this
 ·have:=o j i w z h;rw[y,u]at this;rcases this with rfl|hn
  ·cases x with
   |none=>exact .inl rfl
   |some a=>exact .inr Qe
  ·exact .inr λe=>hn e.symm
theorem eI {h W:World} {base d n:Nat} {e:TypeId} {v:Value} {xs:List Value} (o:h.ownsRow base e d v n xs) (u: ∀b,v.ownBlock=some b->W.heap[b]? =h.heap[b]?):W.ownsRow base e d v n xs:=by
 refine⟨o.1,?_⟩;rcases o.2 with a|⟨g,cap,cur,rfl,a,h2,h3⟩
 ·exact .inl a
 ·exact .inr ⟨g,cap,cur,rfl,a,(u g rfl).trans h2,h3⟩
theorem uF {h W:World} {a:Value} {l:List (Nm×Int)} {f:Int} (d:a=.map none/\l=[]/\f=0\/ ∃b,a=.map (some b)/\oS h b (gL l) l.length) (o: ∀b,DC a=some b->W.heap[b]? =h.heap[b]?):a=.map none/\l=[]/\f=0\/ ∃b,a=.map (some b)/\oS W b (gL l) l.length:=by
 rcases d with d|⟨b,rfl,d⟩
 ·exact .inl d
 ·exact .inr ⟨b,rfl,d.obj (o b rfl)⟩
theorem tq {a:World} {base d n:Nat} {e:TypeId} {v:Value} {xs:List Value} (o:a.ownsRow base e d v n xs) {b:Nat} (h:v.ownBlock=some b):base<=b/\b<a.heap.size:=o.lt b h
theorem J':nL prog 92 159 5 40 (.agg #[.int i64 0,.int i64 0,.int i64 0,.int i64 0,.int i64 0]):=⟨underlying92,by kernel_rfl,by rfl,by decide⟩
theorem IW:nL prog 93 155 2 24 (.agg #[.int i64 0,.string ⟨#[]⟩]):=⟨underlying93,by kernel_rfl,by rfl,by decide⟩
section
variable {k:CC} {at_:List (Nm×Int)} {O:Nat->Prop} {w W:World} {s:CS} {vc vt vl vd vs v':Value}
theorem jt.code_to (a:jt k at_ vc vt vl vd vs w s) {c':List dq} (F:aO W k.c 95 #[k.va,k.fa,v',vt,.map (some k.bp),.map (some k.bs),.map (some k.ba),vl,vd,vs,.int i64 s.frame]) (h:W.ownsRow k.base 159 5 v' c'.length (gM c')) (A:v'.ownBlock=vc.ownBlock\/v'.ownBlock=some w.heap.size) (u:Mv (λb=>b=k.c\/vc.ownBlock=some b) w W):jt k at_ v' vt vl vd vs W {s with code:=c'}:=by
 have K: ∀(j:Nat) (b:Nat),j≠0->j≠5->(bM k vc vt vl vd vs)[j]? =some (some b)->W.heap[b]? =w.heap[b]? :=λj b G hi d=>by
  refine u.block b (a.lo b (cI d)).2 λe=> ?_;rcases e with rfl|e
  ·exact((jN a.nd G d (show(bM k vc vt vl vd vs)[0]? =some (some k.c)from rfl)).resolve_left Qe) rfl
  ·exact((jN a.nd hi d (show(bM k vc vt vl vd vs)[5]? =some vc.ownBlock from rfl)).resolve_left Qe) e.symm
 refine⟨F,h,eI a.tx λb e=>K 6 b Qd Qd (congrArg some e),eI a.calls λb e=>K 7 b Qd Qd (congrArg some e),eI a.dats λb e=>K 8 b Qd Qd (congrArg some e),a.pl.obj (K 1 _ Qd Qd rfl),a.sz.obj (K 2 _ Qd Qd rfl),a.at_.obj (K 3 _ Qd Qd rfl),uF a.sl λb e=>K 4 b Qd Qd (congrArg some e),?_,λb o=> ?_⟩
 ·rcases A with e|e
  ·have:bM k v' vt vl vd vs=bM k vc vt vl vd vs:=by simp only[bM,e]
   rw[this];exact a.nd
  ·have:bM k v' vt vl vd vs=(bM k vc vt vl vd vs).set 5 (some w.heap.size):=by simp[bM,e]
   rw[this];exact o7 a.nd 5 λV z R=>by subst R;exact absurd (a.lo _ z).2 (km _)
 ·have y:=u.size;by_cases e:some b=v'.ownBlock
  ·exact tq h e.symm
  ·have:some b∈bM k vc vt vl vd vs:=by simp only[bM,bV,bF,or_false]at o⊢;rcases o with a|a|a|a|a|a|a|a|a<;>simp_all
   exact⟨(a.lo b this).1,aA (a.lo b this).2 y⟩
theorem jt.code_cp (a:jt k at_ vc vt vl vd vs w s) (d: ∀b,O b↔some b∈bM k vc vt vl vd vs) {c':List dq} (y:aO W k.c 95 #[k.va,k.fa,v',vt,.map (some k.bp),.map (some k.bs),.map (some k.ba),vl,vd,vs,.int i64 s.frame]) (u:W.ownsRow k.base 159 5 v' c'.length (gM c')) (h:v'.ownBlock=vc.ownBlock\/v'.ownBlock=some w.heap.size) (o:Mv (λb=>b=k.c\/vc.ownBlock=some b) w W):CP k at_ O w {s with code:=c'} W:=by
 refine⟨_,⟨_,_,_,_,_,a.code_to y u h o,λb=>ip⟩,o.mono λb _ e=>(d b).2 ?_,λb e=> ?_⟩
 ·rcases e with rfl|e
  ·simp[bM]
  ·simp[bM,e]
 ·rcases h with q|q
  ·left;rw[d];simp only[bM,q]at e⊢;exact e
  ·simp only[bM,q,bV,bF,or_false]at e;rw[d];simp only[bM,bV,bF,or_false];rcases e with a|a|a|a|a|a|a|a|a<;>simp_all
theorem jt.tx_to (a:jt k at_ vc vt vl vd vs w s) {c':List UInt8} (F:aO W k.c 95 #[k.va,k.fa,vc,v',.map (some k.bp),.map (some k.bs),.map (some k.ba),vl,vd,vs,.int i64 s.frame]) (h:im W k.base 5 v' c') (A:v'.ownBlock=vt.ownBlock\/v'.ownBlock=some w.heap.size) (u:Mv (λb=>b=k.c\/vt.ownBlock=some b) w W):jt k at_ vc v' vl vd vs W {s with tx:=c'}:=by
 have K: ∀(j:Nat) (b:Nat),j≠0->j≠6->(bM k vc vt vl vd vs)[j]? =some (some b)->W.heap[b]? =w.heap[b]? :=λj b G hi d=>by
  refine u.block b (a.lo b (cI d)).2 λe=> ?_;rcases e with rfl|e
  ·exact((jN a.nd G d (show(bM k vc vt vl vd vs)[0]? =some (some k.c)from rfl)).resolve_left Qe) rfl
  ·exact((jN a.nd hi d (show(bM k vc vt vl vd vs)[6]? =some vt.ownBlock from rfl)).resolve_left Qe) e.symm
 refine⟨F,eI a.code λb e=>K 5 b Qd Qd (congrArg some e),h,eI a.calls λb e=>K 7 b Qd Qd (congrArg some e),eI a.dats λb e=>K 8 b Qd Qd (congrArg some e),a.pl.obj (K 1 _ Qd Qd rfl),a.sz.obj (K 2 _ Qd Qd rfl),a.at_.obj (K 3 _ Qd Qd rfl),uF a.sl λb e=>K 4 b Qd Qd (congrArg some e),?_,λb o=> ?_⟩
 ·rcases A with e|e
  ·have:bM k vc v' vl vd vs=bM k vc vt vl vd vs:=by simp only[bM,e]
   rw[this];exact a.nd
  ·have:bM k vc v' vl vd vs=(bM k vc vt vl vd vs).set 6 (some w.heap.size):=by simp[bM,e]
   rw[this];exact o7 a.nd 6 λV z R=>by subst R;exact absurd (a.lo _ z).2 (km _)
 ·have y:=u.size;by_cases e:some b=v'.ownBlock
  ·exact tq h e.symm
  ·have:some b∈bM k vc vt vl vd vs:=by simp only[bM,bV,bF,or_false]at o⊢;rcases o with a|a|a|a|a|a|a|a|a<;>simp_all
   exact⟨(a.lo b this).1,aA (a.lo b this).2 y⟩
theorem jt.tx_cp (a:jt k at_ vc vt vl vd vs w s) (d: ∀b,O b↔some b∈bM k vc vt vl vd vs) {c':List UInt8} (y:aO W k.c 95 #[k.va,k.fa,vc,v',.map (some k.bp),.map (some k.bs),.map (some k.ba),vl,vd,vs,.int i64 s.frame]) (u:im W k.base 5 v' c') (h:v'.ownBlock=vt.ownBlock\/v'.ownBlock=some w.heap.size) (o:Mv (λb=>b=k.c\/vt.ownBlock=some b) w W):CP k at_ O w {s with tx:=c'} W:=by
 refine⟨_,⟨_,_,_,_,_,a.tx_to y u h o,λb=>ip⟩,o.mono λb _ e=>(d b).2 ?_,λb e=> ?_⟩
 ·rcases e with rfl|e
  ·simp[bM]
  ·simp[bM,e]
 ·rcases h with q|q
  ·left;rw[d];simp only[bM,q]at e⊢;exact e
  ·simp only[bM,q,bV,bF,or_false]at e;rw[d];simp only[bM,bV,bF,or_false];rcases e with a|a|a|a|a|a|a|a|a<;>simp_all
theorem jt.calls_to (a:jt k at_ vc vt vl vd vs w s) {c':List (Nat×Nm)} (F:aO W k.c 95 #[k.va,k.fa,vc,vt,.map (some k.bp),.map (some k.bs),.map (some k.ba),v',vd,vs,.int i64 s.frame]) (h:W.ownsRow k.base 155 2 v' c'.length (f9 c')) (A:v'.ownBlock=vl.ownBlock\/v'.ownBlock=some w.heap.size) (u:Mv (λb=>b=k.c\/vl.ownBlock=some b) w W):jt k at_ vc vt v' vd vs W {s with calls:=c'}:=by
 have K: ∀(j:Nat) (b:Nat),j≠0->j≠7->(bM k vc vt vl vd vs)[j]? =some (some b)->W.heap[b]? =w.heap[b]? :=λj b G hi d=>by
  refine u.block b (a.lo b (cI d)).2 λe=> ?_;rcases e with rfl|e
  ·exact((jN a.nd G d (show(bM k vc vt vl vd vs)[0]? =some (some k.c)from rfl)).resolve_left Qe) rfl
  ·exact((jN a.nd hi d (show(bM k vc vt vl vd vs)[7]? =some vl.ownBlock from rfl)).resolve_left Qe) e.symm
 refine⟨F,eI a.code λb e=>K 5 b Qd Qd (congrArg some e),eI a.tx λb e=>K 6 b Qd Qd (congrArg some e),h,eI a.dats λb e=>K 8 b Qd Qd (congrArg some e),a.pl.obj (K 1 _ Qd Qd rfl),a.sz.obj (K 2 _ Qd Qd rfl),a.at_.obj (K 3 _ Qd Qd rfl),uF a.sl λb e=>K 4 b Qd Qd (congrArg some e),?_,λb o=> ?_⟩
 ·rcases A with e|e
  ·have:bM k vc vt v' vd vs=bM k vc vt vl vd vs:=by simp only[bM,e]
   rw[this];exact a.nd
  ·have:bM k vc vt v' vd vs=(bM k vc vt vl vd vs).set 7 (some w.heap.size):=by simp[bM,e]
   rw[this];exact o7 a.nd 7 λV z R=>by subst R;exact absurd (a.lo _ z).2 (km _)
 ·have y:=u.size;by_cases e:some b=v'.ownBlock
  ·exact tq h e.symm
  ·have:some b∈bM k vc vt vl vd vs:=by simp only[bM,bV,bF,or_false]at o⊢;rcases o with a|a|a|a|a|a|a|a|a<;>simp_all
   exact⟨(a.lo b this).1,aA (a.lo b this).2 y⟩
theorem jt.calls_cp (a:jt k at_ vc vt vl vd vs w s) (d: ∀b,O b↔some b∈bM k vc vt vl vd vs) {c':List (Nat×Nm)} (y:aO W k.c 95 #[k.va,k.fa,vc,vt,.map (some k.bp),.map (some k.bs),.map (some k.ba),v',vd,vs,.int i64 s.frame]) (u:W.ownsRow k.base 155 2 v' c'.length (f9 c')) (h:v'.ownBlock=vl.ownBlock\/v'.ownBlock=some w.heap.size) (o:Mv (λb=>b=k.c\/vl.ownBlock=some b) w W):CP k at_ O w {s with calls:=c'} W:=by
 refine⟨_,⟨_,_,_,_,_,a.calls_to y u h o,λb=>ip⟩,o.mono λb _ e=>(d b).2 ?_,λb e=> ?_⟩
 ·rcases e with rfl|e
  ·simp[bM]
  ·simp[bM,e]
 ·rcases h with q|q
  ·left;rw[d];simp only[bM,q]at e⊢;exact e
  ·simp only[bM,q,bV,bF,or_false]at e;rw[d];simp only[bM,bV,bF,or_false];rcases e with a|a|a|a|a|a|a|a|a<;>simp_all
theorem jt.dats_to (a:jt k at_ vc vt vl vd vs w s) {c':List (Nat×Nm)} (F:aO W k.c 95 #[k.va,k.fa,vc,vt,.map (some k.bp),.map (some k.bs),.map (some k.ba),vl,v',vs,.int i64 s.frame]) (h:W.ownsRow k.base 155 2 v' c'.length (f9 c')) (A:v'.ownBlock=vd.ownBlock\/v'.ownBlock=some w.heap.size) (u:Mv (λb=>b=k.c\/vd.ownBlock=some b) w W):jt k at_ vc vt vl v' vs W {s with dats:=c'}:=by
 have K: ∀(j:Nat) (b:Nat),j≠0->j≠8->(bM k vc vt vl vd vs)[j]? =some (some b)->W.heap[b]? =w.heap[b]? :=λj b G hi d=>by
  refine u.block b (a.lo b (cI d)).2 λe=> ?_;rcases e with rfl|e
  ·exact((jN a.nd G d (show(bM k vc vt vl vd vs)[0]? =some (some k.c)from rfl)).resolve_left Qe) rfl
  ·exact((jN a.nd hi d (show(bM k vc vt vl vd vs)[8]? =some vd.ownBlock from rfl)).resolve_left Qe) e.symm
 refine⟨F,eI a.code λb e=>K 5 b Qd Qd (congrArg some e),eI a.tx λb e=>K 6 b Qd Qd (congrArg some e),eI a.calls λb e=>K 7 b Qd Qd (congrArg some e),h,a.pl.obj (K 1 _ Qd Qd rfl),a.sz.obj (K 2 _ Qd Qd rfl),a.at_.obj (K 3 _ Qd Qd rfl),uF a.sl λb e=>K 4 b Qd Qd (congrArg some e),?_,λb o=> ?_⟩
 ·rcases A with e|e
  ·have:bM k vc vt vl v' vs=bM k vc vt vl vd vs:=by simp only[bM,e]
   rw[this];exact a.nd
  ·have:bM k vc vt vl v' vs=(bM k vc vt vl vd vs).set 8 (some w.heap.size):=by simp[bM,e]
   rw[this];exact o7 a.nd 8 λV z R=>by subst R;exact absurd (a.lo _ z).2 (km _)
 ·have y:=u.size;by_cases e:some b=v'.ownBlock
  ·exact tq h e.symm
  ·have:some b∈bM k vc vt vl vd vs:=by simp only[bM,bV,bF,or_false]at o⊢;rcases o with a|a|a|a|a|a|a|a|a<;>simp_all
   exact⟨(a.lo b this).1,aA (a.lo b this).2 y⟩
theorem jt.dats_cp (a:jt k at_ vc vt vl vd vs w s) (d: ∀b,O b↔some b∈bM k vc vt vl vd vs) {c':List (Nat×Nm)} (y:aO W k.c 95 #[k.va,k.fa,vc,vt,.map (some k.bp),.map (some k.bs),.map (some k.ba),vl,v',vs,.int i64 s.frame]) (u:W.ownsRow k.base 155 2 v' c'.length (f9 c')) (h:v'.ownBlock=vd.ownBlock\/v'.ownBlock=some w.heap.size) (o:Mv (λb=>b=k.c\/vd.ownBlock=some b) w W):CP k at_ O w {s with dats:=c'} W:=by
 refine⟨_,⟨_,_,_,_,_,a.dats_to y u h o,λb=>ip⟩,o.mono λb _ e=>(d b).2 ?_,λb e=> ?_⟩
 ·rcases e with rfl|e
  ·simp[bM]
  ·simp[bM,e]
 ·rcases h with q|q
  ·left;rw[d];simp only[bM,q]at e⊢;exact e
  ·simp only[bM,q,bV,bF,or_false]at e;rw[d];simp only[bM,bV,bF,or_false];rcases e with a|a|a|a|a|a|a|a|a<;>simp_all
end
theorem je (a:World) (g i:Nat) (d:Value):a.grownBy (a.setCell ⟨g,i,none⟩ d) (some g):=⟨rfl,rfl,rfl,by simp[World.setCell],λj _ hi=>Below.heap_setCell a ⟨g,i,none⟩ d j λe=>hi (by rw[e])⟩
theorem vu (x:dq): ∀u∈nE x,u.oneCell'=true:=by simp[nE,Value.oneCell']
theorem xy (l:List dq) (x:dq):gM (l++[x])=gM l++nE x:=by simp[gM]
theorem fL {k:CC} {z:List (Nm×Int)} {w h o u y:Value} {d:World} {s:CS} (a:jt k z w h o u y d s):k.base<=d.heap.size/\some k.c≠w.ownBlock/\some k.c≠h.ownBlock/\some k.c≠o.ownBlock/\some k.c≠u.ownBlock:=by
 have A:=a.lo k.c (by simp[bM]);refine⟨by omega,?_,?_,?_,?_⟩
 ·exact(jN a.nd (i:=0) (j:=5) Qd rfl rfl).resolve_left Qe
 ·exact(jN a.nd (i:=0) (j:=6) Qd rfl rfl).resolve_left Qe
 ·exact(jN a.nd (i:=0) (j:=7) Qd rfl rfl).resolve_left Qe
 ·exact(jN a.nd (i:=0) (j:=8) Qd rfl rfl).resolve_left Qe
def CV (k:CC) (at_:List (Nm×Int)) (vc vt vl vd vs:Value) (w:World) (s':CS) (w':World):Prop:=
 ∃vc',jt k at_ vc' vt vl vd vs w' s'/\Mv (λb=>b=k.c\/vc.ownBlock=some b) w w'/\(vc'.ownBlock=vc.ownBlock\/ ∃b,vc'.ownBlock=some b/\w.heap.size<=b)
theorem CV.own {k:CC} {G:List (Nm×Int)} {O:Nat->Prop} {A d o u h:Value} {z w':World} {F:CS} (y: ∀b,O b↔some b∈bM k A d o u h) (a:CV k G A d o u h z F w'): ∃w,jt k G w d o u h w' F/\eo O z (λb=>some b∈bM k w d o u h) w':=by
 obtain⟨w,X,V,R⟩:=a;refine⟨_,X,V.mono λb _ e=>(y b).2 ?_,λb e=> ?_⟩
 ·rcases e with rfl|e
  ·simp[bM]
  ·simp[bM,e]
 ·rcases R with q|⟨c,q,hq⟩
  ·left;rw[y];simp only[bM,q]at e⊢;exact e
  ·simp only[bM,q,bV,bF,or_false]at e;rw[y];simp only[bM,bV,bF,or_false];rcases e with a|a|a|a|a|a|a|a|a<;>simp_all
theorem CV.st {k:CC} {z:List (Nm×Int)} {O:Nat->Prop} {w d o u h:Value} {a w':World} {y:CS} (A: ∀b,O b↔some b∈bM k w d o u h) (R:CV k z w d o u h a y w'):CP k z O a y w':=by
 obtain⟨V,G,F⟩:=R.own A;exact⟨_,⟨_,_,_,_,_,G,λb=>ip⟩,F⟩
theorem jt.add {k:CC} {ah:List (Nm×Int)} {h y d:World} {s:CS} {o F R V G:Value} (z:jt k ah o F R V G h s) (x:dq) (ag:y=h.alloc (.cells (nE x).toArray 159)) {a w:Nat}
  (ai:d.ownsRow k.base 159 5 (.slice (some ⟨a,0,none⟩) (s.code.length+1) w) (s.code.length+1) (gM s.code++nE x)) (ad:y.grownBy d o.ownBlock) (u:some a=o.ownBlock\/a=y.heap.size):
  aO d k.c 95 #[k.va,k.fa,o,F,.map (some k.bp),.map (some k.bs),.map (some k.ba),R,V,G,.int i64 s.frame]/\CV k ah o F R V G h (s.add x) (d.setCell ⟨k.c,2,none⟩ (.slice (some ⟨a,0,none⟩) (s.code.length+1) w)):=by
 have X:au h y:=ag▸aa h _;have ae:=z.keep X.size λb A=>X.obj (z.lo b A).2;have A:=ae.blk.grown ad (fL z).2.1;have aj:y.heap.size=h.heap.size+1:=by rw[ag,World.size_alloc]
 have af:Mv (λb=>b=k.c\/o.ownBlock=some b) y (d.setCell ⟨k.c,2,none⟩ (.slice (some ⟨a,0,none⟩) (s.code.length+1) w)):=(ki ad λb e=> .inr e).set (λ_=> .inl rfl) _;refine⟨A,_,ae.code_to (c':=s.code++[x]) (v':=.slice (some ⟨a,0,none⟩) (s.code.length+1) w) (W:=d.setCell ⟨k.c,2,none⟩ (.slice (some ⟨a,0,none⟩) (s.code.length+1) w)) (by simpa using A.set 2 (.slice (some ⟨a,0,none⟩) (s.code.length+1) w)) ?_ (u.imp id λe=>by rw[e];rfl) af,(cT X).trans af,?_⟩
 ·rw[H,xy]
  exact ai.kept (je d k.c 2 _) (.inr λe=>by
   rcases u with u|u
   ·exact(fL z).2.1 (by rw[<-u];exact e.symm)
   ·have Z:=(z.lo k.c (by simp[bM])).2;have e:a=k.c:=I e
    omega)
 ·exact u.imp id λe=>⟨a,rfl,by omega⟩
theorem ID {k:CC} {ad:List (Nm×Int)} {F w z A y:Value} {a:World} {s:CS} (o:jt k ad F w z A y a s) (op:Nat) (R d b n:Int) (af:R=op) (ao:s.code.length<=1000000000):
  Calls prog 70 #[.pointer (some ⟨k.c,0,none⟩),.int i64 R,.int i64 d,.int i64 b,.int i64 n] a λe w'=>e=.returned (.int i64 (s.code.length:Int))/\CV k ad F w z A y a (s.op op d b n) w':=by
 subst af;have ai:=o.blk.cell;have ae:=fL o;have al:=G o;have I:=o.code.alloc (.cells #[.int i64 (op:Int),.int i64 d,.int i64 b,.int i64 n,.int i64 0] 159);have Z:=G (show k.base<=(a.alloc (.cells #[.int i64 (op:Int),.int i64 d,.int i64 b,.int i64 n,.int i64 0] 159)).heap.size by rw[World.size_alloc];omega);clear o ae;go_enter func70,ntmps70
 go_upto_region 2 with(at_builtin;refine fj J' rfl _ _ rfl k.base _ s.code.length (gM s.code) rfl I a.heap.size (nE ⟨op,d,b,n,0⟩) rfl (aq a _ _) rfl (vu _) J Qd Z.out ?_;intro am ah an X aa H;obtain⟨u,V⟩:=al.out.add ⟨op,d,b,n,0⟩ rfl X aa H;have c1:=u.cell;have ag:=u.frozen;have c2:=(u.set 2 (.slice (some ⟨am,0,none⟩) (s.code.length+1) ah)).cell;have aj:=G V;clear X aa H u V I ai)
 clear c1 ag;go_wp2_with fail;go_ret;exact⟨rfl,aj.out⟩
theorem vK {k:CC} {ad:List (Nm×Int)} {F w z A y:Value} {a:World} {s:CS} (o:jt k ad F w z A y a s) (op:Nat) (R d v:Int) (af:R=op) (ao:s.code.length<=1000000000):
  Calls prog 69 #[.pointer (some ⟨k.c,0,none⟩),.int i64 R,.int i64 d,.int i64 v] a λe w'=>e=.returned (.int i64 (s.code.length:Int))/\CV k ad F w z A y a (s.vl op d v) w':=by
 subst af;have ai:=o.blk.cell;have ae:=fL o;have al:=G o;have I:=o.code.alloc (.cells #[.int i64 (op:Int),.int i64 d,.int i64 0,.int i64 0,.int i64 v] 159);have Z:=G (show k.base<=(a.alloc (.cells #[.int i64 (op:Int),.int i64 d,.int i64 0,.int i64 0,.int i64 v] 159)).heap.size by rw[World.size_alloc];omega);clear o ae;go_enter func69,ntmps69
 go_upto_region 2 with(at_builtin;refine fj J' rfl _ _ rfl k.base _ s.code.length (gM s.code) rfl I a.heap.size (nE ⟨op,d,0,0,v⟩) rfl (aq a _ _) rfl (vu _) J Qd Z.out ?_;intro am ah an X aa H;obtain⟨u,V⟩:=al.out.add ⟨op,d,0,0,v⟩ rfl X aa H;have c1:=u.cell;have ag:=u.frozen;have c2:=(u.set 2 (.slice (some ⟨am,0,none⟩) (s.code.length+1) ah)).cell;have aj:=G V;clear X aa H u V I ai)
 clear c1 ag;go_wp2_with fail;go_ret;exact⟨rfl,aj.out⟩
theorem gB {k:CC} {u:List (Nm×Int)} {O:Nat->Prop} {a:World} {s:CS} (m:CX k u O a s) (op:Nat) (d h b n:Int) (w:d=op) (y:s.code.length<=1000000000):
  Calls prog 70 #[.pointer (some ⟨k.c,0,none⟩),.int i64 d,.int i64 h,.int i64 b,.int i64 n] a λe w'=>e=.returned (.int i64 (s.code.length:Int))/\CP k u O a (s.op op h b n) w':=by
 obtain⟨X,F,R,V,G,A,z⟩:=m;exact(ID A op d h b n w y).mono λe w' o=>⟨o.1,o.2.st z⟩
theorem jn {k:CC} {u:List (Nm×Int)} {O:Nat->Prop} {a:World} {s:CS} (m:CX k u O a s) (op:Nat) (d h v:Int) (w:d=op) (y:s.code.length<=1000000000):
  Calls prog 69 #[.pointer (some ⟨k.c,0,none⟩),.int i64 d,.int i64 h,.int i64 v] a λe w'=>e=.returned (.int i64 (s.code.length:Int))/\CP k u O a (s.vl op h v) w':=by
 obtain⟨X,F,R,V,G,A,z⟩:=m;exact(vK A op d h v w y).mono λe w' o=>⟨o.1,o.2.st z⟩
end
section
def CS.big (s:CS):Nat:=s.code.length+s.tx.length+s.calls.length+s.dats.length
section
variable {s:CS} {B:Nat}
theorem aU (a:s.big<=B):s.code.length<=B:=by unfold CS.big at a;omega
theorem Cd (a:s.big<=B):s.tx.length<=B:=by unfold CS.big at a;omega
theorem qP (a:s.big<=B):s.calls.length<=B:=by unfold CS.big at a;omega
theorem tM (a:s.big<=B):s.dats.length<=B:=by unfold CS.big at a;omega
theorem bh (s:CS) (a:Nat) (d b n:Int):(s.op a d b n).big=s.big+1:=by simp[CS.op,CS.add,CS.big];omega
theorem a7 (s:CS) (a:Nat) (d v:Int):(s.vl a d v).big=s.big+1:=by simp[CS.vl,CS.add,CS.big];omega
theorem bo (s:CS) (i:Nat):(s.land i).big=s.big:=by simp[CS.land,CS.big]
theorem cD (s:CS) (r:Int) (t:List UInt8):(s.text r t).big=s.big+2+t.length:=by simp[CS.text,CS.vl,CS.add,CS.big];omega
theorem cO (s:CS) (r:Int) (nm:Nm):(s.dat r nm).big=s.big+2:=by simp[CS.dat,CS.vl,CS.add,CS.big];omega
theorem cG (s:CS) (nm:Nm):(s.call nm).big=s.big+2:=by simp[CS.call,CS.vl,CS.add,CS.big];omega
theorem cf (s:CS) (nm:Nm):(s.decl nm).big=s.big:=rfl
theorem bm (s:CS) (r:Int):(s.inv r).big=s.big+2:=by simp[CS.inv,bh,a7]
theorem iX (s:CS) (r n:Int):s.big+1<=(s.st r n).big/\(s.st r n).big<=s.big+2:=by unfold CS.st;split<;>simp only[a7]<;>omega
theorem t_ (s:CS) (r m:Int):s.big+6<=(s.chk r m).big/\(s.chk r m).big<=s.big+7:=by have:=iX s 0 (m+1);unfold CS.chk;simp only[bh,a7];omega
theorem jU (s:CS) (a:Nat) (r:Int) (nm:Nm):s.big+1<=(s.ld a r nm).big/\(s.ld a r nm).big<=s.big+3:=by unfold CS.ld;split<;>simp only[bh,cO]<;>omega
theorem dn (s:CS):s.back.big=s.big+3:=by simp[CS.back,bh]
theorem gW (sz:Nm->Int) (s:CS) (r:Int) (nm:Nm):s.big+9<=(s.elem sz r nm).big/\(s.elem sz r nm).big<=s.big+10:=by have:=t_ s r (sz nm-1);unfold CS.elem;simp only[bh,cO];omega
theorem mh (op:Nm) (r:Int) (s:CS):s.big+1<=(biop op r s).big/\(biop op r s).big<=s.big+3:=by unfold biop;simp only;split<;>split<;>simp only[bh,bm]<;>omega
theorem dN (a:Nat): ∀(k i:Nat) (s:CS),(svL a k i s).big=s.big+k
 |0,i,s=>rfl
 |k+1,i,s=>by rw[svL,dN a k,bh];omega
theorem eb (r:Nat): ∀(k i:Nat) (s:CS),(mvL r k i s).big=s.big+k
 |0,i,s=>rfl
 |k+1,i,s=>by rw[mvL,eb r k,bh];omega
theorem dl (nm:Nm) (n r:Nat) (s:CS):(caFin nm n r s).big=s.big+(2*(r-7)+n+3):=by unfold caFin;simp only[bh,dN,cG,eb];omega
theorem eV (c:Int) (n r i:Nat) (s:CS):(biM c n r i s).big=s.big+1:=by unfold biM;split<;>simp only[bh,a7]
variable (sz:Nm->Int)
theorem kh: ∀(ls:List UInt8) (d:List Ex) (a:Int) (s:CS),s.big<=(mQ sz ls d a s).2.big
 | _,[],a,s=>ah _
 |ls,x::l,a,s=>by
  rw[mQ];split
  ·exact kh ls.tail l a s
  split
  ·refine ay ?_ (kh ls.tail l _ _);have:=iX (s.text 5 x.tx) 6 x.tx.length;rw[cD]at this;omega
  ·refine ay ?_ (kh ls.tail l _ _);rw[cO];omega
theorem jC (c:Int) (ls:List UInt8) (a:List Ex) (r:Nat) (s:CS):(mQ sz ls a 0 s).2.big+6<=(iT sz c ls a r s).big/\(iT sz c ls a r s).big<=(mQ sz ls a 0 s).2.big+14:=by
 unfold iT;have:=t_ (mQ sz ls a 0 s).2 ((r:Int)+ua ls a-1) (min (mQ sz ls a 0 s).1 128);simp only[bh,a7];split<;>simp only[bh,eV]<;>omega
mutual
theorem pd: ∀(x:Ex) (r:Nat) (s:CS),s.big<=(fu sz x r s).big
 | .mk k op nm tx v a,r,s=>by
  rw[fu];split
  ·have:=iX s r v;omega
  split
  ·have:=jU s 14 r nm;omega
  split
  ·have h:=nv a r s;have:=gW sz (eW sz a r s) r nm;rw[bh];omega
  split
  ·split
   ·rename_i c ls _;have h:=qO ls a r s;have d:=kh sz ls a 0 (mP sz ls a r s);have:=jC sz c ls a r (mP sz ls a r s);omega
   ·have h:=tG a r s;rw[dl];omega
  split
  ·have h:=nv a r s;split
   ·rw[bm];omega
   ·rw[bh,a7];omega
  split
  ·have h:=nv a r s;split
   ·rw[bo,bm,bm];have d:=kZ a r ((eW sz a r s).vl 19 r 0);rw[a7]at d;omega
   split
   ·rw[bm,bo,bm];have d:=kZ a r (((eW sz a r s).inv r).vl 19 r 0);rw[a7,bm]at d;omega
   ·have d:=kZ a (r+1) (eW sz a r s);have:=mh op r (nI sz a (r+1) (eW sz a r s));omega
  ·exact ah _
theorem nv: ∀(l:List Ex) (r:Nat) (s:CS),s.big<=(eW sz l r s).big
 | [],r,s=>ah _
 |x::_,r,s=>by rw[eW];exact pd x r s
theorem kZ: ∀(l:List Ex) (r:Nat) (s:CS),s.big<=(nI sz l r s).big
 | [],r,s=>ah _
 | _::l,r,s=>by rw[nI];exact nv l r s
theorem tG: ∀(l:List Ex) (r:Nat) (s:CS),s.big<=(p6 sz l r s).big
 | [],r,s=>ah _
 |x::l,r,s=>by rw[p6];exact ay (pd x r s) (tG l (r+1) _)
theorem qO: ∀(ls:List UInt8) (l:List Ex) (r:Nat) (s:CS),s.big<=(mP sz ls l r s).big
 | _,[],r,s=>ah _
 |ls,x::l,r,s=>by
  rw[mP];split
  ·exact ay (pd x r s) (qO ls.tail l (r+1) _)
  ·exact qO ls.tail l r s
end
mutual
theorem GJ: ∀(x:St) (s:CS),s.big<=(nH sz x s).big
 | .mk k nm ex b e,s=>by
  rw[nH];have o:=nv sz ex 7 s;have h:=iD b ((eW sz ex 7 s).vl 19 7 0);rw[a7]at h;have d:=B5 ex s;split
  ·split
   ·rw[bo];omega
   ·rw[bo];have a:=iD e (((dI sz b ((eW sz ex 7 s).vl 19 7 0)).vl 18 0 0).land (eW sz ex 7 s).code.length);rw[bo,a7]at a;omega
  split
  ·rw[bo,a7];omega
  split
  ·have:=jU ((gO sz ex s).decl nm) 15 7 nm;rw[cf]at this;omega
  split
  ·have:=jU (gO sz ex s) 15 7 nm;omega
  split
  ·have a:=kZ sz ex 7 ((gO sz ex s).op 15 7 15 28);have:=gW sz (((nI sz ex 7 ((gO sz ex s).op 15 7 15 28)).op 3 8 7 0).op 14 7 15 28) 7 nm;simp only[bh]at this a⊢;omega
  split
  ·rw[dn,bh];omega
  ·exact d
theorem iD: ∀(l:List St) (s:CS),s.big<=(dI sz l s).big
 | [],s=>ah _
 |x::l,s=>by rw[dI];exact ay (GJ x s) (iD l _)
theorem B5: ∀(l:List Ex) (s:CS),s.big<=(gO sz l s).big
 | [],s=>by rw[gO,a7];omega
 |x::_,s=>by rw[gO];exact pd sz x 7 s
end
end
end
section
open Go.RowKit
theorem cW {d O h:Nat->Prop} {w0 a w':World} (T:Hid (eo d w0 O a)) (o:eo O a h w'):Hid (eo d w0 h w'):=eo.trans T o
theorem oL {k:CC} {w:List (Nm×Int)} {O:Nat->Prop} {a:World} {s:CS} (m:CX k w O a s) (y b:Int) (V:s.big<=950000000):
  Calls prog 132 #[.pointer (some ⟨k.c,0,none⟩),.int i64 y,.int i64 b] a λe w'=>e=.returned (.tuple #[])/\CP k w O a (s.op 3 y b 0) w':=by
 have d:=G m;have z:=G (eo.refl O a);clear m;go_enter func132,ntmps132;go_wp2_with (first|(go_at_call 70;refine(gB d.out 3 _ _ _ _ rfl (aU (by(try simp only[a7,bh,bo,bm,cO,cD,cG,cf]);omega))).mono ?_;rintro e R ⟨rfl,X,o,u⟩;have F:=cW z u;have A:=G o;clear d z o u;skip));exact bodyPost_end (results_none rfl _ _ _) rfl ⟨rfl,_,A.out,F.out⟩
theorem vQ {k:CC} {y:List (Nm×Int)} {O:Nat->Prop} {o:World} {s:CS} (m:CX k y O o s) (r:Int) (aa:s.big<=940000000):
  Calls prog 183 #[.pointer (some ⟨k.c,0,none⟩),.int i64 r] o λe w'=>e=.returned (.tuple #[])/\CP k y O o (s.inv r) w':=by
 have w:=G m;have A:=G (eo.refl O o);clear m;go_enter func183,ntmps183;go_wp2_with (first|(go_at_call 69;refine(jn w.out 1 _ _ _ rfl (aU (by(try simp only[a7,bh,bo,bm,cO,cD,cG,cf]);omega))).mono ?_;rintro e X ⟨rfl,H,a,d⟩;have z:=cW A d;have u:=G a;clear w A a d)|(go_at_call 70;refine(gB u.out 13 _ _ _ _ rfl (aU (by(try simp only[a7,bh,bo,bm,cO,cD,cG,cf]);omega))).mono ?_;rintro e V ⟨rfl,I,a,d⟩;have R:=cW z d;have F:=G a;clear u z a d));exact bodyPost_end (results_none rfl _ _ _) rfl ⟨rfl,_,F.out,R.out⟩
theorem Ax (n:Int):IntKind.i16.wrap n=jQ n:=by unfold jQ;simp[IntKind.wrap,IntKind.signed,IntKind.bits];split<;>split<;>omega
theorem yk (n:Int): -32768<=jQ n/\jQ n<=32767:=by unfold jQ;split<;>omega
theorem GW {k:CC} {R:List (Nm×Int)} {O:Nat->Prop} {o:World} {s:CS} (m:CX k R O o s) (r n:Int) (I: -1099511627776<=n/\n<=1099511627776) (ap:s.big<=945000000):
  Calls prog 179 #[.pointer (some ⟨k.c,0,none⟩),.int i64 r,.int i64 n] o λe w'=>e=.returned (.tuple #[])/\CP k R O o (s.st r n) w':=by
 have w:=G m;have z:=G (eo.refl O o);clear m;have ar:=Ax n;have aq:=Ax ((n-jQ n)/65536);obtain⟨al,Z⟩:=yk n;have A:=G (show s.st r n=if jQ ((n-jQ n)/65536)=0 then s.vl 1 r (jQ n)else(s.vl 1 r (jQ n)).vl 2 r (jQ ((n-jQ n)/65536))from rfl);have V:=G (yk ((n-jQ n)/65536));generalize jQ ((n-jQ n)/65536)=F at*;generalize jQ n=L at*;obtain⟨aj,ai⟩:=V.out;obtain⟨ah,ag⟩:=I;have ao:IntKind.i64.wrap (n-L)=n-L:=Qc
 have an:IntKind.i64.wrap L=L:=Qc
 have am:IntKind.i64.wrap F=F:=Qc
 clear V;by_cases hH:F=0
 ·have H:=beq_iff_eq.2 hH;rw[if_pos hH]at A;clear hH;go_enter func179,ntmps179;go_wp2_with (first|(go_at_call 69;refine(jn w.out 1 _ _ _ rfl (aU (by(try simp only[a7,bh,bo,bm,cO,cD,cG,cf]);omega))).mono ?_;rintro e X ⟨rfl,ae,a,d⟩;have y:=cW z d;have u:=G a;clear w z a d));exact bodyPost_end (results_none rfl _ _ _) rfl ⟨rfl,_,A.out▸u.out,y.out⟩
 ·have H:=Qn.2 hH;rw[if_neg hH]at A;go_enter func179,ntmps179;go_wp2_with (first|(go_at_call 69;refine(jn w.out 1 _ _ _ rfl (aU (by(try simp only[a7,bh,bo,bm,cO,cD,cG,cf]);omega))).mono ?_;rintro e X ⟨rfl,ae,a,d⟩;have y:=cW z d;have u:=G a;clear w z a d)|(go_at_call 69;refine(jn u.out 2 _ _ _ rfl (aU (by(try simp only[a7,bh,bo,bm,cO,cD,cG,cf]);omega))).mono ?_;rintro e af ⟨rfl,au,a,d⟩;have ad:=cW y d;have aa:=G a;clear u y a d));exact bodyPost_end (results_none rfl _ _ _) rfl ⟨rfl,_,A.out▸aa.out,ad.out⟩
theorem IC {k:CC} {V:List (Nm×Int)} {O:Nat->Prop} {u:World} {s:CS} (m:CX k V O u s) (r o:Int) (a: -1000000000<=o/\o<=1000000000) (aq:s.big<=940000000):
  Calls prog 186 #[.pointer (some ⟨k.c,0,none⟩),.int i64 r,.int i64 o] u λe w'=>e=.returned (.tuple #[])/\CP k V O u (s.chk r o) w':=by
 have R:=G m;have ae:=G (eo.refl O u);clear m;have ap:=a.1;have ao:=a.2;have an:IntKind.i64.wrap (o+1)=o+1:=Qc
 go_enter func186,ntmps186;go_wp2_with (first|(go_at_call 179;refine(GW R.out 0 (o+1) J J).mono ?_;rintro e am ⟨rfl,ay,a,d⟩;have ad:=cW ae d;have F:=G a;clear R ae a d)|(go_at_call 70;refine(gB F.out 12 _ _ _ _ rfl (aU (by have:=iX s 0 (o+1);(try simp only[a7,bh,bo,bm,cO,cD,cG,cf]);omega))).mono ?_;rintro e al ⟨rfl,ax,a,d⟩;have H:=cW ad d;have A:=G a;clear F ad a d)|(go_at_call 69;refine(jn A.out 1 _ _ _ rfl (aU (by have:=iX s 0 (o+1);(try simp only[a7,bh,bo,bm,cO,cD,cG,cf]);omega))).mono ?_;rintro e Z ⟨rfl,aw,a,d⟩;have I:=cW H d;have z:=G a;clear A H a d)|(go_at_call 70;refine(gB z.out 12 _ _ _ _ rfl (aU (by have:=iX s 0 (o+1);(try simp only[a7,bh,bo,bm,cO,cD,cG,cf]);omega))).mono ?_;rintro e aj ⟨rfl,av,a,d⟩;have aa:=cW I d;have y:=G a;clear z I a d)|(go_at_call 70;refine(gB y.out 9 _ _ _ _ rfl (aU (by have:=iX s 0 (o+1);(try simp only[a7,bh,bo,bm,cO,cD,cG,cf]);omega))).mono ?_;rintro e ai ⟨rfl,au,a,d⟩;have X:=cW aa d;have w:=G a;clear y aa a d)|(go_at_call 70;refine(gB w.out 7 _ _ _ _ rfl (aU (by have:=iX s 0 (o+1);(try simp only[a7,bh,bo,bm,cO,cD,cG,cf]);omega))).mono ?_;rintro e ah ⟨rfl,ar,a,d⟩;have ag:=cW X d;have af:=G a;clear w X a d));exact bodyPost_end (results_none rfl _ _ _) rfl ⟨rfl,_,af.out,ag.out⟩
def kj:=@eo.of_ext
def kO:=@eo.refl
def rx:=@eo.trans
end
end Go.Proofs.YtoedmpgicdekmaaGreatDoor
