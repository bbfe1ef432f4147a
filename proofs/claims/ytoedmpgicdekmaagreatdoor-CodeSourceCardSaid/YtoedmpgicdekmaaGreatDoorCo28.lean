/- Parts of the proof. -/
import Derived.Deep.AppendLies
import Derived.Test.YtoedmpgicdekmaaGreatDoorCo27
set_option maxRecDepth 100000
set_option maxHeartbeats 8000000
set_option linter.all false
namespace Go.Proofs.YtoedmpgicdekmaaGreatDoor
open Go.Proofs.Tryz
section
open Go.RowKit
theorem mu {P:Program} {a:World} {ops:Array Oper} {d:Oper} {h:Act} {K:Act->World->Prop} {Q:Exit->Act->World->Prop} {E:Prop} {t e:TypeId} {w z:Nat} {A:Value} (ag:nL P t e w z A) (H:d.guard=none) (s x:Operand)
  (aa:d.op=.call {callee:=.builtin .append,args:= #[s,x],argTypes:= #[t,t]}) (base:Nat) (v:Value) (n:Nat) (xs:List Value) (V:h.eval s=v) (X:a.ownsRow base e w v n xs)
  (g:Nat) (o:List Value) (G:h.eval x=.slice (some ⟨g,0,none⟩) 1 1) (ad:a.heap[g]? =some (.cells o.toArray e (0,0))) (I:o.length=w) (ah: ∀u∈o,u.oneCell'=true) (af:n<=1073741824) (F:z<=1000) (ae:base<=a.heap.size)
  (ai: ∀y cap' w',w'.ownsRow base e w (.slice (some ⟨y,0,none⟩) (n+1) cap') (n+1) (xs++o)->a.grownBy w' v.ownBlock->(some y=v.ownBlock\/y=a.heap.size)->
   K (h.put d.dst (.slice (some ⟨y,0,none⟩) (n+1) cap')) w'):
  if Region.wanted d (yielded ops h.tmps)=true then Oper.wp P d h a K Q else E:=by
 have R:Region.wanted d (yielded ops h.tmps)=true:=by simp[Region.wanted,H]
 rw[if_pos R];exact xV ag s x aa base v n xs V X g o G ad I ah af F ae ai
theorem om (x:Nat×Nm): ∀u∈oo x,u.oneCell'=true:=by simp[oo,Value.oneCell']
theorem qF (l:List (Nat×Nm)) (x:Nat×Nm):f9 (l++[x])=f9 l++oo x:=by simp[f9]
def CS.addD (s:CS) (x:Nat×Nm):CS:={s with dats:=s.dats++[x]}
theorem jt.datm {k:CC} {ae:List (Nm×Int)} {O:Nat->Prop} {A X d:World} {s:CS} {V F R h G:Value} (u:jt k ae V F R h G A s) (ah: ∀b,O b↔some b∈bM k V F R h G) (y:au A X) (x:Nat×Nm) {a w n:Nat} (ag:s.dats.length=n)
  (af:d.ownsRow k.base 155 2 (.slice (some ⟨a,0,none⟩) (n+1) w) (n+1) (f9 s.dats++oo x)) (aa:X.grownBy d h.ownBlock) (o:some a=h.ownBlock\/a=X.heap.size):
  aO d k.c 95 #[k.va,k.fa,V,F,.map (some k.bp),.map (some k.bs),.map (some k.ba),R,h,G,.int .i64 s.frame]/\CP k ae O A (s.addD x) (d.setCell ⟨k.c,8,none⟩ (.slice (some ⟨a,0,none⟩) (n+1) w)):=by
 subst ag;have ad:=u.keep y.size λb z=>y.obj (u.lo b z).2;have z:=ad.blk.grown aa (fL u).2.2.2.2;have am:=y.size;refine⟨z,?_⟩;obtain⟨al,Z,aj,ai⟩:=ad.dats_cp ah (c':=s.dats++[x]) (v':=.slice (some ⟨a,0,none⟩) (s.dats.length+1) w) (W:=d.setCell ⟨k.c,8,none⟩ (.slice (some ⟨a,0,none⟩) (s.dats.length+1) w)) (by simpa using z.set 8 (.slice (some ⟨a,0,none⟩) (s.dats.length+1) w))
  (by rw[H,qF];exact af.kept (je d k.c 8 _) (.inr λe=>by
   rcases o with o|o
   ·exact(fL u).2.2.2.2 (by rw[<-o];exact e.symm)
   ·have an:=(u.lo k.c (by simp[bM])).2;have e:a=k.c:=I e
    omega)) (o.imp id λe=>by rw[e];rfl) ((ki aa λb e=> .inr e).set (λ_=> .inl rfl) _)
 exact⟨al,Z,eo.pre y ⟨aj,ai⟩⟩
def CS.addC (s:CS) (x:Nat×Nm):CS:={s with calls:=s.calls++[x]}
theorem jt.callm {k:CC} {ae:List (Nm×Int)} {O:Nat->Prop} {A X d:World} {s:CS} {V F h R G:Value} (u:jt k ae V F h R G A s) (ah: ∀b,O b↔some b∈bM k V F h R G) (y:au A X) (x:Nat×Nm) {a w n:Nat} (ag:s.calls.length=n)
  (af:d.ownsRow k.base 155 2 (.slice (some ⟨a,0,none⟩) (n+1) w) (n+1) (f9 s.calls++oo x)) (aa:X.grownBy d h.ownBlock) (o:some a=h.ownBlock\/a=X.heap.size):
  aO d k.c 95 #[k.va,k.fa,V,F,.map (some k.bp),.map (some k.bs),.map (some k.ba),h,R,G,.int .i64 s.frame]/\CP k ae O A (s.addC x) (d.setCell ⟨k.c,7,none⟩ (.slice (some ⟨a,0,none⟩) (n+1) w)):=by
 subst ag;have ad:=u.keep y.size λb z=>y.obj (u.lo b z).2;have z:=ad.blk.grown aa (fL u).2.2.2.1;have am:=y.size;refine⟨z,?_⟩;obtain⟨al,Z,aj,ai⟩:=ad.calls_cp ah (c':=s.calls++[x]) (v':=.slice (some ⟨a,0,none⟩) (s.calls.length+1) w) (W:=d.setCell ⟨k.c,7,none⟩ (.slice (some ⟨a,0,none⟩) (s.calls.length+1) w)) (by simpa using z.set 7 (.slice (some ⟨a,0,none⟩) (s.calls.length+1) w))
  (by rw[H,qF];exact af.kept (je d k.c 7 _) (.inr λe=>by
   rcases o with o|o
   ·exact(fL u).2.2.2.1 (by rw[<-o];exact e.symm)
   ·have an:=(u.lo k.c (by simp[bM])).2;have e:a=k.c:=I e
    omega)) (o.imp id λe=>by rw[e];rfl) ((ki aa λb e=> .inr e).set (λ_=> .inl rfl) _)
 exact⟨al,Z,eo.pre y ⟨aj,ai⟩⟩
theorem Fg {k:CC} {ae:List (Nm×Int)} {O:Nat->Prop} {a:World} {s:CS} (m:CX k ae O a s) (r:Int) (nm:Nm) (z:s.big<=945000000):
  Calls prog 185 #[.pointer (some ⟨k.c,0,none⟩),.int .i64 r,.string (Z nm)] a λe w'=>e=.returned (.tuple #[])/\CP k ae O a (s.dat r nm) w':=by
 have H:au a a.drew:=eR (aI a);obtain⟨az,ar,aw,ax,av,A,ai⟩:=m.ext H;have aB:=aU z;have aA:=tM z;have af:=G (vK A 1 1 r 0 rfl J);have ag:=G (kj (O:=O) H);have o:=A.blk.cell;clear m A z;go_enter func185,ntmps185
 go_region_law (first
  |(refine mu IW rfl _ _ rfl k.base _ s.dats.length (f9 s.dats) rfl (u.out.dats.alloc _) w.heap.size (oo (s.code.length,nm)) rfl (aq w _ _) rfl (om _) J Qd (by rw[World.size_alloc];have:=(fL u.out).1;omega) ?_;intro aE aD ap V X ad;obtain⟨y,R⟩:=u.out.datm (n:=s.dats.length) (λb=>ip) (aa w _) (s.code.length,nm) rfl V X ad;clear o al;have o:=y.cell;have aC:=y.frozen;have ao:=G R;clear V X ad y R u)
  |(go_simp;go_at_call 69;refine af.out.mono ?_;rintro e w ⟨rfl,F⟩;obtain⟨ay,d,I⟩:=F.own ai;have an:=G (rx ag.out I);have u:=G d;clear o;have o:=d.blk.cell;have al:=(d.blk.alloc (.cells #[.int .i64 (s.code.length:Int),.string (Z nm)] 155)).cell;clear d af I F ag))
 all_goals (go_wp2_with fail;obtain⟨am,aj,ah⟩:=ao.out;exact bodyPost_end (results_none rfl _ _ _) rfl ⟨rfl,am,aj,an.out.trans ah⟩)
theorem uL {P:Program} {w:World} (base:Nat) (t a ty e:TypeId) (i:TypeInfo) (u:P.underlying t=some (.slice e)) (o:P.underlying a=some .string) (hi:P.info? e=some i) (z:i.zero=some (.int .u8 0))
  (A:i.size=1) (G:i.bytes=1) (v:Value) (n:Nat) (xs:List Value) (F:w.ownsRow base e 1 v n xs) (s:ByteArray) (aj:n+s.size<=1000000000) (I:base<=w.heap.size):
  ∃v' w',(Builtin.append_ #[t,a] ty #[v,.string s]).run P w=.ok v' w'/\w'.ownsRow base e 1 v' (n+s.size) (xs++Lib.strCells s)/\w.grownBy w' v.ownBlock/\(v'.ownBlock=v.ownBlock\/v'.ownBlock=some w.heap.size):=by
 obtain⟨v',w',y,ae,ad,H⟩:=Lib.run_append_own_string (P:=P) w base t a ty e i u o hi z A G v n xs F s Qh J I;refine⟨v',w',y,ae,ad,?_⟩;rcases F.2 with⟨rfl,rfl⟩|⟨g,cap,cur,rfl,hbg,hg,hnc,hcm,hcs,htake⟩
 ·obtain⟨ag,af,V,ai,_,_⟩:=Lib.run_append_own_string (P:=P) w w.heap.size t a ty e i u o hi z A G (.slice none 0 0) 0 [] (World.ownsRow_nil w _ e 1) s Qh J (ah _);rw[y]at V;injection V with h R;subst h R;by_cases hs0:s.size=0
  ·exact .inl (by rw[H.2 ⟨rfl,hs0⟩])
  ·right;have d:=run_append_nil_string (P:=P) w t a ty e i (.int .u8 0) u o hi z s J J (by rw[G];omega);rw[y]at d;injection d with h R;rw[h];rfl
 ·by_cases hroom:n+s.size<=cap
  ·have d:=Lib.run_append_room_string (P:=P) w t a ty e i u o hi A g n cap cur hg s hroom J;rw[y]at d;injection d with h R;exact .inl (by rw[h];rfl)
  ·right;have X:xs.length=n:=by simpa using F.1
   have aa: ∀j a,xs[j]? =some a->w.cell? ((⟨g,0,none⟩:Addr).add j)=some a:=F.cells (g:=g) rfl;have d:=Lib.run_append_grow_string (P:=P) w t a ty e i (.int .u8 0) u o hi z ⟨g,0,none⟩ n cap xs (by rw[A];simpa using X) aa s J J (by rw[G];exact growslice_fits J J);rw[y]at d;injection d with h R;rw[h];rfl
theorem ql {P:Program} {a:World} {ops:Array Oper} {rest:List Oper} {d:Oper} {h:Act} {Q:Exit->Act->World->Prop} (aa:d.guard=none) (u x:Operand) (t o:TypeId)
  (X:d.op=.call {callee:=.builtin .append,args:= #[u,x],argTypes:= #[t,o]}) (base:Nat) (e:TypeId) (i:TypeInfo) (A:P.underlying t=some (.slice e)) (z:P.underlying o=some .string) (hi:P.info? e=some i) (w:i.zero=some (.int .u8 0))
  (F:i.size=1) (I:i.bytes=1) (v:Value) (n:Nat) (xs:List Value) (G:h.eval u=v) (V:a.ownsRow base e 1 v n xs) (s:ByteArray) (y:h.eval x=.string s) (ae:n+s.size<=1000000000) (H:base<=a.heap.size)
  (ai: ∀v' w',w'.ownsRow base e 1 v' (n+s.size) (xs++Lib.strCells s)->a.grownBy w' v.ownBlock->(v'.ownBlock=v.ownBlock\/v'.ownBlock=some a.heap.size)->wpList P ops Q rest (h.put d.dst v') w'):wpList P ops Q (d::rest) h a:=by
 refine wpList_plain aa λK ad=> ?_;obtain⟨v',w',R,ah,ag,af⟩:=uL (P:=P) (w:=a) base t o d.type e i A z hi w F I v n xs V s ae H;unfold Oper.wp execOp;simp only[X,resolve,invoke,builtin,Sem.run_bind,Sem.run_pure,Result.andThen_ok,dx,bL,dz,G,y,R];exact ad _ _ (ai v' w' ah ag af)
theorem kB {h:World} {base n d:Nat} {e:TypeId} {v:Value} {xs:List Value} (u:h.ownsRow base e d v n xs): ∃w c,v=.slice w n c:=by
 rcases u.2 with⟨a,o⟩|⟨g,cap,cur,a,_⟩
 ·exact⟨none,0,by rw[a,o]⟩
 ·exact⟨_,_,a⟩
theorem jt.txt {k:CC} {V:List (Nm×Int)} {O:Nat->Prop} {u d:World} {s:CS} {A h y z w v':Value} (o:jt k V A h y z w u s) (X: ∀b,O b↔some b∈bM k A h y z w) (x:List UInt8)
  (F:d.ownsRow k.base 5 1 v' (s.tx.length+(Z x).size) (iM s.tx++Lib.strCells (Z x))) (G:u.grownBy d h.ownBlock) (a:v'.ownBlock=h.ownBlock\/v'.ownBlock=some u.heap.size):
  aO d k.c 95 #[k.va,k.fa,A,h,.map (some k.bp),.map (some k.bs),.map (some k.ba),y,z,w,.int .i64 s.frame]/\CP k V O u {s with tx:=s.tx++x} (d.setCell ⟨k.c,3,none⟩ v'):=by
 have R:=o.blk.grown G (fL o).2.2.1;refine⟨R,o.tx_cp X (by simpa using R.set 3 v') ?_ a ((ki G λb e=> .inr e).set (λ_=> .inl rfl) _)⟩;have:iM s.tx++Lib.strCells (Z x)=iM (s.tx++x):=by simp[iM,Lib.strCells,Z,rz]
 rw[this,aZ,<-H]at F;refine F.kept (je d k.c 3 _) ?_;rcases a with a|a
 ·exact .inr λe=>(fL o).2.2.1 (by rw[<-a];exact e.symm)
 ·exact .inr λe=>by
   have aa:=(o.lo k.c (by simp[bM])).2;rw[a]at e;injection e with e;omega
theorem JN {k:CC} {an:List (Nm×Int)} {O:Nat->Prop} {o:World} {s:CS} (m:CX k an O o s) (r:Int) (t:List UInt8) (ae:(s.text r t).big<=945000000):
  Calls prog 219 #[.pointer (some ⟨k.c,0,none⟩),.int .i64 r,.string (Z t)] o λe w'=>e=.returned (.tuple #[])/\CP k an O o (s.text r t) w':=by
 obtain⟨aw,hi,aA,az,ax⟩:=info_parts (show(prog.info? 5).map (λi=>(i.zero,i.size,i.bytes))=some (some (.int .u8 0),1,1)from by kernel_rfl);have al:au o o.drew:=eR (aI o);obtain⟨a1,aP,aT,aW,aR,R,aE⟩:=m.ext al;obtain⟨ba,a6,rfl⟩:=R.tx.form;rw[cD]at ae;have a5:=aU (show s.big<=945000000 by omega);have a4:=tM (show s.big<=945000000 by omega);have a3:=Cd (show s.big<=945000000 by omega);have ah:s.tx.length+t.length<=945000000:=by unfold CS.big at ae;omega
 have ao:=G (vK R 1 1 r s.tx.length rfl J);have ar:=G (kj (O:=O) al);have a:=R.blk.cell;clear m R ae;go_enter func219,ntmps219;go_wp2_with fail
 go_region_law (first
  |(refine mu IW rfl _ _ rfl k.base _ s.dats.length (f9 s.dats) rfl (X.out.dats.alloc _) H.heap.size (oo (s.code.length,[])) rfl (aq H _ _) rfl (om _) J Qd (by rw[World.size_alloc];have:=(fL X.out).1;omega) ?_;intro bc a7 av u z A;obtain⟨d,y⟩:=X.out.datm (n:=s.dats.length) (λb=>ip) (aa H _) (s.code.length,[]) rfl u z A;clear a aH;have a:=d.cell;have am:=d.frozen;have V:=G y;clear u z A d y X)
  |(go_simp;go_at_call 69;refine ao.out.mono ?_;rintro e H ⟨rfl,ag⟩;obtain⟨aY,F,aj⟩:=ag.own aE;have ap:=G (rx ar.out aj);have X:=G F;clear a;have a:=F.blk.cell;have aH:=(F.blk.alloc (.cells #[.int .i64 (s.code.length:Int),.string ⟨#[]⟩] 155)).cell;clear F ao aj ag ar))
 all_goals
  clear a am;obtain⟨a9,w,ai⟩:=V.out;have aJ:=G (ap.out.trans ai);have af:((s.vl 1 r s.tx.length).addD (s.code.length,[])).tx=s.tx:=rfl;generalize aB:(s.vl 1 r s.tx.length).addD (s.code.length,[])=ad at*;obtain⟨aX,aO,aS,aV,aQ,w,aD⟩:=w;obtain⟨aL,aG,rfl⟩:=w.tx.form;have I:=G w;have a:=w.blk.cell;clear w V ai ap;rw[<-af]at ah;clear af;generalize World.setCell av _ _=aN at*;go_wp2_with (at_builtin;refine ql rfl _ _ _ _ rfl k.base 5 aw underlying36 underlying9 hi aA az ax (.slice aL ad.tx.length aG) ad.tx.length (iM ad.tx) rfl I.out.tx (Z t) rfl (by rw[aZ];exact ay ah Qd) (fL I.out).1 ?_;intro a2 aM u z A;obtain⟨bb,a8,rfl⟩:=kB u;obtain⟨d,y⟩:=I.out.txt aD t u z A;clear a;have a:=d.cell;have am:=d.frozen;have V:=G y;clear u z A d y I);obtain⟨aK,aF,aC⟩:=V.out;subst aB;exact bodyPost_end (results_none rfl _ _ _) rfl ⟨rfl,aK,aF,aJ.out.trans aC⟩
end
section
open Go.RowKit
open Go.ChangeMaps Go.MapKept Go.WideMaps
theorem nC: ∀(l:List dq) (i:Nat) (v:Int),i<l.length->gM (l.modify i (gS · v))=(gM l).set (i*5+4) (.int .i64 v)
 | [],i,v,h=>by simp at h
 |x::l,0,v,h=>by simp[gM,nE,gS]
 |x::l,i+1,v,h=>by
  have:=nC l i v (by simpa using h);simp only[gM,List.modify_succ_cons,bJ]at this⊢;rw[this,show(i+1)*5+4=(i*5+4)+5 by omega];simp[nE,List.set_append]
theorem fZ: ∀(l:List dq) (i:Nat) (a:i<l.length) (j:Nat),j<5->(gM l)[i*5+j]? =(nE l[i])[j]?
 | [],i,a,j,hj=>by simp at a
 |x::l,0,a,j,hj=>by
  simp only[gM,bJ,aY,aE,aF];rw[br (by simp[nE];omega)]
 |x::l,i+1,a,j,hj=>by
  have:=fZ l i (by simpa using a) j hj;simp only[gM,bJ,aP]at this⊢;rw[bH (by simp[nE];omega),<-this]
  congr 1
  simp[nE];omega
theorem jt.setv {k:CC} {z:List (Nm×Int)} {O:Nat->Prop} {d:World} {s:CS} {g h n:Nat} {o w y u:Value} (a:jt k z (.slice (some ⟨g,0,none⟩) n h) o w y u d s) (G: ∀b,O b↔some b∈bM k (.slice (some ⟨g,0,none⟩) n h) o w y u) (F:s.code.length=n) (i:Nat) (hi:i<n) (v:Int):
  CP k z O d {s with code:=s.code.modify i (gS · v)} (d.setCell ⟨g,i*5+4,none⟩ (.int .i64 v)):=by
 subst F;have A:=(fL a).2.1;refine a.code_cp G (c':=s.code.modify i (gS · v)) (v':=.slice (some ⟨g,0,none⟩) s.code.length h) (a.blk.far (p:=⟨g,i*5+4,none⟩) (λe=>A (by rw[e];rfl)) _) ?_ (.inl rfl) ((gG _ _).set (p:=⟨g,i*5+4,none⟩) (λ_=> .inr rfl) _);have:=a.code.stored (i*5+4) (.int .i64 v);rw[d6,nC _ _ _ hi];simpa using this.1
theorem sy {k:CC} {z:List (Nm×Int)} {O:Nat->Prop} {a:World} {s:CS} (m:CX k z O a s) (i:Nat) (hi:i<s.code.length) (u:s.big<=950000000):
  Calls prog 178 #[.pointer (some ⟨k.c,0,none⟩),.int .i64 (i:Int)] a λe w'=>e=.returned (.tuple #[])/\CP k z O a (s.land i) w':=by
 have y:au a a.drew:=eR (aI a);obtain⟨ae,aa,H,ad,I,d,w⟩:=m.ext y;have ah:=aU u;have o:=d.code;have aj:=d.blk.cell;have V:=G (kj (O:=O) y);rcases d.code.2 with⟨rfl,Z⟩|⟨g,cap,cur,rfl,_⟩
 ·omega
 have X:=G (d.setv w rfl i hi ((s.code.length:Int)-i-1));have c1:a.drew.cell? ⟨g,i*5+4,none⟩=some (.int .i64 s.code[i].v):=by rw[o.cellAt _ J,fZ _ _ hi 4 J];rfl
 have al:=o.frozenAt (i*5+4);have ai:(i:Int)<(s.code.length:Int):=J
 have ag:IntKind.i64.wrap ((s.code.length:Int)-i)=(s.code.length:Int)-i:=Qc
 have af:IntKind.i64.wrap ((s.code.length:Int)-i-1)=(s.code.length:Int)-i-1:=Qc
 clear m d o w u;go_enter func178,ntmps178;go_region;obtain⟨R,F,A⟩:=X.out;exact bodyPost_end (results_none rfl _ _ _) rfl ⟨rfl,R,F,V.out.trans A⟩
theorem q_ {k:CC} {h:List (Nm×Int)} {O:Nat->Prop} {a:World} {s:CS} (m:CX k h O a s):a.cell? ⟨k.c,9+1,none⟩=some (.int .i64 s.frame):=by
 obtain⟨z,o,w,y,u,d,A⟩:=m;exact(d.blk.cell 10).trans rfl
theorem F6 {k:CC} {z:List (Nm×Int)} {O:Nat->Prop} {o:World} {s:CS} (m:CX k z O o s) (ad:s.big<=940000000):
  Calls prog 73 #[.pointer (some ⟨k.c,0,none⟩)] o λe w'=>e=.returned (.tuple #[])/\CP k z O o s.back w':=by
 have y:=G m;have R:=G (kO O o);clear m;go_enter func73,ntmps73
 go_upto_region 1 with(go_at_call 70;refine(gB y.out 14 _ _ _ _ rfl (aU (by(try simp only[a7,bh,bo,bm,cO,cD,cG,cf,dn,dN,eb,dl,eV]);omega))).mono ?_;rintro e H ⟨rfl,ag,a,d⟩;have F:=cW R d;have u:=G a;clear y R a d)
 have f:=q_ u.out;go_wp2_with (first|(go_at_call 70;refine(gB u.out 3 _ _ _ _ rfl (aU (by(try simp only[a7,bh,bo,bm,cO,cD,cG,cf,dn,dN,eb,dl,eV]);omega))).mono ?_;rintro e I ⟨rfl,af,a,d⟩;have A:=cW F d;have w:=G a;clear f;clear u F a d)|(go_at_call 70;refine(gB w.out 21 _ _ _ _ rfl (aU (by(try simp only[a7,bh,bo,bm,cO,cD,cG,cf,dn,dN,eb,dl,eV]);omega))).mono ?_;rintro e aa ⟨rfl,ae,a,d⟩;have X:=cW A d;have V:=G a;clear w A a d));exact bodyPost_end (results_none rfl _ _ _) rfl ⟨rfl,_,V.out,X.out⟩
theorem yt {k:CC} {w:List (Nm×Int)} {O:Nat->Prop} {a:World} {s:CS} (m:CX k w O a s) {nm:Nm} (h:nm.length<=maxLen): ∃d,a.cell? ⟨k.c,8+1,none⟩=some d/\(Instr.lookup 88 d (.string (Z nm)) true).run prog a=.ok (.tuple #[.int .i64 ((iw s.slots nm).getD 0),.bool (iw s.slots nm).isSome]) a:=by
 obtain⟨F,y,z,A,d,o,G⟩:=m;refine⟨d,(o.blk.cell 9).trans rfl,?_⟩;rcases o.sl with⟨rfl,u,_⟩|⟨b,rfl,h1,_⟩
 ·rw[(vh xn a h).2,u];rfl
 ·rw[(h1.look xn h).2];unfold gL
  cases iw s.slots nm<;>rfl
theorem Iy {k:CC} {F:List (Nm×Int)} {O:Nat->Prop} {w:World} {s:CS} (m:CX k F O w s) (r:Int) (nm:Nm) (I:nm.length<=maxLen) (ah:s.big<=940000000):
  Calls prog 180 #[.pointer (some ⟨k.c,0,none⟩),.int .i64 r,.string (Z nm)] w λe w'=>e=.returned (.tuple #[])/\CP k F O w (s.ld 14 r nm) w':=by
 obtain⟨af,ai,A⟩:=yt m I;have z:=G m;have V:=G (kO O w);have u:=G (show s.ld 14 r nm=match iw s.slots nm with|some F=>s.op 14 r 15 F|none=>(s.dat 0 nm).op 14 r 0 0 from rfl);generalize s.ld 14 r nm=ag at*;clear m
 cases hl:iw s.slots nm with
 |some a=>
  rw[hl]at A u;simp only[bZ,dK]at A u;clear hl;go_enter func180,ntmps180;go_wp2_with (go_at_call 70;refine(gB z.out 14 _ _ _ _ rfl (aU (by(try simp only[a7,bh,bo,bm,cO,cD,cG,cf,dn,dN,eb,dl,eV]);omega))).mono ?_;rintro e X ⟨rfl,ad,d,o⟩;have R:=cW V o;have y:=G d;clear z V d o);exact bodyPost_ret (results_none rfl _ _ _) rfl ⟨rfl,_,u.out▸y.out,R.out⟩
 |none=>
  rw[hl]at A u;simp only[fE,dY]at A u;clear hl;go_enter func180,ntmps180;go_wp2_with (first|(go_at_call 185;refine(Fg z.out 0 nm (by(try simp only[a7,bh,bo,bm,cO,cD,cG,cf,dn,dN,eb,dl,eV]);omega)).mono ?_;rintro e X ⟨rfl,ad,d,o⟩;have R:=cW V o;have y:=G d;clear z V d o)|(go_at_call 70;refine(gB y.out 14 _ _ _ _ rfl (aU (by(try simp only[a7,bh,bo,bm,cO,cD,cG,cf,dn,dN,eb,dl,eV]);omega))).mono ?_;rintro e ae ⟨rfl,aj,d,o⟩;have H:=cW R o;have aa:=G d;clear y R d o));exact bodyPost_end (results_none rfl _ _ _) rfl ⟨rfl,_,u.out▸aa.out,H.out⟩
theorem CN {k:CC} {F:List (Nm×Int)} {O:Nat->Prop} {w:World} {s:CS} (m:CX k F O w s) (r:Int) (nm:Nm) (I:nm.length<=maxLen) (ah:s.big<=940000000):
  Calls prog 131 #[.pointer (some ⟨k.c,0,none⟩),.int .i64 r,.string (Z nm)] w λe w'=>e=.returned (.tuple #[])/\CP k F O w (s.ld 15 r nm) w':=by
 obtain⟨af,ai,A⟩:=yt m I;have z:=G m;have V:=G (kO O w);have u:=G (show s.ld 15 r nm=match iw s.slots nm with|some F=>s.op 15 r 15 F|none=>(s.dat 0 nm).op 15 r 0 0 from rfl);generalize s.ld 15 r nm=ag at*;clear m
 cases hl:iw s.slots nm with
 |some a=>
  rw[hl]at A u;simp only[bZ,dK]at A u;clear hl;go_enter func131,ntmps131;go_wp2_with (go_at_call 70;refine(gB z.out 15 _ _ _ _ rfl (aU (by(try simp only[a7,bh,bo,bm,cO,cD,cG,cf,dn,dN,eb,dl,eV]);omega))).mono ?_;rintro e X ⟨rfl,ad,d,o⟩;have R:=cW V o;have y:=G d;clear z V d o);exact bodyPost_ret (results_none rfl _ _ _) rfl ⟨rfl,_,u.out▸y.out,R.out⟩
 |none=>
  rw[hl]at A u;simp only[fE,dY]at A u;clear hl;go_enter func131,ntmps131;go_wp2_with (first|(go_at_call 185;refine(Fg z.out 0 nm (by(try simp only[a7,bh,bo,bm,cO,cD,cG,cf,dn,dN,eb,dl,eV]);omega)).mono ?_;rintro e X ⟨rfl,ad,d,o⟩;have R:=cW V o;have y:=G d;clear z V d o)|(go_at_call 70;refine(gB y.out 15 _ _ _ _ rfl (aU (by(try simp only[a7,bh,bo,bm,cO,cD,cG,cf,dn,dN,eb,dl,eV]);omega))).mono ?_;rintro e ae ⟨rfl,aj,d,o⟩;have H:=cW R o;have aa:=G d;clear y R d o));exact bodyPost_end (results_none rfl _ _ _) rfl ⟨rfl,_,u.out▸aa.out,H.out⟩
theorem Bk (l:List (Nm×Int)) (nm:Nm) (v:Int) (x:Nm):iw (iU l nm v) x=if x=nm then some v else iw l x:=by
 unfold iU iw;split
 ·rename_i a
  induction l with
  |nil=>simp at a
  |cons y l ih=>
   simp only[bL,jk];by_cases hy:y.1=nm
   ·simp only[hy,if_true,beq_self_eq_true];by_cases hx:x=nm
    ·subst hx;simp
    ·have:(nm==x)=false:=by simpa using λe=>hx e.symm
     rw[this,if_neg hx];simp only;by_cases h:l.any (·.1==nm)=true
     ·have:=ih h;rwa [if_neg hx]at this
     ·have u: ∀d∈l,d.1≠nm:=λd o e=>h (List.any_eq_true.2 ⟨d,o,by simp[e]⟩);have:l.map (λx=>if x.1=nm then(nm,v)else x)=l:=by
       conv=>rhs;rw[<-List.map_id l]
       exact List.map_congr_left λd o=>by rw[if_neg (u d o)];rfl
      rw[this]
   ·rw[if_neg hy];have h:l.any (·.1==nm)=true:=by
     simp only[iY,du]at a;rcases a with a|a
     ·exact absurd (by simpa using a) hy
     ·exact a
    cases hyx:(y.1==x)with
    |true=>
     have:x≠nm:=λe=>hy (by have:=eq_of_beq hyx;rw[this,e]);rw[if_neg this]
    |false=>exact ih h
 ·simp only[jk];by_cases hx:x=nm
  ·subst hx;simp
  ·have:(nm==x)=false:=by simpa using λe=>hx e.symm
   rw[this,if_neg hx]
theorem wP (l:List (Nm×Int)) (nm:Nm) (v:Int):(iU l nm v).length=if l.any (·.1==nm)=true then l.length else l.length+1:=by unfold iU;split<;>simp
theorem Ew (l:List (Nm×Int)) (nm:Nm) (v:Int) (x:Nm):(gL l).upd nm (.int .i64 v) x=gL (iU l nm v) x:=by
 unfold KF.upd gL;rw[Bk];split<;>rfl
theorem Bj (l:List (Nm×Int)) (nm:Nm):(gL l nm).isSome=l.any (·.1==nm):=by
 unfold gL iw;rw[Option.isSome_map,Option.isSome_map,jm,List.find?_isSome,List.any_eq_true]
theorem oS.store {P:Program} {t k e:TypeId} {aa:Value} {a:World} {b n:Nat} {L:KF} (o:pC P t k e aa) (al:oS a b L n) {s:List UInt8} (G:s.length<=maxLen) (v:Value):
  ∃w',(Instr.mapUpdate t (.map (some b)) (.string (Z s)) v).run P a=.ok () w'/\oS w' b (L.upd s v) (if(L s).isSome=true then n else n+1)/\a.grownBy w' (some b):=by
 obtain⟨A,es,c,h,R⟩:=al;obtain⟨w',F,ai,ah⟩:=A.store o G v;refine⟨w',F,⟨ai,?_⟩,ah⟩;have ar:=A;obtain⟨au,av,y,V,ae,aq⟩:=A;rw[h]at y;injection y with y;injection y with an am;subst an am;have K:=Go.Maps.string_keyed o.key;have w:=nA o G;rcases K.find a w es.toList (rt o V)with⟨z,u⟩|⟨j,e0,z,u,q3⟩
 ·have aj:L s=none:=by
   cases hv:L s with
   |none=>rfl
   |some v=>obtain⟨x,I,ad⟩:=ae s v hv;exact absurd ad (u x I)
  have d:(Instr.mapUpdate t (.map (some b)) (.string (Z s)) v).run P a=.ok () (setBlock a b (.map (es.push ⟨.string (Z s),v,c⟩) (c+1))):=by
   simp[Instr.mapUpdate,run_underlying o.map,MapKept.run_getObj_map h,K.check a false w,z,MapKept.run_setObj_map _ h,Result.andThen,setBlock]
  rw[F]at d;injection d with _ d;subst d;rw[aj];exact⟨_,_,heap_setBlock_same h _,by simp[R]⟩
 ·obtain⟨ap,_,X,ag⟩:=V e0 (cI u);rw[q3]at X;have af:=qb X;subst af;have H:es[j]? =some e0:=by simpa using u
  have d:(Instr.mapUpdate t (.map (some b)) (.string (Z s)) v).run P a=.ok () (setBlock a b (.map (es.modify j (λao=>{ao with key:=.string (Z s),val:=v})) c)):=by
   simp[Instr.mapUpdate,run_underlying o.map,MapKept.run_getObj_map h,K.check a false w,z,H,q3,K.stays a w,MapKept.run_setObj_map _ h,Result.andThen,setBlock]
  rw[F]at d;injection d with _ d;subst d;rw[ag];exact⟨_,_,heap_setBlock_same h _,by simp[R]⟩
theorem rC {P:Program} {t k e:TypeId} {u:Value} {h:World} {b n:Nat} {L:KF} {ops:Array Oper} {rest:List Oper} {d:Oper} {a:Act} {Q:Exit->Act->World->Prop} (aa:pC P t k e u) (X:d.guard=none) (m x v:Operand) (R:d.op=Op.mapUpdate t m x v)
  (ad:oS h b L n) (V:a.eval m=.map (some b)) {s:List UInt8} (F:s.length<=maxLen) (z:a.eval x=.string (Z s)) (o:Value) (A:a.eval v=o)
  (H: ∀w',oS w' b (L.upd s o) (if(L s).isSome=true then n else n+1)->h.grownBy w' (some b)->wpList P ops Q rest (a.put d.dst undef) w'):wpList P ops Q (d::rest) a h:=by
 refine wpList_plain X λae I=> ?_;obtain⟨w',G,y,w⟩:=ad.store aa F o;unfold Oper.wp;simp[execOp,R,V,z,A,G,Result.andThen];exact I _ _ (H w' y w)
theorem jt.slot_cp {k:CC} {F:List (Nm×Int)} {O:Nat->Prop} {y w':World} {s:CS} {b:Nat} {u d h o:Value} (a:jt k F u d h o (.map (some b)) y s) (A: ∀j,O j↔some j∈bM k u d h o (.map (some b))) (l:List (Nm×Int)) (G:oS w' b (gL l) l.length) (z:y.grownBy w' (some b)):CP k F O y {s with slots:=l} w':=by
 have K: ∀(j c:Nat),j≠4->(bM k u d h o (.map (some b)))[j]? =some (some c)->w'.heap[c]? =y.heap[c]? :=λj c R w=>by
  refine z.block c (a.lo c (cI w)).2 λe=> ?_;exact(jN a.nd R w (show(bM k u d h o (.map (some b)))[4]? =some (some b)from rfl)).resolve_left Qe e
 refine⟨O,⟨u,d,h,o,.map (some b),⟨(K 0 _ Qd rfl).trans a.blk,eI a.code λc e=>K 5 c Qd (congrArg some e),eI a.tx λc e=>K 6 c Qd (congrArg some e),eI a.calls λc e=>K 7 c Qd (congrArg some e),eI a.dats λc e=>K 8 c Qd (congrArg some e),a.pl.obj (K 1 _ Qd rfl),a.sz.obj (K 2 _ Qd rfl),a.at_.obj (K 3 _ Qd rfl),.inr ⟨b,rfl,G⟩,a.nd,λc w=>⟨(a.lo c w).1,aA (a.lo c w).2 z.size⟩⟩,A⟩,.of_grown z λc e=> ?_,λc e=> .inl e⟩;injection e with e;subst e;exact(A b).2 (by simp[bM,DC])
theorem Bw {P:Program} {t k e ty:TypeId} {a:World} {b n:Nat} {es:Array MapEntry} {c:Nat} (d:P.underlying t=some (.map k e)) (o:a.heap[b]? =some (.map es c)) (h:es.size=n):(Builtin.len_ #[t] ty #[.map (some b)]).run P a=.ok (.int .i64 (n:Int)) a:=by
 simp[Builtin.len_,run_underlying d,MapKept.run_getObj_map o,Result.andThen,goInt,h]
theorem F5 {k:CC} {X:List (Nm×Int)} {O:Nat->Prop} {u:World} {s:CS} (m:CX k X O u s) (nm:Nm) (aj:nm.length<=maxLen) (al:s.frame≠0) (aG:s.slots.length<=1000000):
  Calls prog 71 #[.pointer (some ⟨k.c,0,none⟩),.string (Z nm)] u λe w'=>e=.returned (.tuple #[])/\CP k X O u (s.decl nm) w':=by
 obtain⟨aF,aA,aD,aE,aC,z,ao⟩:=m;rcases z.sl with⟨_,_,aq⟩|⟨b,rfl,hM⟩
 ·exact absurd aq al
 have o:=G z;have d:=G hM;obtain⟨_,es,aJ,V,R⟩:=hM;have ad:=G V;have H:=G R;have ai:IntKind.i64.wrap (4*(s.slots.length:Int))=4*(s.slots.length:Int):=Qc
 have ah:IntKind.i64.wrap (32+4*(s.slots.length:Int))=32+4*(s.slots.length:Int):=Qc
 clear z V R;go_enter func71,ntmps71;refine aB 12 1 [] mixed Qb trivial ?_;repeat (refine sx ?_ (λaz y=> ?_) ?_;rotate_left;(focus have aI:=(o.out.blk.ext y.un).cell;have aH:=λty=>Bw (ty:=ty) xn.map ((y.un.obj d.out.1.lt).trans ad.out) H.out;clear y;go_simp<;>with_reducible rfl);simp only[bE,bD,bC,bB,bA])
 intro ay A _;simp only[ae,aw];have a:=A.un;have aa:=G (o.out.keep a.size λc am=>a.obj (o.out.lo c am).2);have I:=G (d.out.obj (a.obj d.out.1.lt));have au:=G (kj (O:=O) a);clear A o d ad H a ai ah;go_wp2_with (at_mapUpdate;refine rC xn rfl _ _ _ rfl (s:=nm) I.out rfl aj rfl _ rfl ?_;intro ax w F;have av:=G (aa.out.slot_cp ao (iU s.slots nm (32+4*(s.slots.length:Int))) ⟨w.1.congr (Ew _ _ _),by obtain⟨_,es,c,ag,af⟩:=w;refine⟨es,c,ag,?_⟩;rw[af,wP,Bj]⟩ F);clear w F I aa);obtain⟨ar,ap,an⟩:=av.out;exact bodyPost_end (results_none rfl _ _ _) rfl ⟨rfl,ar,ap,au.out.trans an⟩
theorem tW {k:CC} {o:List (Nm×Int)} {O:Nat->Prop} {a:World} {s:CS} (m:CX k o O a s) {nm:Nm} (h:nm.length<=maxLen):a.cell? ⟨k.c,5,none⟩=some (.map (some k.bs))/\(Instr.lookup 88 (.map (some k.bs)) (.string (Z nm)) false).run prog a=.ok (.int .i64 (aQ k.sz nm)) a:=by
 obtain⟨A,u,y,z,w,d,F⟩:=m;refine⟨(d.blk.cell 5).trans rfl,?_⟩;rw[(d.sz.look xn h).1];unfold gL aQ
 cases iw k.sz nm<;>rfl
theorem F4 {k:CC} {A:List (Nm×Int)} {O:Nat->Prop} {o:World} {s:CS} (m:CX k A O o s) (r:Int) (nm:Nm) (H:nm.length<=maxLen) (I:0<=aQ k.sz nm/\aQ k.sz nm<=1000000) (ap:s.big<=930000000):
  Calls prog 133 #[.pointer (some ⟨k.c,0,none⟩),.int .i64 r,.string (Z nm)] o λe w'=>e=.returned (.tuple #[])/\CP k A O o (s.elem (aQ k.sz) r nm) w':=by
 obtain⟨ae,ad⟩:=tW m H;have z:=G m;have V:=G (kO O o);have ag:=G (show s.elem (aQ k.sz) r nm=((s.chk r (aQ k.sz nm-1)).dat 0 nm).op 4 0 0 r from rfl);have X:=G (t_ s r (aQ k.sz nm-1));generalize s.elem (aQ k.sz) r nm=al at*;generalize aQ k.sz nm=u at*;obtain⟨ao,an⟩:=I;have am:IntKind.i64.wrap (u-1)=u-1:=Qc
 clear m;go_enter func133,ntmps133;go_wp2_with (first|(go_at_call 186;refine(IC z.out r (u-1) J J).mono ?_;rintro e aj ⟨rfl,au,a,d⟩;have R:=cW V d;have y:=G a;clear ae ad;clear z V a d)|(go_at_call 185;refine(Fg y.out 0 nm (by have:=X.out;omega)).mono ?_;rintro e ai ⟨rfl,ar,a,d⟩;have F:=cW R d;have w:=G a;clear y R a d)|(go_at_call 70;refine(gB w.out 4 _ _ _ _ rfl (aU (by have:=X.out;simp only[cO];omega))).mono ?_;rintro e ah ⟨rfl,aq,a,d⟩;have af:=cW F d;have aa:=G a;clear w F a d));exact bodyPost_end (results_none rfl _ _ _) rfl ⟨rfl,_,ag.out▸aa.out,af.out⟩
theorem JO (op:Nm) (a:World):Calls prog 220 #[.string (Z op)] a λe w'=>e=.returned (.tuple #[.int .i64 ((tw op).1:Int),.bool (tw op).2.1,.bool (tw op).2.2])/\a=w':=by
 by_cases h0:op=[43];(subst h0;go_enter func220,ntmps220;go_wp2_with fail;go_ret3;exact⟨rfl,rfl⟩)
 by_cases h1:op=[45];(subst h1;go_enter func220,ntmps220;go_wp2_with fail;go_ret3;exact⟨rfl,rfl⟩)
 by_cases h2:op=[42];(subst h2;go_enter func220,ntmps220;go_wp2_with fail;go_ret3;exact⟨rfl,rfl⟩)
 by_cases h3:op=[47];(subst h3;go_enter func220,ntmps220;go_wp2_with fail;go_ret3;exact⟨rfl,rfl⟩)
 by_cases h4:op=[37];(subst h4;go_enter func220,ntmps220;go_wp2_with fail;go_ret3;exact⟨rfl,rfl⟩)
 by_cases h5:op=[61,61];(subst h5;go_enter func220,ntmps220;go_wp2_with fail;go_ret3;exact⟨rfl,rfl⟩)
 by_cases h6:op=[33,61];(subst h6;go_enter func220,ntmps220;go_wp2_with fail;go_ret3;exact⟨rfl,rfl⟩)
 by_cases h7:op=[60];(subst h7;go_enter func220,ntmps220;go_wp2_with fail;go_ret3;exact⟨rfl,rfl⟩)
 by_cases h8:op=[60,61];(subst h8;go_enter func220,ntmps220;go_wp2_with fail;go_ret3;exact⟨rfl,rfl⟩)
 by_cases h9:op=[62];(subst h9;go_enter func220,ntmps220;go_wp2_with fail;go_ret3;exact⟨rfl,rfl⟩)
 have V:([43]==op)=false:=Qn.2 (eS h0);have e0:(op==[43])=false:=Qn.2 h0;have R:([45]==op)=false:=Qn.2 (eS h1);have ai:(op==[45])=false:=Qn.2 h1;have F:([42]==op)=false:=Qn.2 (eS h2);have ah:(op==[42])=false:=Qn.2 h2;have A:([47]==op)=false:=Qn.2 (eS h3);have ag:(op==[47])=false:=Qn.2 h3;have z:([37]==op)=false:=Qn.2 (eS h4);have af:(op==[37])=false:=Qn.2 h4;have y:([61,61]==op)=false:=Qn.2 (eS h5);have ae:(op==[61,61])=false:=Qn.2 h5;have w:([33,61]==op)=false:=Qn.2 (eS h6);have ad:(op==[33,61])=false:=Qn.2 h6;have u:([60]==op)=false:=Qn.2 (eS h7);have H:(op==[60])=false:=Qn.2 h7;have o:([60,61]==op)=false:=Qn.2 (eS h8);have I:(op==[60,61])=false:=Qn.2 h8;have d:([62]==op)=false:=Qn.2 (eS h9);have aa:(op==[62])=false:=Qn.2 h9;have X:=G (show tw op=(12,false,true) by unfold tw J_;simp only[List.find?,V,R,F,A,z,y,w,u,o,d];rfl);clear V R F A z y w u o d;clear h0 h1 h2 h3 h4 h5 h6 h7 h8 h9;go_enter func220,ntmps220;go_wp2_with fail
 go_ret3
 exact⟨by rw[X.out];rfl,rfl⟩
end
end Go.Proofs.YtoedmpgicdekmaaGreatDoor
