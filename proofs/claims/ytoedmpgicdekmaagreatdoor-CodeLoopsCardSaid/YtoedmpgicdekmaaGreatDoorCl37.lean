/- Parts of the proof. -/
import Derived.Test.YtoedmpgicdekmaaGreatDoorCl00
import Derived.Deep.RegionLaw
import Derived.Deep.RegionWith
import Derived.Deep.AppendLies
import Derived.Test.YtoedmpgicdekmaaGreatDoorCl36
import Derived.Test.YtoedmpgicdekmaaGreatDoorCl16
set_option maxRecDepth 100000
set_option maxHeartbeats 8000000
set_option linter.unusedVariables false
set_option linter.unusedSimpArgs false
set_option linter.unusedSectionVars false
namespace Go.Proofs.YtoedmpgicdekmaaGreatDoor
open Go.Proofs.Tryz
section
open Go.RowKit
theorem lY {P:Program} {a:World} {ops:Array Oper} {d:Oper} {h:Act} {A:Act->World->Prop} {Q:Exit->Act->World->Prop} {E:Prop} {t e:TypeId} {w z:Nat} {F:Value} (ab:mY P t e w z F) (V:d.guard=none) (s x:Operand)
  (M:d.op= .call {callee:= .builtin .append,args:= #[s,x],argTypes:= #[t,t]}) (base:Nat) (v:Value) (n:Nat) (xs:List Value) (J:h.eval s=v) (K:a.ownsRow base e w v n xs)
  (g:Nat) (o:List Value) (H:h.eval x= .slice (some ⟨g,0,none⟩) 1 1) (X:a.heap[g]? =some (.cells o.toArray e (0,0))) (R:o.length=w) (ac: ∀u∈o,u.oneCell'=true) (aa:n<=1073741824) (G:z<=1000) (Z:base<=a.heap.size)
  (ad: ∀y cap' w',w'.ownsRow base e w (.slice (some ⟨y,0,none⟩) (n+1) cap') (n+1) (xs++o)->a.grownBy w' v.ownBlock->(some y=v.ownBlock\/y=a.heap.size)->
   A (h.put d.dst (.slice (some ⟨y,0,none⟩) (n+1) cap')) w'):
  if Region.wanted d (yielded ops h.tmps)=true then Oper.wp P d h a A Q else E:=by
 have I:Region.wanted d (yielded ops h.tmps)=true:=by simp[Region.wanted,V]
 rw[if_pos I];exact xf ab s x M base v n xs J K g o H X R ac aa G Z ad
theorem ny (x:Nat×Nm): ∀u∈nz x,u.oneCell'=true:=by simp[nz,Value.oneCell']
theorem qd (l:List (Nat×Nm)) (x:Nat×Nm):fO (l++[x])=fO l++nz x:=by simp[fO]
def CS.addD (s:CS) (x:Nat×Nm):CS:={s with dats:=s.dats++[x]}
theorem i'.datm {k:CC} {R:List (Nm×Int)} {O:Nat->Prop} {A J d:World} {s:CS} {I F H h G:Value} (u:i' k R I F H h G A s) (Z: ∀b,O b↔some b∈bJ k I F H h G) (y:au A J) (x:Nat×Nm) {a w n:Nat} (X:s.dats.length=n)
  (V:d.ownsRow k.base 155 2 (.slice (some ⟨a,0,none⟩) (n+1) w) (n+1) (fO s.dats++nz x)) (K:J.grownBy d h.ownBlock) (o:some a=h.ownBlock\/a=J.heap.size):
  aM d k.c 95 #[k.va,k.fa,I,F, .map (some k.bp), .map (some k.bs), .map (some k.ba),H,h,G, .int .i64 s.frame]/\CP k R O A (s.addD x) (d.setCell ⟨k.c,8,none⟩ (.slice (some ⟨a,0,none⟩) (n+1) w)):=by
 subst X;have M:=u.keep y.size λb z=>y.obj (u.lo b z).2;have z:=M.blk.grown K (fw u).2.2.2.2;have ag:=y.size;refine⟨z,?_⟩;obtain⟨af,ae,ad,aa⟩:=M.dats_cp Z (c':=s.dats++[x]) (v':= .slice (some ⟨a,0,none⟩) (s.dats.length+1) w) (W:=d.setCell ⟨k.c,8,none⟩ (.slice (some ⟨a,0,none⟩) (s.dats.length+1) w)) (by simpa using z.set 8 (.slice (some ⟨a,0,none⟩) (s.dats.length+1) w))
  (by rw[ac,qd];exact V.kept (iK d k.c 8 _) (.inr λe=>by
   rcases o with o|o
   ·exact(fw u).2.2.2.2 (by rw[<-o];exact e.symm)
   ·have ah:=(u.lo k.c (by simp[bJ])).2;have e:a=k.c:=ab e
    omega)) (o.imp id λe=>by rw[e];rfl) ((jU K λb e=> .inr e).set (λ_=> .inl rfl) _)
 exact⟨af,ae,eb.pre y ⟨ad,aa⟩⟩
def CS.addC (s:CS) (x:Nat×Nm):CS:={s with calls:=s.calls++[x]}
theorem i'.callm {k:CC} {R:List (Nm×Int)} {O:Nat->Prop} {A J d:World} {s:CS} {I F h H G:Value} (u:i' k R I F h H G A s) (Z: ∀b,O b↔some b∈bJ k I F h H G) (y:au A J) (x:Nat×Nm) {a w n:Nat} (X:s.calls.length=n)
  (V:d.ownsRow k.base 155 2 (.slice (some ⟨a,0,none⟩) (n+1) w) (n+1) (fO s.calls++nz x)) (K:J.grownBy d h.ownBlock) (o:some a=h.ownBlock\/a=J.heap.size):
  aM d k.c 95 #[k.va,k.fa,I,F, .map (some k.bp), .map (some k.bs), .map (some k.ba),h,H,G, .int .i64 s.frame]/\CP k R O A (s.addC x) (d.setCell ⟨k.c,7,none⟩ (.slice (some ⟨a,0,none⟩) (n+1) w)):=by
 subst X;have M:=u.keep y.size λb z=>y.obj (u.lo b z).2;have z:=M.blk.grown K (fw u).2.2.2.1;have ag:=y.size;refine⟨z,?_⟩;obtain⟨af,ae,ad,aa⟩:=M.calls_cp Z (c':=s.calls++[x]) (v':= .slice (some ⟨a,0,none⟩) (s.calls.length+1) w) (W:=d.setCell ⟨k.c,7,none⟩ (.slice (some ⟨a,0,none⟩) (s.calls.length+1) w)) (by simpa using z.set 7 (.slice (some ⟨a,0,none⟩) (s.calls.length+1) w))
  (by rw[ac,qd];exact V.kept (iK d k.c 7 _) (.inr λe=>by
   rcases o with o|o
   ·exact(fw u).2.2.2.1 (by rw[<-o];exact e.symm)
   ·have ah:=(u.lo k.c (by simp[bJ])).2;have e:a=k.c:=ab e
    omega)) (o.imp id λe=>by rw[e];rfl) ((jU K λb e=> .inr e).set (λ_=> .inl rfl) _)
 exact⟨af,ae,eb.pre y ⟨ad,aa⟩⟩
theorem EJ {k:CC} {V:List (Nm×Int)} {O:Nat->Prop} {a:World} {s:CS} (m:CX k V O a s) (r:Int) (nm:Nm) (z:s.big<=945000000):
  Calls prog 185 #[.pointer (some ⟨k.c,0,none⟩), .int .i64 r, .string (ak nm)] a λe w'=>e= .returned (.tuple #[])/\CP k V O a (s.dat r nm) w':=by
 have M:au a a.drew:=eJ (aG a);obtain⟨ap,aj,am,an,al,A,ac⟩:=m.ext M;have av:=aZ z;have ar:=sU z;have X:=G (uR A 1 1 r 0 rfl Qa);have Z:=G (jV (O:=O) M);have o:=A.blk.cell;clear m A z;go_enter func185,ntmps185
 go_region_law (first
  |(refine lY IJ rfl _ _ rfl k.base _ s.dats.length (fO s.dats) rfl (u.out.dats.alloc _) w.heap.size (nz (s.code.length,nm)) rfl (aq w _ _) rfl (ny _) Qa Qd (by rw[World.size_alloc];have:=(fw u.out).1;omega) ?_;intro ay ax ai I J R;obtain⟨y,H⟩:=u.out.datm (n:=s.dats.length) (λb=>gW) (aa w _) (s.code.length,nm) rfl I J R;clear o ae;have o:=y.cell;have aw:=y.frozen;have ah:=G H;clear I J R y H u)
  |(go_simp;go_at_call 69;refine X.out.mono ?_;rintro e w ⟨rfl,F⟩;obtain⟨ao,d,K⟩:=F.own ac;have ag:=G (qO Z.out K);have u:=G d;clear o;have o:=d.blk.cell;have ae:=(d.blk.alloc (.cells #[.int .i64 (s.code.length:Int), .string (ak nm)] 155)).cell;clear d X K F Z))
 all_goals (go_wp2_with fail;obtain⟨af,ad,ab⟩:=ah.out;exact bodyPost_end (results_none rfl _ _ _) rfl ⟨rfl,af,ad,ag.out.trans ab⟩)
theorem ug {P:Program} {w:World} (base:Nat) (t a ty e:TypeId) (i:TypeInfo) (u:P.underlying t=some (.slice e)) (o:P.underlying a=some .string) (y:P.info? e=some i) (A:i.zero=some (.int .u8 0))
  (F:i.size=1) (H:i.bytes=1) (v:Value) (n:Nat) (xs:List Value) (G:w.ownsRow base e 1 v n xs) (s:ByteArray) (ad:n+s.size<=1000000000) (R:base<=w.heap.size):
  ∃v' w',(Builtin.append_ #[t,a] ty #[v, .string s]).run P w= .ok v' w'/\w'.ownsRow base e 1 v' (n+s.size) (xs++Lib.strCells s)/\w.grownBy w' v.ownBlock/\(v'.ownBlock=v.ownBlock\/v'.ownBlock=some w.heap.size):=by
 obtain⟨v',w',z,Z,X,V⟩:=Lib.run_append_own_string (P:=P) w base t a ty e i u o y A F H v n xs G s Qh Qa R;refine⟨v',w',z,Z,X,?_⟩;rcases G.2 with⟨rfl,rfl⟩|⟨g,cap,cur,rfl,hbg,hg,hnc,hcm,hcs,htake⟩
 ·obtain⟨ab,aa,J,ac,_,_⟩:=Lib.run_append_own_string (P:=P) w w.heap.size t a ty e i u o y A F H (.slice none 0 0) 0 [] (World.ownsRow_nil w _ e 1) s Qh Qa (ah _);rw[z]at J;injection J with h I;subst h I;by_cases hs0:s.size=0
  ·exact .inl (by rw[V.2 ⟨rfl,hs0⟩])
  ·right;have d:=run_append_nil_string (P:=P) w t a ty e i (.int .u8 0) u o y A s Qa Qa (by rw[H];omega);rw[z]at d;injection d with h I;rw[h];rfl
 ·by_cases hroom:n+s.size<=cap
  ·have d:=Lib.run_append_room_string (P:=P) w t a ty e i u o y F g n cap cur hg s hroom Qa;rw[z]at d;injection d with h I;exact .inl (by rw[h];rfl)
  ·right;have K:xs.length=n:=by simpa using G.1
   have M: ∀j a,xs[j]? =some a->w.cell? ((⟨g,0,none⟩:Addr).add j)=some a:=G.cells (g:=g) rfl;have d:=Lib.run_append_grow_string (P:=P) w t a ty e i (.int .u8 0) u o y A ⟨g,0,none⟩ n cap xs (by rw[F];simpa using K) M s Qa Qa (by rw[H];exact growslice_fits Qa Qa);rw[z]at d;injection d with h I;rw[h];rfl
theorem pR {P:Program} {a:World} {ops:Array Oper} {rest:List Oper} {d:Oper} {h:Act} {Q:Exit->Act->World->Prop} (M:d.guard=none) (u x:Operand) (t o:TypeId)
  (J:d.op= .call {callee:= .builtin .append,args:= #[u,x],argTypes:= #[t,o]}) (base:Nat) (e:TypeId) (i:TypeInfo) (A:P.underlying t=some (.slice e)) (z:P.underlying o=some .string) (K:P.info? e=some i) (w:i.zero=some (.int .u8 0))
  (F:i.size=1) (R:i.bytes=1) (v:Value) (n:Nat) (xs:List Value) (G:h.eval u=v) (I:a.ownsRow base e 1 v n xs) (s:ByteArray) (y:h.eval x= .string s) (Z:n+s.size<=1000000000) (V:base<=a.heap.size)
  (ad: ∀v' w',w'.ownsRow base e 1 v' (n+s.size) (xs++Lib.strCells s)->a.grownBy w' v.ownBlock->(v'.ownBlock=v.ownBlock\/v'.ownBlock=some a.heap.size)->wpList P ops Q rest (h.put d.dst v') w'):wpList P ops Q (d::rest) h a:=by
 refine wpList_plain M λae X=> ?_;obtain⟨v',w',H,ac,ab,aa⟩:=ug (P:=P) (w:=a) base t o d.type e i A z K w F R v n xs I s Z V;unfold Oper.wp execOp;simp only[J,resolve,invoke,builtin,Sem.run_bind,Sem.run_pure,Result.andThen_ok,dt,b7,du,G,y,H];exact X _ _ (ad v' w' ac ab aa)
theorem ka {h:World} {base n d:Nat} {e:TypeId} {v:Value} {xs:List Value} (u:h.ownsRow base e d v n xs): ∃w c,v= .slice w n c:=by
 rcases u.2 with⟨a,o⟩|⟨g,cap,cur,a,_⟩
 ·exact⟨none,0,by rw[a,o]⟩
 ·exact⟨_,_,a⟩
theorem i'.txt {k:CC} {I:List (Nm×Int)} {O:Nat->Prop} {u d:World} {s:CS} {A h y z w v':Value} (o:i' k I A h y z w u s) (J: ∀b,O b↔some b∈bJ k A h y z w) (x:List UInt8)
  (F:d.ownsRow k.base 5 1 v' (s.tx.length+(ak x).size) (im s.tx++Lib.strCells (ak x))) (G:u.grownBy d h.ownBlock) (a:v'.ownBlock=h.ownBlock\/v'.ownBlock=some u.heap.size):
  aM d k.c 95 #[k.va,k.fa,A,h, .map (some k.bp), .map (some k.bs), .map (some k.ba),y,z,w, .int .i64 s.frame]/\CP k I O u {s with tx:=s.tx++x} (d.setCell ⟨k.c,3,none⟩ v'):=by
 have H:=o.blk.grown G (fw o).2.2.1;refine⟨H,o.tx_cp J (by simpa using H.set 3 v') ?_ a ((jU G λb e=> .inr e).set (λ_=> .inl rfl) _)⟩;have:im s.tx++Lib.strCells (ak x)=im (s.tx++x):=by simp[im,Lib.strCells,ak,qQ]
 rw[this,a7,<-ac]at F;refine F.kept (iK d k.c 3 _) ?_;rcases a with a|a
 ·exact .inr λe=>(fw o).2.2.1 (by rw[<-a];exact e.symm)
 ·exact .inr λe=>by
   have K:=(o.lo k.c (by simp[bJ])).2;rw[a]at e;injection e with e;omega
theorem Jv {k:CC} {ag:List (Nm×Int)} {O:Nat->Prop} {o:World} {s:CS} (m:CX k ag O o s) (r:Int) (t:List UInt8) (V:(s.text r t).big<=945000000):
  Calls prog 219 #[.pointer (some ⟨k.c,0,none⟩), .int .i64 r, .string (ak t)] o λe w'=>e= .returned (.tuple #[])/\CP k ag O o (s.text r t) w':=by
 obtain⟨am,av,ap,ao,an⟩:=info_parts (show(prog.info? 5).map (λi=>(i.zero,i.size,i.bytes))=some (some (.int .u8 0),1,1)from by kernel_rfl);have ae:au o o.drew:=eJ (aG o);obtain⟨aT,aK,aO,aQ,aM,H,az⟩:=m.ext ae;obtain⟨a4,aY,rfl⟩:=H.tx.form;rw[cE]at V;have aX:=aZ (show s.big<=945000000 by omega);have aW:=sU (show s.big<=945000000 by omega);have aV:=Fh (show s.big<=945000000 by omega);have ab:s.tx.length+t.length<=945000000:=by unfold CS.big at V;omega
 have ah:=G (uR H 1 1 r s.tx.length rfl Qa);have aj:=G (jV (O:=O) ae);have a:=H.blk.cell;clear m H V;go_enter func219,ntmps219;go_wp2_with fail
 go_region_law (first
  |(refine lY IJ rfl _ _ rfl k.base _ s.dats.length (fO s.dats) rfl (J.out.dats.alloc _) M.heap.size (nz (s.code.length,[])) rfl (aq M _ _) rfl (ny _) Qa Qd (by rw[World.size_alloc];have:=(fw J.out).1;omega) ?_;intro a6 a1 al u z A;obtain⟨d,y⟩:=J.out.datm (n:=s.dats.length) (λb=>gW) (aa M _) (s.code.length,[]) rfl u z A;clear a aC;have a:=d.cell;have af:=d.frozen;have I:=G y;clear u z A d y J)
  |(go_simp;go_at_call 69;refine ah.out.mono ?_;rintro e M ⟨rfl,Z⟩;obtain⟨aS,F,ad⟩:=Z.own az;have ai:=G (qO aj.out ad);have J:=G F;clear a;have a:=F.blk.cell;have aC:=(F.blk.alloc (.cells #[.int .i64 (s.code.length:Int), .string ⟨#[]⟩] 155)).cell;clear F ah ad Z aj))
 all_goals
  clear a af;obtain⟨a3,w,ac⟩:=I.out;have aD:=G (ai.out.trans ac);have X:((s.vl 1 r s.tx.length).addD (s.code.length,[])).tx=s.tx:=rfl;generalize ar:(s.vl 1 r s.tx.length).addD (s.code.length,[])=R at*;obtain⟨aR,aJ,aN,aP,aL,w,ay⟩:=w;obtain⟨aF,aB,rfl⟩:=w.tx.form;have K:=G w;have a:=w.blk.cell;clear w I ac ai;rw[<-X]at ab;clear X;generalize World.setCell al _ _=aI at*;go_wp2_with (at_builtin;refine pR rfl _ _ _ _ rfl k.base 5 am underlying36 underlying9 av ap ao an (.slice aF R.tx.length aB) R.tx.length (im R.tx) rfl K.out.tx (ak t) rfl (by rw[a7];exact ax ab Qd) (fw K.out).1 ?_;intro aU aH u z A;obtain⟨a5,a2,rfl⟩:=ka u;obtain⟨d,y⟩:=K.out.txt ay t u z A;clear a;have a:=d.cell;have af:=d.frozen;have I:=G y;clear u z A d y K);obtain⟨aE,aA,aw⟩:=I.out;subst ar;exact bodyPost_end (results_none rfl _ _ _) rfl ⟨rfl,aE,aA,aD.out.trans aw⟩
end
section
open Go.RowKit
open Go.ChangeMaps Go.MapKept Go.WideMaps
theorem mR: ∀(l:List dl) (i:Nat) (v:Int),i<l.length->gy (l.modify i (gL · v))=(gy l).set (i*5+4) (.int .i64 v)
 | [],i,v,h=>by simp at h
 |x::l,0,v,h=>by simp[gy,mS,gL]
 |x::l,i+1,v,h=>by
  have:=mR l i v (by simpa using h);simp only[gy,List.modify_succ_cons,bG]at this⊢;rw[this,show(i+1)*5+4=(i*5+4)+5 by omega];simp[mS,List.set_append]
theorem fL: ∀(l:List dl) (i:Nat) (a:i<l.length) (j:Nat),j<5->(gy l)[i*5+j]? =(mS l[i])[j]?
 | [],i,a,j,hj=>by simp at a
 |x::l,0,a,j,hj=>by
  simp only[gy,bG,aY,aE,aF];rw[be (by simp[mS];omega)]
 |x::l,i+1,a,j,hj=>by
  have:=fL l i (by simpa using a) j hj;simp only[gy,bG,aP]at this⊢;rw[bD (by simp[mS];omega),<-this]
  congr 1
  simp[mS];omega
theorem i'.setv {k:CC} {z:List (Nm×Int)} {O:Nat->Prop} {d:World} {s:CS} {g h n:Nat} {o w y u:Value} (a:i' k z (.slice (some ⟨g,0,none⟩) n h) o w y u d s) (H: ∀b,O b↔some b∈bJ k (.slice (some ⟨g,0,none⟩) n h) o w y u) (F:s.code.length=n) (i:Nat) (G:i<n) (v:Int):
  CP k z O d {s with code:=s.code.modify i (gL · v)} (d.setCell ⟨g,i*5+4,none⟩ (.int .i64 v)):=by
 subst F;have A:=(fw a).2.1;refine a.code_cp H (c':=s.code.modify i (gL · v)) (v':= .slice (some ⟨g,0,none⟩) s.code.length h) (a.blk.far (p:=⟨g,i*5+4,none⟩) (λe=>A (by rw[e];rfl)) _) ?_ (.inl rfl) ((gn _ _).set (p:=⟨g,i*5+4,none⟩) (λ_=> .inr rfl) _);have:=a.code.stored (i*5+4) (.int .i64 v);rw[dS,mR _ _ _ G];simpa using this.1
theorem rR {k:CC} {A:List (Nm×Int)} {O:Nat->Prop} {a:World} {s:CS} (m:CX k A O a s) (i:Nat) (u:i<s.code.length) (w:s.big<=950000000):
  Calls prog 178 #[.pointer (some ⟨k.c,0,none⟩), .int .i64 (i:Int)] a λe w'=>e= .returned (.tuple #[])/\CP k A O a (s.land i) w':=by
 have z:au a a.drew:=eJ (aG a);obtain⟨Z,M,V,X,R,d,y⟩:=m.ext z;have ac:=aZ w;have o:=d.code;have ae:=d.blk.cell;have J:=G (jV (O:=O) z);rcases d.code.2 with⟨rfl,af⟩|⟨g,cap,cur,rfl,_⟩
 ·omega
 have K:=G (d.setv y rfl i u ((s.code.length:Int)-i-1));have c1:a.drew.cell? ⟨g,i*5+4,none⟩=some (.int .i64 s.code[i].v):=by rw[o.cellAt _ Qa,fL _ _ u 4 Qa];rfl
 have ag:=o.frozenAt (i*5+4);have ad:(i:Int)<(s.code.length:Int):=Qa
 have ab:IntKind.i64.wrap ((s.code.length:Int)-i)=(s.code.length:Int)-i:=Qc
 have aa:IntKind.i64.wrap ((s.code.length:Int)-i-1)=(s.code.length:Int)-i-1:=Qc
 clear m d o y w;go_enter func178,ntmps178;go_region;obtain⟨I,H,F⟩:=K.out;exact bodyPost_end (results_none rfl _ _ _) rfl ⟨rfl,I,H,J.out.trans F⟩
theorem qz {k:CC} {h:List (Nm×Int)} {O:Nat->Prop} {a:World} {s:CS} (m:CX k h O a s):a.cell? ⟨k.c,9+1,none⟩=some (.int .i64 s.frame):=by
 obtain⟨z,o,w,y,u,d,A⟩:=m;exact(d.blk.cell 10).trans rfl
theorem Fp {k:CC} {z:List (Nm×Int)} {O:Nat->Prop} {o:World} {s:CS} (m:CX k z O o s) (V:s.big<=940000000):
  Calls prog 73 #[.pointer (some ⟨k.c,0,none⟩)] o λe w'=>e= .returned (.tuple #[])/\CP k z O o s.back w':=by
 have y:=G m;have H:=G (kt O o);clear m;go_enter func73,ntmps73
 go_upto_region 1 with(go_at_call 70;refine(f9 y.out 14 _ _ _ _ rfl (aZ (by(try simp only[bI,bE,bM,bL,cO,cE,cA,cf,dK,dF,dW,dz,eM]);omega))).mono ?_;rintro e R ⟨rfl,aa,a,d⟩;have F:=cU H d;have u:=G a;clear y H a d)
 have f:=qz u.out;go_wp2_with (first|(go_at_call 70;refine(f9 u.out 3 _ _ _ _ rfl (aZ (by(try simp only[bI,bE,bM,bL,cO,cE,cA,cf,dK,dF,dW,dz,eM]);omega))).mono ?_;rintro e M ⟨rfl,Z,a,d⟩;have A:=cU F d;have w:=G a;clear f;clear u F a d)|(go_at_call 70;refine(f9 w.out 21 _ _ _ _ rfl (aZ (by(try simp only[bI,bE,bM,bL,cO,cE,cA,cf,dK,dF,dW,dz,eM]);omega))).mono ?_;rintro e K ⟨rfl,X,a,d⟩;have J:=cU A d;have I:=G a;clear w A a d));exact bodyPost_end (results_none rfl _ _ _) rfl ⟨rfl,_,I.out,J.out⟩
theorem xI {k:CC} {w:List (Nm×Int)} {O:Nat->Prop} {a:World} {s:CS} (m:CX k w O a s) {nm:Nm} (h:nm.length<=maxLen): ∃d,a.cell? ⟨k.c,8+1,none⟩=some d/\(Instr.lookup 88 d (.string (ak nm)) true).run prog a= .ok (.tuple #[.int .i64 ((gA s.slots nm).getD 0), .bool (gA s.slots nm).isSome]) a:=by
 obtain⟨F,y,z,A,d,o,G⟩:=m;refine⟨d,(o.blk.cell 9).trans rfl,?_⟩;rcases o.sl with⟨rfl,u,_⟩|⟨b,rfl,h1,_⟩
 ·rw[(uz wu a h).2,u];rfl
 ·rw[(h1.look wu h).2];unfold gx
  cases gA s.slots nm<;>rfl
theorem Ii {k:CC} {F:List (Nm×Int)} {O:Nat->Prop} {w:World} {s:CS} (m:CX k F O w s) (r:Int) (nm:Nm) (M:nm.length<=maxLen) (ab:s.big<=940000000):
  Calls prog 180 #[.pointer (some ⟨k.c,0,none⟩), .int .i64 r, .string (ak nm)] w λe w'=>e= .returned (.tuple #[])/\CP k F O w (s.ld 14 r nm) w':=by
 obtain⟨Z,ac,A⟩:=xI m M;have z:=G m;have I:=G (kt O w);have u:=G (show s.ld 14 r nm=match gA s.slots nm with|some F=>s.op 14 r 15 F|none=>(s.dat 0 nm).op 14 r 0 0 from rfl);generalize s.ld 14 r nm=aa at*;clear m
 cases hl:gA s.slots nm with
 |some a=>
  rw[hl]at A u;simp only[bX,dC]at A u;clear hl;go_enter func180,ntmps180;go_wp2_with (go_at_call 70;refine(f9 z.out 14 _ _ _ _ rfl (aZ (by(try simp only[bI,bE,bM,bL,cO,cE,cA,cf,dK,dF,dW,dz,eM]);omega))).mono ?_;rintro e J ⟨rfl,V,d,o⟩;have H:=cU I o;have y:=G d;clear z I d o);exact bodyPost_ret (results_none rfl _ _ _) rfl ⟨rfl,_,u.out▸y.out,H.out⟩
 |none=>
  rw[hl]at A u;simp only[fi,dQ]at A u;clear hl;go_enter func180,ntmps180;go_wp2_with (first|(go_at_call 185;refine(EJ z.out 0 nm (by(try simp only[bI,bE,bM,bL,cO,cE,cA,cf,dK,dF,dW,dz,eM]);omega)).mono ?_;rintro e J ⟨rfl,V,d,o⟩;have H:=cU I o;have y:=G d;clear z I d o)|(go_at_call 70;refine(f9 y.out 14 _ _ _ _ rfl (aZ (by(try simp only[bI,bE,bM,bL,cO,cE,cA,cf,dK,dF,dW,dz,eM]);omega))).mono ?_;rintro e X ⟨rfl,ad,d,o⟩;have R:=cU H o;have K:=G d;clear y H d o));exact bodyPost_end (results_none rfl _ _ _) rfl ⟨rfl,_,u.out▸K.out,R.out⟩
theorem BO {k:CC} {F:List (Nm×Int)} {O:Nat->Prop} {w:World} {s:CS} (m:CX k F O w s) (r:Int) (nm:Nm) (M:nm.length<=maxLen) (ab:s.big<=940000000):
  Calls prog 131 #[.pointer (some ⟨k.c,0,none⟩), .int .i64 r, .string (ak nm)] w λe w'=>e= .returned (.tuple #[])/\CP k F O w (s.ld 15 r nm) w':=by
 obtain⟨Z,ac,A⟩:=xI m M;have z:=G m;have I:=G (kt O w);have u:=G (show s.ld 15 r nm=match gA s.slots nm with|some F=>s.op 15 r 15 F|none=>(s.dat 0 nm).op 15 r 0 0 from rfl);generalize s.ld 15 r nm=aa at*;clear m
 cases hl:gA s.slots nm with
 |some a=>
  rw[hl]at A u;simp only[bX,dC]at A u;clear hl;go_enter func131,ntmps131;go_wp2_with (go_at_call 70;refine(f9 z.out 15 _ _ _ _ rfl (aZ (by(try simp only[bI,bE,bM,bL,cO,cE,cA,cf,dK,dF,dW,dz,eM]);omega))).mono ?_;rintro e J ⟨rfl,V,d,o⟩;have H:=cU I o;have y:=G d;clear z I d o);exact bodyPost_ret (results_none rfl _ _ _) rfl ⟨rfl,_,u.out▸y.out,H.out⟩
 |none=>
  rw[hl]at A u;simp only[fi,dQ]at A u;clear hl;go_enter func131,ntmps131;go_wp2_with (first|(go_at_call 185;refine(EJ z.out 0 nm (by(try simp only[bI,bE,bM,bL,cO,cE,cA,cf,dK,dF,dW,dz,eM]);omega)).mono ?_;rintro e J ⟨rfl,V,d,o⟩;have H:=cU I o;have y:=G d;clear z I d o)|(go_at_call 70;refine(f9 y.out 15 _ _ _ _ rfl (aZ (by(try simp only[bI,bE,bM,bL,cO,cE,cA,cf,dK,dF,dW,dz,eM]);omega))).mono ?_;rintro e X ⟨rfl,ad,d,o⟩;have R:=cU H o;have K:=G d;clear y H d o));exact bodyPost_end (results_none rfl _ _ _) rfl ⟨rfl,_,u.out▸K.out,R.out⟩
theorem Au (l:List (Nm×Int)) (nm:Nm) (v:Int) (x:Nm):gA (iq l nm v) x=if x=nm then some v else gA l x:=by
 unfold iq gA;split
 ·rename_i a
  induction l with
  |nil=>simp at a
  |cons y l ih=>
   simp only[b7,iT];by_cases hy:y.1=nm
   ·simp only[hy,if_true,beq_self_eq_true];by_cases hx:x=nm
    ·subst hx;simp
    ·have:(nm==x)=false:=by simpa using λe=>hx e.symm
     rw[this,if_neg hx];simp only;by_cases h:l.any (·.1==nm)=true
     ·have:=ih h;rwa [if_neg hx]at this
     ·have u: ∀d∈l,d.1≠nm:=λd o e=>h (List.any_eq_true.2 ⟨d,o,by simp[e]⟩);have:l.map (λx=>if x.1=nm then(nm,v)else x)=l:=by
       conv=>rhs;rw[<-List.map_id l]
       exact List.map_congr_left λd o=>by rw[if_neg (u d o)];rfl
      rw[this]
   ·rw[if_neg hy];have h:l.any (·.1==nm)=true:=by
     simp only[iu,dn]at a;rcases a with a|a
     ·exact absurd (by simpa using a) hy
     ·exact a
    cases hyx:(y.1==x)with
    |true=>
     have:x≠nm:=λe=>hy (by have:=eq_of_beq hyx;rw[this,e]);rw[if_neg this]
    |false=>exact ih h
 ·simp only[iT];by_cases hx:x=nm
  ·subst hx;simp
  ·have:(nm==x)=false:=by simpa using λe=>hx e.symm
   rw[this,if_neg hx]
theorem vW (l:List (Nm×Int)) (nm:Nm) (v:Int):(iq l nm v).length=if l.any (·.1==nm)=true then l.length else l.length+1:=by unfold iq;split<;>simp
theorem DF (l:List (Nm×Int)) (nm:Nm) (v:Int) (x:Nm):(gx l).upd nm (.int .i64 v) x=gx (iq l nm v) x:=by
 unfold KF.upd gx;rw[Au];split<;>rfl
theorem As (l:List (Nm×Int)) (nm:Nm):(gx l nm).isSome=l.any (·.1==nm):=by
 unfold gx gA;rw[Option.isSome_map,Option.isSome_map,iV,List.find?_isSome,List.any_eq_true]
theorem nZ.store {P:Program} {t k e:TypeId} {M:Value} {a:World} {b n:Nat} {L:KF} (o:oS P t k e M) (af:nZ a b L n) {s:List UInt8} (H:s.length<=maxLen) (v:Value):
  ∃w',(Instr.mapUpdate t (.map (some b)) (.string (ak s)) v).run P a= .ok () w'/\nZ w' b (L.upd s v) (if(L s).isSome=true then n else n+1)/\a.grownBy w' (some b):=by
 obtain⟨F,es,c,h,I⟩:=af;obtain⟨w',G,ad,ac⟩:=F.store o H v;refine⟨w',G,⟨ad,?_⟩,ac⟩;have am:=F;obtain⟨an,ao,y,J,Z,al⟩:=F;rw[h]at y;injection y with y;injection y with ah ag;subst ah ag;have z:=Go.Maps.string_keyed o.key;have w:=mQ o H;rcases z.find a w es.toList (qN o J)with⟨A,u⟩|⟨j,e0,A,u,q3⟩
 ·have ae:L s=none:=by
   cases hv:L s with
   |none=>rfl
   |some v=>obtain⟨x,R,X⟩:=Z s v hv;exact absurd X (u x R)
  have d:(Instr.mapUpdate t (.map (some b)) (.string (ak s)) v).run P a= .ok () (setBlock a b (.map (es.push ⟨.string (ak s),v,c⟩) (c+1))):=by
   simp[Instr.mapUpdate,run_underlying o.map,MapKept.run_getObj_map h,z.check a false w,A,MapKept.run_setObj_map _ h,Result.andThen,setBlock]
  rw[G]at d;injection d with _ d;subst d;rw[ae];exact⟨_,_,heap_setBlock_same h _,by simp[I]⟩
 ·obtain⟨aj,_,K,ab⟩:=J e0 (cD u);rw[q3]at K;have aa:=pJ K;subst aa;have V:es[j]? =some e0:=by simpa using u
  have d:(Instr.mapUpdate t (.map (some b)) (.string (ak s)) v).run P a= .ok () (setBlock a b (.map (es.modify j (λai=>{ai with key:= .string (ak s),val:=v})) c)):=by
   simp[Instr.mapUpdate,run_underlying o.map,MapKept.run_getObj_map h,z.check a false w,A,V,q3,z.stays a w,MapKept.run_setObj_map _ h,Result.andThen,setBlock]
  rw[G]at d;injection d with _ d;subst d;rw[ab];exact⟨_,_,heap_setBlock_same h _,by simp[I]⟩
theorem qT {P:Program} {t k e:TypeId} {u:Value} {h:World} {b n:Nat} {L:KF} {ops:Array Oper} {rest:List Oper} {d:Oper} {a:Act} {Q:Exit->Act->World->Prop} (K:oS P t k e u) (J:d.guard=none) (m x v:Operand) (H:d.op=Op.mapUpdate t m x v)
  (V:nZ h b L n) (I:a.eval m= .map (some b)) {s:List UInt8} (F:s.length<=maxLen) (z:a.eval x= .string (ak s)) (o:Value) (A:a.eval v=o)
  (R: ∀w',nZ w' b (L.upd s o) (if(L s).isSome=true then n else n+1)->h.grownBy w' (some b)->wpList P ops Q rest (a.put d.dst undef) w'):wpList P ops Q (d::rest) a h:=by
 refine wpList_plain J λX M=> ?_;obtain⟨w',G,y,w⟩:=V.store K F o;unfold Oper.wp;simp[execOp,H,I,z,A,G,Result.andThen];exact M _ _ (R w' y w)
theorem i'.slot_cp {k:CC} {G:List (Nm×Int)} {O:Nat->Prop} {z w':World} {s:CS} {b:Nat} {w h o u:Value} (a:i' k G w h o u (.map (some b)) z s) (F: ∀j,O j↔some j∈bJ k w h o u (.map (some b))) (l:List (Nm×Int)) (H:nZ w' b (gx l) l.length) (A:z.grownBy w' (some b)):CP k G O z {s with slots:=l} w':=by
 have d: ∀(j c:Nat),j≠4->(bJ k w h o u (.map (some b)))[j]? =some (some c)->w'.heap[c]? =z.heap[c]? :=λj c I y=>by
  refine A.block c (a.lo c (cD y)).2 λe=> ?_;exact(ju a.nd I y (show(bJ k w h o u (.map (some b)))[4]? =some (some b)from rfl)).resolve_left Qe e
 refine⟨O,⟨w,h,o,u, .map (some b),⟨(d 0 _ Qd rfl).trans a.blk,et a.code λc e=>d 5 c Qd (congrArg some e),et a.tx λc e=>d 6 c Qd (congrArg some e),et a.calls λc e=>d 7 c Qd (congrArg some e),et a.dats λc e=>d 8 c Qd (congrArg some e),a.pl.obj (d 1 _ Qd rfl),a.sz.obj (d 2 _ Qd rfl),a.at_.obj (d 3 _ Qd rfl), .inr ⟨b,rfl,H⟩,a.nd,λc y=>⟨(a.lo c y).1,aA (a.lo c y).2 A.size⟩⟩,F⟩, .of_grown A λc e=> ?_,λc e=> .inl e⟩;injection e with e;subst e;exact(F b).2 (by simp[bJ,CH])
theorem AF {P:Program} {t k e ty:TypeId} {a:World} {b n:Nat} {es:Array MapEntry} {c:Nat} (d:P.underlying t=some (.map k e)) (o:a.heap[b]? =some (.map es c)) (h:es.size=n):(Builtin.len_ #[t] ty #[.map (some b)]).run P a= .ok (.int .i64 (n:Int)) a:=by
 simp[Builtin.len_,run_underlying d,MapKept.run_getObj_map o,Result.andThen,goInt,h]
theorem Fo {k:CC} {J:List (Nm×Int)} {O:Nat->Prop} {u:World} {s:CS} (m:CX k J O u s) (nm:Nm) (ac:nm.length<=maxLen) (ad:s.frame≠0) (az:s.slots.length<=1000000):
  Calls prog 71 #[.pointer (some ⟨k.c,0,none⟩), .string (ak nm)] u λe w'=>e= .returned (.tuple #[])/\CP k J O u (s.decl nm) w':=by
 obtain⟨ay,ar,av,ax,au,z,ah⟩:=m;rcases z.sl with⟨_,_,aj⟩|⟨b,rfl,hM⟩
 ·exact absurd aj ad
 have o:=G z;have d:=G hM;obtain⟨_,es,aD,I,H⟩:=hM;have V:=G I;have R:=G H;have ab:IntKind.i64.wrap (4*(s.slots.length:Int))=4*(s.slots.length:Int):=Qc
 have aa:IntKind.i64.wrap (32+4*(s.slots.length:Int))=32+4*(s.slots.length:Int):=Qc
 clear z I H;go_enter func71,ntmps71;refine aB 12 1 [] mixed Qb trivial ?_;repeat (refine sx ?_ (λaq y=> ?_) ?_;rotate_left;(focus have aC:=(o.out.blk.ext y.un).cell;have aA:=λty=>AF (ty:=ty) wu.map ((y.un.obj d.out.1.lt).trans V.out) R.out;clear y;go_simp<;>with_reducible rfl);simp only[bA,bx,bw,br,bo])
 intro ap A _;simp only[ae,aw];have a:=A.un;have K:=G (o.out.keep a.size λc af=>a.obj (o.out.lo c af).2);have M:=G (d.out.obj (a.obj d.out.1.lt));have am:=G (jV (O:=O) a);clear A o d V R a ab aa;go_wp2_with (at_mapUpdate;refine qT wu rfl _ _ _ rfl (s:=nm) M.out rfl ac rfl _ rfl ?_;intro ao w F;have an:=G (K.out.slot_cp ah (iq s.slots nm (32+4*(s.slots.length:Int))) ⟨w.1.congr (DF _ _ _),by obtain⟨_,es,c,Z,X⟩:=w;refine⟨es,c,Z,?_⟩;rw[X,vW,As]⟩ F);clear w F M K);obtain⟨al,ai,ag⟩:=an.out;exact bodyPost_end (results_none rfl _ _ _) rfl ⟨rfl,al,ai,am.out.trans ag⟩
theorem tg {k:CC} {o:List (Nm×Int)} {O:Nat->Prop} {a:World} {s:CS} (m:CX k o O a s) {nm:Nm} (h:nm.length<=maxLen):a.cell? ⟨k.c,5,none⟩=some (.map (some k.bs))/\(Instr.lookup 88 (.map (some k.bs)) (.string (ak nm)) false).run prog a= .ok (.int .i64 (aR k.sz nm)) a:=by
 obtain⟨A,u,y,z,w,d,F⟩:=m;refine⟨(d.blk.cell 5).trans rfl,?_⟩;rw[(d.sz.look wu h).1];unfold gx aR
 cases gA k.sz nm<;>rfl
theorem Fm {k:CC} {A:List (Nm×Int)} {O:Nat->Prop} {o:World} {s:CS} (m:CX k A O o s) (r:Int) (nm:Nm) (R:nm.length<=maxLen) (M:0<=aR k.sz nm/\aR k.sz nm<=1000000) (ai:s.big<=930000000):
  Calls prog 133 #[.pointer (some ⟨k.c,0,none⟩), .int .i64 r, .string (ak nm)] o λe w'=>e= .returned (.tuple #[])/\CP k A O o (s.elem (aR k.sz) r nm) w':=by
 obtain⟨X,V⟩:=tg m R;have z:=G m;have I:=G (kt O o);have aa:=G (show s.elem (aR k.sz) r nm=((s.chk r (aR k.sz nm-1)).dat 0 nm).op 4 0 0 r from rfl);have J:=G (tu s r (aR k.sz nm-1));generalize s.elem (aR k.sz) r nm=ae at*;generalize aR k.sz nm=u at*;obtain⟨ah,ag⟩:=M;have af:IntKind.i64.wrap (u-1)=u-1:=Qc
 clear m;go_enter func133,ntmps133;go_wp2_with (first|(go_at_call 186;refine(Iq z.out r (u-1) Qa Qa).mono ?_;rintro e ad ⟨rfl,am,a,d⟩;have H:=cU I d;have y:=G a;clear X V;clear z I a d)|(go_at_call 185;refine(EJ y.out 0 nm (by have:=J.out;omega)).mono ?_;rintro e ac ⟨rfl,al,a,d⟩;have F:=cU H d;have w:=G a;clear y H a d)|(go_at_call 70;refine(f9 w.out 4 _ _ _ _ rfl (aZ (by have:=J.out;simp only[cO];omega))).mono ?_;rintro e ab ⟨rfl,aj,a,d⟩;have Z:=cU F d;have K:=G a;clear w F a d));exact bodyPost_end (results_none rfl _ _ _) rfl ⟨rfl,_,aa.out▸K.out,Z.out⟩
theorem Jx (op:Nm) (a:World):Calls prog 220 #[.string (ak op)] a λe w'=>e= .returned (.tuple #[.int .i64 ((sJ op).1:Int), .bool (sJ op).2.1, .bool (sJ op).2.2])/\a=w':=by
 by_cases h0:op=[43];(subst h0;go_enter func220,ntmps220;go_wp2_with fail;go_ret3;exact⟨rfl,rfl⟩)
 by_cases h1:op=[45];(subst h1;go_enter func220,ntmps220;go_wp2_with fail;go_ret3;exact⟨rfl,rfl⟩)
 by_cases h2:op=[42];(subst h2;go_enter func220,ntmps220;go_wp2_with fail;go_ret3;exact⟨rfl,rfl⟩)
 by_cases h3:op=[47];(subst h3;go_enter func220,ntmps220;go_wp2_with fail;go_ret3;exact⟨rfl,rfl⟩)
 by_cases h4:op=[37];(subst h4;go_enter func220,ntmps220;go_wp2_with fail;go_ret3;exact⟨rfl,rfl⟩)
 by_cases h5:op=[61,61];(subst h5;go_enter func220,ntmps220;go_wp2_with fail;go_ret3;exact⟨rfl,rfl⟩)
 by_cases h6:op=[33,61];(subst h6;go_enter func220,ntmps220;go_wp2_with fail;go_ret3;exact⟨rfl,rfl⟩)
 by_cases h7:op=[60];(subst h7;go_enter func220,ntmps220;go_wp2_with fail;go_ret3;exact⟨rfl,rfl⟩)
 by_cases h8:op=[60,61];(subst h8;go_enter func220,ntmps220;go_wp2_with fail;go_ret3;exact⟨rfl,rfl⟩)
 by_cases h9:op=[62];(subst h9;go_enter func220,ntmps220;go_wp2_with fail;go_ret3;exact⟨rfl,rfl⟩)
 have I:([43]==op)=false:=Qn.2 (eK h0);have e0:(op==[43])=false:=Qn.2 h0;have H:([45]==op)=false:=Qn.2 (eK h1);have ac:(op==[45])=false:=Qn.2 h1;have F:([42]==op)=false:=Qn.2 (eK h2);have ab:(op==[42])=false:=Qn.2 h2;have A:([47]==op)=false:=Qn.2 (eK h3);have aa:(op==[47])=false:=Qn.2 h3;have z:([37]==op)=false:=Qn.2 (eK h4);have Z:(op==[37])=false:=Qn.2 h4;have y:([61,61]==op)=false:=Qn.2 (eK h5);have X:(op==[61,61])=false:=Qn.2 h5;have w:([33,61]==op)=false:=Qn.2 (eK h6);have V:(op==[33,61])=false:=Qn.2 h6;have u:([60]==op)=false:=Qn.2 (eK h7);have R:(op==[60])=false:=Qn.2 h7;have o:([60,61]==op)=false:=Qn.2 (eK h8);have M:(op==[60,61])=false:=Qn.2 h8;have d:([62]==op)=false:=Qn.2 (eK h9);have K:(op==[62])=false:=Qn.2 h9;have J:=G (show sJ op=(12,false,true) by unfold sJ JN;simp only[List.find?,I,H,F,A,z,y,w,u,o,d];rfl);clear I H F A z y w u o d;clear h0 h1 h2 h3 h4 h5 h6 h7 h8 h9;go_enter func220,ntmps220;go_wp2_with fail
 go_ret3
 exact⟨by rw[J.out];rfl,rfl⟩
end
end Go.Proofs.YtoedmpgicdekmaaGreatDoor
