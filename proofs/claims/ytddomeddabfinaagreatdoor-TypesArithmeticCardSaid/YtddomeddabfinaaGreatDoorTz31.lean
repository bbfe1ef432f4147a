/-
  Parts of the proof: TyMu TyRc TyRp TyRd TyRy TyNz TyRx TyRz.
-/
import Derived.Test.YtddomeddabfinaaGreatDoorTz27
import Derived.Test.YtddomeddabfinaaGreatDoorTz29
import Derived.Test.YtddomeddabfinaaGreatDoorTz30
import Derived.Test.YtddomeddabfinaaGreatDoorTz26
import Derived.Test.YtddomeddabfinaaGreatDoorTz21
import Derived.Test.YtddomeddabfinaaGreatDoorTz28
import Derived.Test.YtddomeddabfinaaGreatDoorTz00
set_option maxRecDepth 100000
set_option maxHeartbeats 8000000
set_option linter.unusedVariables false
set_option linter.unusedSimpArgs false
set_option linter.unusedSectionVars false
namespace Go.Proofs.YtddomeddabfinaaGreatDoor
open Go.Proofs.Tryz
section
open Go.RowKit
theorem mF {X:MX} {C:Cx} {n:Nat} {x:Ex} (h:tz X C n x):m7 X C (n+1) x:=fun σ l fb lb w A c hA hF hn hR=>by
 by_cases hl:σ.left=0
 ·exact uc X C (n+1) x σ l fb lb w A c hA hF hl hR
 ·exact h σ l fb lb w A c hA hF hl hn hR
theorem lh {X:MX} {C:Cx} {n:Nat} {x:St} (h:rT X C n x):Es X C (n+1) x:=fun σ l fb lb w A1 A2 A3 c1 c2 c3 hA hF hn h1 h2 h3=>by
 by_cases hl:σ.left=0
 ·exact ua X C (n+1) x σ l fb lb w A1 A2 A3 c1 c2 c3 hA hF hl h1 h2 h3
 ·exact h σ l fb lb w A1 A2 A3 c1 c2 c3 hA hF hl hn h1 h2 h3
theorem Au {X:MX} {C:Cx} {n:Nat} (hE:DG X C n) (hRun:Ct X C n):DG X C (n+1):=by
 intro x hs hw;obtain⟨k,op,nm,tx,v,xs⟩:=x;rw[Ex.wt]at hw;have hall: ∀y∈xs,yW C.fn y=true->m7 X C n y:=fun y hy hq=>hE y hq (by have:=dG hy;omega);rw[yW]at hs;by_cases h1:k=1
 ·subst h1;exact mF (Ag X C n op nm tx v xs)
 by_cases h3:k=3
 ·subst h3;exact mF (Af X C n op nm tx v xs (by omega))
 rw[if_neg (by omega)]at hs;by_cases h46:k=4\/k=6
 ·rw[if_pos h46,ak]at hs;have hL:=p8 hs.2;have hlen:1<=xs.length:=by simpa using hs.1
  cases xs with
  |nil=>simp at hlen
  |cons y r=>
   have hy:=hall y (by simp) (hL y (by simp));rcases h46 with rfl|rfl
   ·exact mF (Ae X C n op nm tx v y r (by omega) hy)
   ·exact mF (Ac X C n op nm tx v y r hy)
 rw[if_neg h46]at hs;by_cases h5:k=5
 ·subst h5;rw[if_pos rfl]at hs;refine mF (Ad X C n op nm tx v xs ?_)
  cases hb:ee nm with
  |none=>
   rw[hb]at hs;simp only[ak]at hs;exact sV X C n 5 op nm tx v xs (by omega) (by omega) hb (by simpa using hs.1) (fun y hy=>hall y hy (p8 hs.2 y hy)) hRun
  |some b=>
   obtain⟨bc,ls⟩:=b;rw[hb]at hs;simp only[ak]at hs;have hla:xs.length=ls.length:=by simpa using hs.1.1
   have hls:=qt nm;rw[hb]at hls;refine sU X C n 5 op nm tx v xs bc ls hb (xH X C n 5 op nm tx v xs bc ls hb hla hls (fun h9 y hy=> ?_) (fun j h h' hq=>hall _ (au h) (w_ ls xs hs.2 j h h' hq)) (fun y hy=> ?_))
   ·have h2:=hs.1.2;rw[bF]at h2;rcases h2 with h2|h2
    ·exact absurd h9 (by simpa using h2)
    ·have:=List.all_eq_true.1 h2 y hy;simpa using this
   ·have h1:=dG hy;have h2:=y.wt_eq;exact⟨by omega,by omega⟩
 rw[if_neg h5]at hs;by_cases h7:k=7
 ·subst h7;rw[if_pos rfl,ak]at hs;have hL:=p8 hs.2;have hlen:2<=xs.length:=by simpa using hs.1
  match xs,hlen,hL,hall with
  |y::z::r,_,hL,hall=>exact mF (Aa X C n op nm tx v y z r (hall y (by simp) (hL y (by simp))) (hall z (by simp) (hL z (by simp))))
 ·rw[if_neg h7]at hs
  cases hs
theorem qa (X:MX) (C:Cx) (hC:Cv C): ∀n m,m<=n->DG X C m/\EI X C m
 |0,m,hm=>by
  obtain rfl:m=0:=by omega
  exact⟨fun x _ _ σ l fb lb w A c hA hF hn hR=>uc X C 0 x σ l fb lb w A c hA hF (by omega) hR,fun x _ _ σ l fb lb w A1 A2 A3 c1 c2 c3 hA hF hn h1 h2 h3=>ua X C 0 x σ l fb lb w A1 A2 A3 c1 c2 c3 hA hF (by omega) h1 h2 h3⟩
 |n+1,m,hm=>by
  by_cases hmn:m<=n
  ·exact qa X C hC n m hmn
  obtain rfl:m=n+1:=by omega
  have hIH:=qa X C hC n;have hSs: ∀m,m<=n->Et X C m:=fun m hm=>ob X C m (hIH m hm).2;have hEv: ∀m,m<=n->DG X C m:=fun m hm=>(hIH m hm).1;refine⟨Au (hEv n (ah _)) (rk X C n (hSs n (ah _)) hC),fun x hs hw=> ?_⟩;obtain⟨k,nm,ex,bd,el⟩:=x;rw[St.wt]at hw;rw[BD]at hs;simp only[ak]at hs;obtain⟨⟨h0,hx⟩,hb,he⟩:=hs;have hEx: ∀m,m<=n-> ∀y∈ex,m7 X C m y:=fun m hm y hy=>hEv m hm y (p8 hx y hy) (by have:=dG hy;omega);have hEn:=hEx n (ah _);have hBd: ∀m,m<=n->AT X C m bd:=fun m hm=>hSs m hm bd hb (by omega);have hEl:AT X C n el:=hSs n (ah _) el he (by omega);by_cases h5:k=5
  ·subst h5;rw[if_pos rfl]at h0;exact lh (zY X C n nm ex bd el (fun e=>by rw[e]at h0;simp at h0) hEx hBd)
  rw[if_neg h5]at h0;by_cases h3:k=3
  ·subst h3;rw[if_pos rfl]at h0;exact lh (z7 X C n nm ex bd el (by omega) hEn (by simpa using h0))
  rw[if_neg h3]at h0;have h0:1<=k/\k<=7:=by simpa using h0
  obtain rfl|rfl|rfl|rfl|rfl:k=1\/k=2\/k=4\/k=6\/k=7:=by omega
  ·exact lh (z' X C n nm ex bd el (by omega) hEn)
  ·exact lh (z_ X C n nm ex bd el (by omega) hEn)
  ·exact lh (zZ X C n nm ex bd el hEn (hBd n (ah _)) hEl)
  ·exact lh (zX X C n nm ex bd el hEn)
  ·exact lh (zW X C n nm ex bd el hEn)
end
section
open Go.RowKit
def EC (o:Oc) (A:Option Addr) (n c:Nat):Array Value:= #[.int .i64 o.kind, .int .i64 o.call, .int .i64 o.a0, .int .i64 o.a1, .int .i64 o.a2, .slice A n c, .int .i64 (o.used:Int)]
structure RW (w:World) (sv sf:Value) (out:Array Value) (ev:Value) (W:World):Prop where
 e:aq w W
 b0:aL W w.heap.size 34 #[sv,sf]
 b1:aL W (w.heap.size+1) 42 out
 b2:aL W (w.heap.size+1+1) 28 #[ev]
theorem xe (w:World) (sv sf:Value) (out:Array Value) (ev:Value):RW w sv sf out ev (((w.alloc (.cells #[sv,sf] 34)).alloc (.cells out 42)).alloc (.cells #[ev] 28)):=by
 refine⟨((O w _).alloc' _).alloc' _,((an w _ _).alloc _).alloc _,?_,?_⟩
 ·have:=(an (w.alloc (.cells #[sv,sf] 34)) 42 out).alloc (.cells #[ev] 28);rwa [World.size_alloc]at this
 ·have:=an ((w.alloc (.cells #[sv,sf] 34)).alloc (.cells out 42)) 28 #[ev];rwa [World.size_alloc,World.size_alloc]at this
section
variable {w W W':World} {sv sf ev:Value} {out:Array Value}
theorem RW.ex (h:RW w sv sf out ev W) (hE:aq W W'):RW w sv sf out ev W':=⟨h.e.trans hE,h.b0.ext hE,h.b1.ext hE,h.b2.ext hE⟩
theorem RW.lt (h:RW w sv sf out ev W):w.heap.size+1+1<W.heap.size:=h.b2.lt
theorem RW.mv {S:Nat->Prop} (h:RW w sv sf out ev W) (hM:Mv S W W') (hS: ∀k,k<=w.heap.size+1+1-> ¬S k):RW w sv sf out ev W':=by
 have hl:=h.lt;have hE:aq w W':=⟨hM.os.trans h.e.os,hM.tape.trans h.e.tape,hM.output.trans h.e.output,aZ h.e.size hM.size,fun k hk=>(hM.block k (by omega) (hS k (by omega))).trans (h.e.obj hk)⟩
 exact⟨hE,hM.blk h.b0 (hS _ (by omega)),hM.blk h.b1 (hS _ (by omega)),hM.blk h.b2 (hS _ (by omega))⟩
end
abbrev xz:Array Value:= #[.int .i64 0, .int .i64 0, .int .i64 0, .int .i64 0, .int .i64 0, .slice none 0 0, .int .i64 0]
abbrev xj (W:World) (g:Nat) (a b c d e f h:Value):World:=((((((W.setCell ⟨g,0,none⟩ a).setCell ⟨g,1,none⟩ b).setCell ⟨g,2,none⟩ c).setCell ⟨g,3,none⟩ d).setCell ⟨g,4,none⟩ e).setCell ⟨g,5,none⟩ f).setCell ⟨g,6,none⟩ h
theorem RW.put {w W:World} {sv sf ev:Value} (h:RW w sv sf xz ev W) (a b c d e f g u:Value):RW w sv sf #[a,b,c,d,e,f,g] u ((xj W (w.heap.size+1) a b c d e f g).setCell ⟨w.heap.size+1+1,0,none⟩ u):=by
 have hM:Mv (fun k=>k=w.heap.size+1) W (xj W (w.heap.size+1) a b c d e f g):=(((((((iK (fun k=>k=w.heap.size+1) W).set (p:=⟨w.heap.size+1,0,none⟩) (fun _=>rfl) a).set (p:=⟨w.heap.size+1,1,none⟩) (fun _=>rfl) b).set (p:=⟨w.heap.size+1,2,none⟩) (fun _=>rfl) c).set (p:=⟨w.heap.size+1,3,none⟩) (fun _=>rfl) d).set (p:=⟨w.heap.size+1,4,none⟩) (fun _=>rfl) e).set (p:=⟨w.heap.size+1,5,none⟩) (fun _=>rfl) f).set (p:=⟨w.heap.size+1,6,none⟩) (fun _=>rfl) g;have hM2:Mv (fun k=>k=w.heap.size+1\/k=w.heap.size+1+1) W ((xj W (w.heap.size+1) a b c d e f g).setCell ⟨w.heap.size+1+1,0,none⟩ u):=(hM.mono fun k _ e=> .inl e).set (p:=⟨w.heap.size+1+1,0,none⟩) (fun _=> .inr rfl) u;have hb1:aL (xj W (w.heap.size+1) a b c d e f g) (w.heap.size+1) 42 #[a,b,c,d,e,f,g]:=by simpa using((((((h.b1.set 0 a).set 1 b).set 2 c).set 3 d).set 4 e).set 5 f).set 6 g
 have hl:=h.lt;have hE:aq w ((xj W (w.heap.size+1) a b c d e f g).setCell ⟨w.heap.size+1+1,0,none⟩ u):=⟨hM2.os.trans h.e.os,hM2.tape.trans h.e.tape,hM2.output.trans h.e.output,aZ h.e.size hM2.size,fun k hk=>(hM2.block k (by omega) (by omega)).trans (h.e.obj hk)⟩
 refine⟨hE,hM2.blk h.b0 (by omega),hb1.far (by show _≠w.heap.size+1+1;omega) u,?_⟩;have:=(hM.blk h.b2 (by omega)).set 0 u;simpa using this
theorem uD (W0 w:World) (sv sf:Value) (y:Value) (mvb:Nat) (X:MX) (o:Oc) (older:List PanicEntry) (H:RW W0 sv sf xz y w) (hm:aL w mvb 122 #[.pointer (some ⟨X.g,0,none⟩)]) (hH:gC X o w) (h1:W0.heap.size+1+1<X.g) (h2:X.g≠mvb) (h3:W0.heap.size+1+1<mvb) (h4:X.g<X.hi):
  CallsD prog 47 #[.pointer (some ⟨mvb,0,none⟩), .pointer (some ⟨W0.heap.size+1,0,none⟩), .pointer (some ⟨W0.heap.size+1+1,0,none⟩)] (.panicking ({v:= .iface 129 (.agg #[.int .i64 o.kind]),recovered:=false}::older)) w fun e u' w'=>
   e= .returned (.tuple #[])/\u'= .panicking ({v:= .iface 129 (.agg #[.int .i64 o.kind]),recovered:=true}::older)/\ ∃A c,RW W0 sv sf (EC o A o.data.length c) (.int .i64 0) w'/\Sl w' A c o.data:=by
 obtain⟨v0,v1,v2,v3,v4,v5,A,c,hbk,hsl,hq⟩:=hH;obtain⟨k,call,a0,a1,a2,data,used⟩:=o;simp only at hbk hsl hq⊢;obtain⟨nd,hnd⟩: ∃n,data.length=n:=⟨_,rfl⟩
 rw[hnd]at hbk⊢;obtain⟨g,bf,bi,ba,lo,hi,rb,fv,rv,al,mv⟩:=X;simp only at hbk hm h1 h2 hq h4⊢;have hxe:=O w (.cells #[.int .i64 k] 129);have HBw:=G (an w 129 #[.int .i64 k]);have HC:=G (H.ex hxe);have HK:=G (hbk.ext hxe);have HMv:=G (hm.ext hxe);have HSl:=G (hsl.ext hxe);have hlt:=H.lt;have hg:=hbk.lt;have hmb:=hm.lt;clear hxe H hbk hm hsl;refine callsD_of_wpS func47 rfl fun c₀ cs hu=> ?_;apply wpS_seq;apply wpS_region;simp[wpOpsS,go_sem,recoverD,hu,ntmps47,Exit.thenS];have hT: ∀v a b c:Value,#[a,b,c]++((Array.replicate 24 undef).setIfInBounds 3 v).setIfInBounds 0 v= #[a,b,c,v,undef,undef,v,undef,undef,undef,undef,undef,undef,undef,undef,undef,undef,undef,undef,undef,undef,undef,undef,undef,undef,undef,undef]:=by
  intro v a b c;apply jl;simp[gJ]
 rw[hT];clear hT;apply wpS_seq;apply wpS_region;simp[wpOpsS,go_sem,Exit.thenS];refine wpS_cond (t:=true) (by simp[Act.eval]) ?_;simp only[if_true];refine wpS_of_wp ?_;have hta: ∀(v:Value) (xT:TypeId) (w:World),(Instr.typeAssert (.iface 129 v) xT 129 true).run prog w= .ok (.tuple #[v, .bool true]) w:=fun v xT w=>by simp[Instr.typeAssert,run_underlying underlying129]
 go_upto_region 5 with fail
 have hb:=HBw.out.cell;have km:=HMv.out.cell;have kg:=HK.out.cell;have kz:=HK.out.frozen;have n1:w.heap.size≠g:=by omega
 have n2:g≠w.heap.size:=by omega
 have n3:mvb≠g:=fun e=>h2 e.symm;have n4:W0.heap.size+1≠g:=by omega
 have n5:W0.heap.size+1+1≠g:=by omega
 have n6:W0.heap.size+1≠W0.heap.size+1+1:=by omega
 have n7:W0.heap.size+1+1≠W0.heap.size+1:=by omega
 generalize w.alloc (.cells #[.int .i64 k] 129)=w5 at*
 go_upto_region 6 with fail
 have hk6:aL (w5.setCell ⟨g,6,none⟩ (.int .i64 k)) g 127 #[v0,v1,v2,v3,v4,v5, .int .i64 k, .int .i64 call, .int .i64 a0, .int .i64 a1, .int .i64 a2, .slice A nd c, .int .i64 (used:Int)]:=by simpa using HK.out.set 6 (.int .i64 k)
 have HC6:=G (HC.out.mv (S:=fun b=>b=g) ((iK (fun b=>b=g) w5).set (p:=⟨g,6,none⟩) (fun _=>rfl) (.int .i64 k)) fun b hb e=>by omega);have HSl6:=G (HSl.out.keepP (P:=fun b=>hi<=b) (((iK (fun b=>b=g) w5).set (p:=⟨g,6,none⟩) (fun _=>rfl) (.int .i64 k)).keepP fun b hb _ e=>by omega) hq);have hm6:=(HMv.out.far (p:=⟨g,6,none⟩) n3 (.int .i64 k))
 clear hb km kg kz HK HC HMv HBw HSl;generalize w5.setCell ⟨g,6,none⟩ (.int .i64 k)=w6 at*;have km:=hm6.cell;have kg:=hk6.cell;have c1:=HC6.out.b1.cell;have c2:=HC6.out.b2.cell;have z1:=HC6.out.b1.frozen;have z2:=HC6.out.b2.frozen;clear hk6 hm6;have HFin:=G (HC6.out.put (.int .i64 k) (.int .i64 call) (.int .i64 a0) (.int .i64 a1) (.int .i64 a2) (.slice A nd c) (.int .i64 (used:Int)) (.int .i64 0));have HSl7:=G (HSl6.out.keepP (P:=fun b=>hi<=b) ((((((((((iK (fun b=>b=W0.heap.size+1\/b=W0.heap.size+1+1) w6).set (p:=⟨W0.heap.size+1,0,none⟩) (fun _=> .inl rfl) (.int .i64 k)).set (p:=⟨W0.heap.size+1,1,none⟩) (fun _=> .inl rfl) (.int .i64 call)).set (p:=⟨W0.heap.size+1,2,none⟩) (fun _=> .inl rfl) (.int .i64 a0)).set (p:=⟨W0.heap.size+1,3,none⟩) (fun _=> .inl rfl) (.int .i64 a1)).set (p:=⟨W0.heap.size+1,4,none⟩) (fun _=> .inl rfl) (.int .i64 a2)).set (p:=⟨W0.heap.size+1,5,none⟩) (fun _=> .inl rfl) (.slice A nd c)).set (p:=⟨W0.heap.size+1,6,none⟩) (fun _=> .inl rfl) (.int .i64 (used:Int))).set (p:=⟨W0.heap.size+1+1,0,none⟩) (fun _=> .inr rfl) (.int .i64 0)).keepP fun b hb _ e=>by omega) hq);go_wp2_with fail;refine⟨rfl,_,rfl, .tuple #[],?_,rfl,rfl,A,c,HFin.out,HSl7.out⟩;simp[results,results47]
end
section
theorem pH: ∀(vs:List Vr) (s:List UInt8),(∀v∈vs,v.nm≠s)->gn vs s=[]
 | [],s,_=>rfl
 |v::r,s,h=>by
  rw[gn,if_neg (fun e=>h v (by simp) e.1.symm)];exact pH r s fun u hu=>h u (by simp[hu])
theorem pG: ∀(vs:List Vr) (u:Vr) (s:List UInt8),(∀v∈vs,v.nm≠u.nm)->gn (vs++[u]) s=if s=u.nm/\0<u.sz then List.replicate u.sz.toNat 0 else gn vs s
 | [],u,s,_=>by
  show gn [u] s=_;rw[gn];rfl
 |v::r,u,s,h=>by
  show gn (v::(r++[u])) s=_;rw[gn,gn];by_cases e:s=v.nm/\0<v.sz
  ·have hne: ¬s=u.nm:=fun e2=>h v (by simp) (e.1.symm.trans e2);rw[if_pos e,if_neg (fun e2=>hne e2.1),if_pos e]
  ·rw[if_neg e,if_neg e];exact pG r u s fun x hx=>h x (by simp[hx])
theorem rx: ∀(fs:List Fc) (u:Fc) (s:List UInt8),(∀f∈fs,f.nm≠u.nm)->ib (fs++[u]) s=if s=u.nm then u else ib fs s
 | [],u,s,_=>by
  show ib [u] s=_;rw[ib,ib,ib]
 |f::r,u,s,h=>by
  show ib (f::(r++[u])) s=_;rw[ib,ib];by_cases e:s=f.nm
  ·have hne: ¬s=u.nm:=fun e2=>h f (by simp) (e.symm.trans e2);rw[if_pos e,if_neg hne,if_pos e]
  ·rw[if_neg e,if_neg e];exact rx r u s fun x hx=>h x (by simp[hx])
theorem oY {α:Type} (l:List α) (j:Nat) (h:j<l.length):l.take (j+1)=l.take j++[l[j]]:=by rw[List.take_add_one,aI h];rfl
theorem qc {α β:Type} (l:List α) (f:α->β) (hp:(l.map f).Pairwise (· ≠ ·)) (j:Nat) (h:j<l.length): ∀x∈l.take j,f x≠f l[j]:=by
 intro x hx;obtain⟨i,hi,rfl⟩:=List.mem_iff_getElem.1 hx;rw[bE]at hi;rw[iq];have:=List.pairwise_iff_getElem.1 hp i j (by simp;omega) (by simpa using h) (by omega);simpa using this
theorem v_ (vs:List Vr) (hp:(vs.map (·.nm)).Pairwise (· ≠ ·)) (j:Nat) (h:j<vs.length) (s:List UInt8):gn (vs.take (j+1)) s=if s=vs[j].nm/\0<vs[j].sz then List.replicate vs[j].sz.toNat 0 else gn (vs.take j) s:=by
 rw[oY vs j h];exact pG _ _ s (qc vs (·.nm) hp j h)
theorem yb (fs:List Fc) (hp:(fs.map (·.nm)).Pairwise (· ≠ ·)) (j:Nat) (h:j<fs.length) (s:List UInt8):ib (fs.take (j+1)) s=if s=fs[j].nm then fs[j]else ib (fs.take j) s:=by
 rw[oY fs j h];exact rx _ _ s (qc fs (·.nm) hp j h)
theorem uo {p:Pg} (h:fR p= .ok ()):(p.vs.map (·.nm)).Pairwise (· ≠ ·)/\(p.fs.map (·.nm)).Pairwise (· ≠ ·):=by
 unfold fR at h;obtain⟨g,h1,_⟩:=db h;have h2:=r_ p;rw[h1,dV]at h2;unfold sR at h2;obtain⟨_,h3,_⟩:=db h2;have h4:=(tH _ _ h3).2;exact⟨(List.pairwise_append.1 h4).1,(List.pairwise_append.1 h4).2.1⟩
theorem ug: ∀(fs:List Fc) (s:List UInt8),ib fs s∈fs\/ib fs s=⟨[],[],[]⟩
 | [],s=> .inr rfl
 |f::r,s=>by
  rw[ib];split
  ·exact .inl (by simp)
  ·rcases ug r s with h|h
   ·exact .inl (by simp[h])
   ·exact .inr h
end
section
open Go.RowKit
abbrev zF:Value:= .agg #[.string ⟨#[]⟩, .slice none 0 0, .slice none 0 0]
structure PM (n0:Nat) (lf:Int) (rv:Value) (ar:List UInt8->List UInt8) (rb:List UInt8->Nat) (fnL:List UInt8->Fc) (W:World):Prop where
 g:aL W (n0+3) 127 #[.map (some n0), .map (some (n0+1)), .map (some (n0+2)),rv, .int .i64 lf, .int .i64 0, .int .i64 0, .int .i64 0, .int .i64 0, .int .i64 0, .int .i64 0, .slice none 0 0, .int .i64 0]
 m:aL W (n0+4) 122 #[.pointer (some ⟨n0+3,0,none⟩)]
 f: ∃L,bM W n0 L/\ ∀s,∃pv bv,(L s).getD zF= .agg #[.string (ai (fnL s).nm),pv,bv]/\lC W (fun b=>b<n0) pv (fnL s).ps/\cR W (fun b=>b<n0) bv (fnL s).body
 i:bM W (n0+1) (fun _=>none)
 a: ∃L,bM W (n0+2) L/\ ∀s,(L s).getD (.slice none 0 0)=if ar s=[]then .slice none 0 0 else .slice (some ⟨rb s,0,none⟩) (ar s).length (ar s).length
 row: ∀s,ar s≠ []->aL W (rb s) 5 (y6 (ar s))/\n0+5<=rb s/\(ar s).length<=2000
 inj: ∀s t,ar s≠ []->ar t≠ []->rb s=rb t->s=t
section
variable {n0:Nat} {lf:Int} {rv:Value} {ar:List UInt8->List UInt8} {rb:List UInt8->Nat} {fnL:List UInt8->Fc} {W W':World}
theorem PM.lt (h:PM n0 lf rv ar rb fnL W):n0+4<W.heap.size:=h.m.lt
theorem PM.ext (h:PM n0 lf rv ar rb fnL W) (hE:aq W W'):PM n0 lf rv ar rb fnL W':=by
 obtain⟨L1,f1,f2⟩:=h.f;obtain⟨L2,a1,a2⟩:=h.a;refine⟨h.g.ext hE,h.m.ext hE,⟨L1,f1.ext hE,fun s=> ?_⟩,h.i.ext hE,⟨L2,a1.ext hE,a2⟩,fun s hs=> ?_,h.inj⟩
 ·obtain⟨pv,bv,e,p1,p2⟩:=f2 s;exact⟨pv,bv,e,p1.keep (.of_ext hE) fun b hb _=>hb,p2.keep (.of_ext hE) fun b hb _=>hb⟩
 ·obtain⟨r1,r2,r3⟩:=h.row s hs;exact⟨r1.ext hE,r2,r3⟩
theorem PM.addA {nm:List UInt8} {g n:Nat} {L:KF} (h:PM n0 lf rv ar rb fnL W) (hn:0<n) (hn2:n<=2000) (hL: ∀s,(L s).getD (.slice none 0 0)=if ar s=[]then .slice none 0 0 else .slice (some ⟨rb s,0,none⟩) (ar s).length (ar s).length)
  (hg0:n0+5<=g) (hgr: ∀s,ar s≠ []->rb s≠g) (hR:Rw W g 5 (List.replicate n 0)) (hm:bM W' (n0+2) (L.upd nm (.slice (some ⟨g,0,none⟩) n n))) (hg:W.grownBy W' (some (n0+2))):
  PM n0 lf rv (fun s=>if s=nm then List.replicate n 0 else ar s) (fun s=>if s=nm then g else rb s) fnL W':=by
 obtain⟨L1,f1,f2⟩:=h.f;have ne: ∀k,k≠n0+2->some k≠some (n0+2):=fun k hk e=>hk (by injection e);have hk:cC (fun b=>b<n0) W W':= .of_grown hg fun b hb e=>by injection e with e;omega
 have hne:List.replicate n (0:UInt8)≠ []:=fun e=>by have:=congrArg List.length e;simp at this;omega
 refine⟨h.g.grown hg (ne _ (by omega)),h.m.grown hg (ne _ (by omega)),⟨L1,f1.grown hg (ne _ (by omega)),fun s=> ?_⟩,h.i.grown hg (ne _ (by omega)),⟨_,hm,fun s=> ?_⟩,fun s hs=> ?_,fun s t hs ht e=> ?_⟩
 ·obtain⟨pv,bv,e,p1,p2⟩:=f2 s;exact⟨pv,bv,e,p1.keep hk fun b hb _=>hb,p2.keep hk fun b hb _=>hb⟩
 ·unfold KF.upd;by_cases e:s=nm
  ·rw[if_pos e];simp only[if_pos e];rw[if_neg hne,jP];rfl
  ·rw[if_neg e];simp only[if_neg e];exact hL s
 ·by_cases e:s=nm
  ·simp only[if_pos e];exact⟨(show Rw W g 5 (List.replicate n 0)from hR).grown hg (ne _ (by omega)),hg0,by rw[jP];exact hn2⟩
  ·simp only[if_neg e]at hs⊢;obtain⟨r1,r2,r3⟩:=h.row s hs;exact⟨r1.grown hg (ne _ (by omega)),r2,r3⟩
 ·by_cases e1:s=nm
  ·by_cases e2:t=nm
   ·rw[e1,e2]
   ·simp only[if_pos e1,if_neg e2]at e ht;exact absurd e.symm (hgr t ht)
  ·by_cases e2:t=nm
   ·simp only[if_neg e1,if_pos e2]at e hs;exact absurd e (hgr s hs)
   ·simp only[if_neg e1,if_neg e2]at e hs ht;exact h.inj s t hs ht e
theorem PM.addF {f:Fc} {pv bv:Value} {L:KF} (h:PM n0 lf rv ar rb fnL W) (hL: ∀s,∃pv bv,(L s).getD zF= .agg #[.string (ai (fnL s).nm),pv,bv]/\lC W (fun b=>b<n0) pv (fnL s).ps/\cR W (fun b=>b<n0) bv (fnL s).body)
  (hp:lC W (fun b=>b<n0) pv f.ps) (hb:cR W (fun b=>b<n0) bv f.body) (hm:bM W' n0 (L.upd f.nm (.agg #[.string (ai f.nm),pv,bv]))) (hg:W.grownBy W' (some n0)):
  PM n0 lf rv ar rb (fun s=>if s=f.nm then f else fnL s) W':=by
 obtain⟨L2,a1,a2⟩:=h.a;have ne: ∀k,k≠n0->some k≠some n0:=fun k hk e=>hk (by injection e);have hk:cC (fun b=>b<n0) W W':= .of_grown hg fun b hb e=>by injection e with e;omega
 refine⟨h.g.grown hg (ne _ (by omega)),h.m.grown hg (ne _ (by omega)),⟨_,hm,fun s=> ?_⟩,h.i.grown hg (ne _ (by omega)),⟨L2,a1.grown hg (ne _ (by omega)),a2⟩,fun s hs=> ?_,h.inj⟩
 ·unfold KF.upd;by_cases e:s=f.nm
  ·rw[if_pos e];simp only[if_pos e];exact⟨pv,bv,rfl,hp.keep hk fun b hb _=>hb,hb.keep hk fun b hb _=>hb⟩
  ·rw[if_neg e];simp only[if_neg e];obtain⟨pv,bv,e,p1,p2⟩:=hL s;exact⟨pv,bv,e,p1.keep hk fun b hb _=>hb,p2.keep hk fun b hb _=>hb⟩
 ·obtain⟨r1,r2,r3⟩:=h.row s hs;exact⟨r1.grown hg (ne _ (by omega)),r2,r3⟩
theorem PM.congr {ar':List UInt8->List UInt8} {fnL':List UInt8->Fc} (h:PM n0 lf rv ar rb fnL W) (h1:ar=ar') (h2:fnL=fnL'):PM n0 lf rv ar' rb fnL' W:=by subst h1;subst h2;exact h
end
theorem BO (w:World) (lf:Int) (rv:Value):PM w.heap.size lf rv (fun _=>[]) (fun _=>0) (fun _=>⟨[],[],[]⟩)
  (((((w.alloc (.map #[] 0)).alloc (.map #[] 0)).alloc (.map #[] 0)).alloc (.cells #[.map (some w.heap.size), .map (some (w.heap.size+1)), .map (some (w.heap.size+1+1)),rv, .int .i64 lf, .int .i64 0, .int .i64 0, .int .i64 0, .int .i64 0, .int .i64 0, .int .i64 0, .slice none 0 0, .int .i64 0] 127)).alloc (.cells #[.pointer (some ⟨w.heap.size+1+1+1,0,none⟩)] 122)):=by
 generalize hc:(#[.map (some w.heap.size), .map (some (w.heap.size+1)), .map (some (w.heap.size+1+1)),rv, .int .i64 lf, .int .i64 0, .int .i64 0, .int .i64 0, .int .i64 0, .int .i64 0, .int .i64 0, .slice none 0 0, .int .i64 0]:Array Value)=cs;have e2:=O (w.alloc (.map #[] 0)) (.map #[] 0);have e3:=O ((w.alloc (.map #[] 0)).alloc (.map #[] 0)) (.map #[] 0);have e4:=O (((w.alloc (.map #[] 0)).alloc (.map #[] 0)).alloc (.map #[] 0)) (.cells cs 127);have e5:=O ((((w.alloc (.map #[] 0)).alloc (.map #[] 0)).alloc (.map #[] 0)).alloc (.cells cs 127)) (.cells #[.pointer (some ⟨w.heap.size+1+1+1,0,none⟩)] 122);have m1:=(((gp w).ext e2).ext e3).ext (e4.trans e5);have m2:=((gp (w.alloc (.map #[] 0))).ext e3).ext (e4.trans e5);have m3:=(gp ((w.alloc (.map #[] 0)).alloc (.map #[] 0))).ext (e4.trans e5);have b4:=(an (((w.alloc (.map #[] 0)).alloc (.map #[] 0)).alloc (.map #[] 0)) 127 cs).ext e5;have b5:=an ((((w.alloc (.map #[] 0)).alloc (.map #[] 0)).alloc (.map #[] 0)).alloc (.cells cs 127)) 122 #[.pointer (some ⟨w.heap.size+1+1+1,0,none⟩)];simp only[World.size_alloc]at m1 m2 m3 b4 b5;subst hc;exact⟨b4,b5,⟨_,m1,fun s=>⟨_,_,rfl,lC.nil_ _ _, .nil _ _⟩⟩,m2,⟨_,m3,fun s=>rfl⟩,fun s hs=>absurd rfl hs,fun s t hs=>absurd rfl hs⟩
theorem Dc {p:Pg} {R:Rs} {n0:Nat} {lf:Int} {rv:Value} {rb:List UInt8->Nat} {W:World} (h:PM n0 lf rv (gn p.vs) rb (ib p.fs) W) (l2: -9223372036854775808<=lf) (l3:lf<=9223372036854775807) (hR:yQ W (fun b=>b<n0) rv R) (hB:BT W) (h0:0<n0):
  ∃X:MX,X.g=n0+3/\X.hi=W.heap.size/\X.lo=n0/\X.mv=n0+4/\X.bf=n0/\MA X (cx p R) (CH p lf.toNat) W:=by
 obtain⟨L1,f1,f2⟩:=h.f;have hlt:=h.lt;refine⟨⟨n0+3,n0,n0+1,n0+2,n0,W.heap.size,rb,fun s=>(L1 s).getD zF,rv,fun s=>(gn p.vs s).length,n0+4⟩,rfl,rfl,rfl,rfl,rfl,?_⟩;refine⟨⟨by simp only;omega,by simp only;omega,by simp only;omega,by simp only[MX.S];omega,by simp only[MX.S];omega,by simp only[MX.S];omega,by simp only[MX.S];omega⟩,⟨lf,rfl,l2,l3,h.g⟩,⟨L1,f1,fun s=>rfl⟩,fun s=> ?_,⟨_,h.i,fun s=>rfl⟩,h.a,fun s hs=> ?_,h.inj,hR,aG _,aG _,fun x=>by show eO 0;decide,hB,h0,ah _,fun s=>rfl⟩
 ·obtain⟨pv,bv,e,p1,p2⟩:=f2 s;exact⟨pv,bv,e,p1,p2⟩
 ·obtain⟨r1,r2,r3⟩:=h.row s hs;have:=r1.lt;exact⟨r1,by simp only[MX.S];omega,by simp only;omega,by have r3:(gn p.vs s).length<=2000:=r3;show(gn p.vs s).length<=_;omega⟩
theorem Dm {p:Pg} (R:Rs) (hv:gZ p=true) (h:fR p= .ok ()) (hw:lz p<=6000000):Cv (cx p R):=by
 have hs:=(qQ hv h).2;have hm: ∀s,fq (ib p.fs s).body<=6000000/\(ib p.fs s).ps.length<=6000000/\ ∀q∈(ib p.fs s).ps,q.length<=1073741824:=fun s=>by
  rcases ug p.fs s with hf|hf
  ·have h1:=nV hf;have h3:fq (ib p.fs s).body<=(ib p.fs s).wt:=by unfold Fc.wt;omega
   have h4:(ib p.fs s).ps.length<=(ib p.fs s).wt:=by
    have:=jr (fun _:List UInt8=>1) (fun s=>s.length+1) (ib p.fs s).ps (fun v _=>by omega);rw[gh]at this;unfold Fc.wt;omega
   exact⟨by omega,by omega,fun y hy=>by have:=xp hy;omega⟩
  ·rw[hf];exact⟨by simp[fq],by simp,fun q hq=>by cases hq⟩
 exact⟨hs,fun s=>(hm s).1,fun s=>(hm s).2.1,fun s=>(hm s).2.2⟩
end
section
open Go.RowKit
def BU (o:Oc) (A:Option Addr) (c:Nat):Value:= .agg #[.int .i64 o.kind, .int .i64 o.call, .int .i64 o.a0, .int .i64 o.a1, .int .i64 o.a2, .slice A o.data.length c, .int .i64 (o.used:Int)]
theorem sF {tmps:Array Value} {w W:World} {sv sf y:Value} {mvb:Nat} {X:MX} {o:Oc} {k:Int} {Q:Ending->World->Prop} (h6:tmps.getD 6 undef= .pointer (some ⟨w.heap.size+1,0,none⟩)) (h7:tmps.getD 7 undef= .pointer (some ⟨w.heap.size+1+1,0,none⟩)) (hk:o.kind=k)
  (H:RW w sv sf xz y W) (hm:aL W mvb 122 #[.pointer (some ⟨X.g,0,none⟩)]) (hH:gC X o W) (h1:w.heap.size+1+1<X.g) (h2:X.g≠mvb) (h3:w.heap.size+1+1<mvb) (h4:X.g<X.hi)
  (hR: ∀A c W',aq w W'->Sl W' A c o.data->Q (.returned (.tuple #[BU o A c, .int .i64 0])) W'):
  Leaves prog Tryz.f17 tmps Q [{target:= .fn (Fn.func 47) #[.pointer (some ⟨mvb,0,none⟩), .pointer (some ⟨w.heap.size+1,0,none⟩), .pointer (some ⟨w.heap.size+1+1,0,none⟩)],args:= #[]}] (.panicking [{v:= .iface 129 (.agg #[.int .i64 k]),recovered:=false}]) W:=by
 subst hk;refine leaves_cons (f:=47) (args:= #[.pointer (some ⟨mvb,0,none⟩), .pointer (some ⟨w.heap.size+1,0,none⟩), .pointer (some ⟨w.heap.size+1+1,0,none⟩)]) (by simp) (by simp[go_sem]) ?_;refine(uD w W _ _ _ mvb X o _ H hm hH h1 h2 h3 h4).mono ?_;rintro e u' w8 ⟨rfl,rfl,A,c,H8,hsl⟩;have d1:=H8.b1.cell;have d2:=H8.b2.cell;unfold EC at d1;rw[aw]at h6 h7;refine(show Leaves _ _ _ _ [] .returning _ from ?_);refine⟨.tuple #[BU o A c, .int .i64 0],?_,hR A c _ H8.e hsl⟩;simp[results,results17,go_sem,h6,h7,d1,d2,BU]
end
section
def NZ {α:Type} (x:Except Er α):Prop:=match x with
 | .ok _=>True
 | .error e=>e.2≠0
theorem NZ.then {α β:Type} {x:Except Er α} {k:α->Except Er β} (h:NZ x) (hk: ∀a,NZ (k a)):NZ (CR.then x k):=by
 cases x with
 |error e=>exact h
 |ok a=>exact hk a
theorem t6 {α:Type} (a:α):NZ (.ok a:Except Er α):=trivial
theorem dX {α:Type} {c:Prop} [Decidable c] {x y:Except Er α} (h:NZ x) (h':NZ y):NZ (if c then x else y):=by split<;>assumption
theorem xA (g:Gl) (lo:Ls) (s:List UInt8):NZ (ot g lo s):=dX trivial (dX (by show(16:Int)≠0;decide) (by show(15:Int)≠0;decide))
theorem sM (g:Gl) (lo:Ls) (s:List UInt8):NZ (kq g lo s):=dX trivial (dX (by show(16:Int)≠0;decide) (by show(15:Int)≠0;decide))
mutual
theorem Df (g:Gl) (lo:Ls): ∀x:Ex,NZ (lw g lo x)
 | .mk k op nm tx v a=>by
  rw[lw];refine dX (xA _ _ _) (dX ((sM _ _ _).then fun _=>zP g lo a) (dX (by show(16:Int)≠0;decide) (dX ?_ (dX (zP g lo a) trivial))));split
  ·show(15:Int)≠0;decide
  ·exact dX (Dg g lo nm (ee nm) 0 a) (by show(16:Int)≠0;decide)
theorem zP (g:Gl) (lo:Ls): ∀l:List Ex,NZ (l7 g lo l)
 | []=>trivial
 |y::r=>by rw[l7];exact(Df g lo y).then fun _=>zP g lo r
theorem Dg (g:Gl) (lo:Ls) (nm:List UInt8) (b:Bi): ∀(i:Nat) (l:List Ex),NZ (na g lo nm b i l)
 | _,[]=>trivial
 |i,y::r=>by
  rw[na];exact(dX (Df g lo y) (dX (by show(16:Int)≠0;decide) (dX (sM _ _ _) (t6 _)))).then fun _=>Dg g lo nm b (i+1) r
end
mutual
theorem De (g:Gl): ∀(x:St) (lo:Ls),NZ (qr g lo x)
 | .mk k nm ex bd el,lo=>by
  rw[qr];exact(dX (xA _ _ _) (dX (sM _ _ _) (t6 _))).then fun _=>(zP g lo ex).then fun _=>(dX (dX (by show(9:Int)≠0;decide) (t6 _)) (t6 _)).then fun lo1=>(t7 g bd lo1).then fun lo2=>t7 g el lo2
theorem t7 (g:Gl): ∀(l:List St) (lo:Ls),NZ (fe g lo l)
 | [],lo=>trivial
 |s::r,lo=>by rw[fe];exact(De g s lo).then fun lo1=>t7 g r lo1
end
theorem Be (g:Gl): ∀(l:List (List UInt8)) (lo:Ls),NZ (mI g lo l)
 | [],lo=>trivial
 |s::r,lo=>by rw[mI];exact dX (by show(9:Int)≠0;decide) (Be g r _)
theorem tY: ∀(l:List Vr) (g:Gl),NZ (jp g l)
 | [],g=>trivial
 |v::r,g=>by rw[jp];exact dX (by show(9:Int)≠0;decide) (tY r _)
theorem tZ: ∀(l:List Fc) (g:Gl),NZ (gV g l)
 | [],g=>trivial
 |v::r,g=>by rw[gV];exact dX (by show(9:Int)≠0;decide) (tZ r _)
theorem Bf (g:Gl): ∀(l:List Fc),NZ (jd g l)
 | []=>trivial
 |f::r=>by rw[jd];exact(Be g _ _).then fun lo=>(t7 g _ lo).then fun _=>Bf g r
theorem xB: ∀(l:List Fc),NZ (fE l)
 | []=>trivial
 |f::r=>by rw[fE];exact dX (by show(6:Int)≠0;decide) (xB r)
theorem BV (p:Pg):NZ (fR p):=by
 unfold fR lF;refine NZ.then ((tY _ _).then fun g=>(tZ _ g).then fun g=> ?_) fun g=>(Bf g _).then fun _=>xB _;split
 ·show(_:Int)≠0;decide
 ·exact dX (by show(16:Int)≠0;decide) trivial
end
section
open Go.RowKit
def tp (p:Pg) (R:Rs) (steps:Int) (w:World) (e:Ending) (w':World):Prop:=aq w w'/\if(gH p).2=0 then ∃A c,e= .returned (.tuple #[BU (lM p R steps.toNat) A c, .int .i64 0])/\Sl w' A c (lM p R steps.toNat).data else e= .returned (.tuple #[.agg xz, .int .i64 1])
theorem wq {P:Program} {w:World} {o:Oper} {a:Act} {K:Act->World->Prop} {Q:Exit->Act->World->Prop} {t e:TypeId} (hT:oK P t e) (s c:Operand) (ho:o.op= .makeSlice t s c)
  (n:Nat) (hn:n<=1073741824) (kl kc:IntKind) (hs:a.eval s= .int kl (n:Int)) (hc:a.eval c= .int kc (n:Int))
  (h: ∀w',Rw w' w.heap.size e (List.replicate n 0)->aq w w'->w'.heap.size=w.heap.size+1->K (a.put o.dst (.slice (some ⟨w.heap.size,0,none⟩) n n)) w'):o.wp P a w K Q:=by
 obtain⟨w',hr,h1,h2,h3⟩:=uZ (P:=P) hT kl kc n hn w;unfold Oper.wp execOp;simp only[ho,Sem.run_bind,Sem.run_pure,hs,hc,hr,Result.andThen_ok];exact h w' h1 h2 h3
theorem yQ.mono {w:World} {P Q:Nat->Prop} {v:Value} {R:Rs} (h:yQ w P v R) (hQ: ∀b,P b->b<w.heap.size->Q b):yQ w Q v R:=by
 obtain⟨A,c,rfl,h⟩:=h;refine⟨A,c,rfl,h.imp id fun⟨h1,h2,b,o,ha,hP,hb,da,dc,hc⟩=>⟨h1,h2,b,o,ha,hQ b hP hb,hb,da,dc,fun i hi=> ?_⟩⟩;obtain⟨q0,q1,q2,q3⟩:=hc i hi;refine⟨q0,q1,q2,fun b2 o2 e hne=>hQ b2 (q3 b2 o2 e hne) ?_⟩;rcases q2.rd with h0|⟨b3,o3,e3,hb3,_⟩
 ·exact absurd h0 hne
 ·rw[e]at e3;injection e3 with e3;injection e3 with e3 _;omega
theorem zt {p:Pg} {R:Rs} {steps:Int} {w w':World} {o:Oc} {A:Option Addr} {c:Nat} (hE:aq w w') (hk:(gH p).2=0) (hr:lM p R steps.toNat=o) (hs:Sl w' A c o.data):tp p R steps w (.returned (.tuple #[BU o A c, .int .i64 0])) w':=by
 subst hr;refine⟨hE,?_⟩;rw[if_pos hk];exact⟨A,c,rfl,hs⟩
theorem zx {w:World} {P:Nat->Prop} {A:Option Addr} {n c:Nat} {vs:List Vr} (h:mc w P (.slice A n c) vs) (i:Nat) (hi:i<vs.length): ∃b o,A=some ⟨b,o,none⟩/\P b/\b<w.heap.size/\w.cell? ⟨b,o+i*2,none⟩=some (.string (ai vs[i].nm))/\w.cell? ⟨b,o+i*2+1,none⟩=some (.int .i64 vs[i].sz):=by
 obtain⟨A',c',e,h⟩:=h;injection e with e1 e2 e3;subst e1 e2 e3;rcases h with h|⟨_,_,b,o,rfl,hP,hb,hc⟩
 ·subst h;simp at hi
 ·exact⟨b,o,rfl,hP,hb,(hc i hi).1,(hc i hi).2⟩
theorem zb (p:Pg) (hw:lz p<=6000000) (hok:gZ p=true) (hck:fR p= .ok ()) (P:Nat->Prop) (w:World) (A B:Option Addr) (n c m d:Nat) (hV:mc w P (.slice A n c) p.vs) (hF:mm w P (.slice B m d) p.fs) (hT:du w w.heap.size) (hB:BT w) (R:Rs) (rv:Value) (hR:yQ w P rv R) (steps:Int) (hs1: -9223372036854775808<=steps) (hs2:steps<=9223372036854775807):
  Calls prog 17 #[.agg #[.slice A n c, .slice B m d],rv, .int .i64 steps] w (tp p R steps w):=by
 have hmm:= @run_makeMap prog;have hmf: ∀(fn:Fn) (first cap:Array Value) (w:World),(Instr.makeFunc fn first cap).run prog w= .ok (.func fn first cap) w:=fun _ _ _ _=>rfl;have hnV:n=p.vs.length:=by obtain⟨A',c',e,_⟩:=hV;injection e
 have hnF:m=p.fs.length:=by obtain⟨A',c',e,_⟩:=hF;injection e
 obtain⟨RA,rc,hrv,_⟩:=id hR;subst hrv;obtain⟨NR,hNR⟩: ∃x,R.length=x:=⟨_,rfl⟩
 rw[hNR]at hR⊢;obtain⟨NV,hNV⟩: ∃x,p.vs.length=x:=⟨_,rfl⟩
 obtain⟨NF,hNF⟩: ∃x,p.fs.length=x:=⟨_,rfl⟩
 have HNV:=G hNV;have HNF:=G hNF;rw[hNV]at hnV;rw[hNF]at hnF;subst hnV hnF
 have HVs:=G (show ∀v∈p.vs,v.nm.length<=1073741824/\v.sz<=2000 from fun v hv=>by
  have h1:=xo hv;unfold gZ at hok;simp only[ak]at hok;have h2:=List.all_eq_true.1 hok.1.1.1.1 v hv;unfold qW at h2;simp only[ak,decide_eq_true_eq]at h2
  exact⟨by omega,h2.2⟩)
 have HFs:=G (show ∀f∈p.fs,f.nm.length<=1073741824 from fun f hf=>by
  have h1:=nV hf;have h2:=tW (f:=f)
  omega)
 have HDV:=G (uo hck).1;have HDF:=G (uo hck).2;have HMP:=G (qQ hok hck).1;have HCX:=G (Dm R hok hck hw);have hnb:n<=20/\m<=20:=by
  unfold gZ at hok;simp only[ak,decide_eq_true_eq]at hok;omega
 obtain⟨hNVb,hNFb⟩:=hnb;have HW0:=G (xe w (.slice A n c) (.slice B m d) xz (.int .i64 0));have HV:=G (hV.keep (Q:=fun b=>b<w.heap.size) ⟨ah _,fun _ _ _=>rfl⟩ (fun b h1 h2=>h2));have HF:=G (hF.keep (Q:=fun b=>b<w.heap.size) ⟨ah _,fun _ _ _=>rfl⟩ (fun b h1 h2=>h2));have HRR:=G (hR.mono (Q:=fun b=>b<w.heap.size) fun b _ h=>h);have hck0:gH p=([],0):=by unfold gH;rw[if_pos hok,hck]
 have HCK:=G (fun W (h:aq w W)=>show Calls prog 13 #[.agg #[.slice A n c, .slice B m d]] W fun e w'=>e= .returned (.tuple #[.string ⟨#[]⟩, .int .i64 0])/\aq W w' from by
  have:=pD p hw (fun b=>b<w.heap.size) W A B n c m d (HV.out.keep (.of_ext h) (fun b hb _=>hb)) (HF.out.keep (.of_ext h) (fun b hb _=>hb)) (fU hT h) (hB.ext h);rw[hck0]at this
  exact this)
 have HK0:=G (show(gH p).2=0 by rw[hck0]);have HB:=G hB;have HSt:=G (ax hs1 hs2);have hg0:0<w.heap.size:=by obtain⟨t,fr,h⟩:=hB;exact(Array.getElem?_eq_some_iff.1 h).1
 have c0:=HW0.out.b0.cell;clear hV hF hT hB hok hck hR hs1 hs2 hNV hNF hNR hck0;go_enter_defers func17,ntmps17;go_wp2_with (go_at_call 13;refine(HCK.out _ HW0.out.e).mono ?_;rintro e w1 ⟨rfl,hE⟩;have HW1:=G (HW0.out.ex hE);have HPM:=G (BO w1 steps (.slice RA NR rc));have HE5:=G (((((O w1 (.map #[] 0)).alloc' (.map #[] 0)).alloc' (.map #[] 0)).alloc' (.cells #[.map (some w1.heap.size), .map (some (w1.heap.size+1)), .map (some (w1.heap.size+1+1)), .slice RA NR rc, .int .i64 steps, .int .i64 0, .int .i64 0, .int .i64 0, .int .i64 0, .int .i64 0, .int .i64 0, .slice none 0 0, .int .i64 0] 127)).alloc' (.cells #[.pointer (some ⟨w1.heap.size+1+1+1,0,none⟩)] 122));have HW5:=G (HW1.out.ex HE5.out);clear c0;have c0:=HW5.out.b0.cell;clear hE HCK HW0);clear c0;have HN0:=G (show w.heap.size+1+1<w1.heap.size from HW1.out.lt);generalize w1.heap.size=n0 at*;have e2:n0+1+1=n0+2:=rfl;have e3:n0+1+1+1=n0+3:=rfl;have e4:n0+1+1+1+1=n0+4:=rfl;simp only[e2,e3,e4]at*;have HP0:=G (show PM n0 steps (.slice RA NR rc) (gn (p.vs.take 0)) (fun _=>0) (ib []) _ from HPM.out.congr rfl rfl);clear HPM HE5 HW1
 go_loopw [34] (fun vi wr=> ∃(j:Nat) (rb:List UInt8->Nat),vi= .int .i64 (j:Int)/\j<=n/\Hid (RW w (.slice A n c) (.slice B m d) xz (.int .i64 0) wr)/\Hid (PM n0 steps (.slice RA NR rc) (gn (p.vs.take j)) rb (ib []) wr)) (fun vi _=>n-(intOf vi).toNat)
 case atStart=>exact⟨0,fun _=>0,rfl,aG _,HW5,HP0⟩
 case round=>
  obtain⟨j,rb,rfl,hj,HWj,HPj⟩:=hrel;generalize wr=wo at*;by_cases hlt:j<n
  ·have hlt':(j:Int)<n:=by omega
   have hjl:j<p.vs.length:=by have:=HNV.out;omega
   obtain⟨b,o,rfl,hb,hbs,h0,h1⟩:=zx HV.out j hjl;have hvs:=HVs.out _ (au hjl);have har:=v_ p.vs HDV.out j hjl;obtain⟨y,hy⟩: ∃y,p.vs[j]=y:=⟨_,rfl⟩
   rw[hy]at h0 h1 hvs;have har: ∀s,gn (p.vs.take (j+1)) s=if s=y.nm/\0<y.sz then List.replicate y.sz.toNat 0 else gn (p.vs.take j) s:=fun s=>by rw[har s,hy]
   have hpw:=qc p.vs (·.nm) HDV.out j hjl;rw[hy]at hpw;have hnone:gn (p.vs.take j) y.nm=[]:=pH _ _ hpw;clear hy hpw;obtain⟨nm,sz⟩:=y;simp only at h0 h1 hvs har hnone;have e0:=(HWj.out.e.cell b _ hbs).trans h0;have e1:=(HWj.out.e.cell b _ hbs).trans h1;have hAl:=O wo (.cells #[.string (ai nm), .int .i64 sz] 85);have HW1:=G (HWj.out.ex hAl);have HP1:=G (HPj.out.ext hAl);have HB1:=G (an wo 85 #[.string (ai nm), .int .i64 sz]);have hnm:=hvs.1;clear h0 h1 hAl;by_cases hsz:0<sz
   ·obtain⟨k,rfl⟩:=cD (show 0<=sz by omega);have hk:0<k:=by omega
    have harE:(fun s=>if s=nm then List.replicate k 0 else gn (p.vs.take j) s)=gn (p.vs.take (j+1)):=funext fun s=>by
     rw[har s];by_cases e:s=nm
     ·rw[if_pos e,if_pos ⟨e,hsz⟩,cV]
     ·rw[if_neg e,if_neg (fun h=>e h.1)]
    have HARE:=G harE;clear harE;have hk2:k<=2000:=by have:=hvs.2;omega
    have hf0:=HB1.out.cell;go_wp2_with fail;obtain⟨L,hL1,hL2⟩:=HP1.out.a;have HL1:=G hL1;have HL2:=G hL2;have hsw:n0+4<wo.heap.size:=HPj.out.lt;clear hL1 hL2 hf0;refine az 9 8 [(8,fun x=> ∃g,x= .slice (some ⟨g,0,none⟩) k k,fun x W=> ∃g,x= .slice (some ⟨g,0,none⟩) k k/\wo.heap.size<g/\Rw W g 5 (List.replicate k 0))] mixed (by kernel_rfl) ⟨fun x W W' ⟨g,e,hg,hr⟩ hE=>⟨g,e,hg,hr.ext hE⟩,trivial⟩ ?_
    iterate 8 (refine sx ?_ (fun w1 hU=> ?_) ?_;rotate_left;(focus have fm:=(HP1.out.m.ext hU.un).cell;have fg:=(HP1.out.g.ext hU.un).cell;have fv:=(HB1.out.ext hU.un).cell;clear hU;go_simp<;>with_reducible rfl);simp only[aY,aX,aW,aV,aU])
    refine bJ _ _ (by rfl) rfl ⟨_,0,rfl⟩ (by simp) (fun w6 hU hp K hK=> ?_) ?_
    ·have hz:=cJ hU.un;rw[World.size_alloc]at hz;clear hp hU;refine wq bt _ _ rfl k (by omega) .i64 .i64 rfl rfl fun w9 hr hE hs=> ?_;exact hK _ _ hE ⟨_,rfl⟩ ⟨_,rfl,by omega,hr⟩
    rintro _ ⟨g,rfl⟩;simp only[aY,aX,aW,aV,aU];intro w7 hw7 hp;obtain⟨g',eg,hgw,hrw⟩:=hp _ (.head _);injection eg with eg;injection eg with eg;injection eg with eg;subst eg;have HE7:=G hw7.un;have HRW:=G hrw;clear hp hw7 hrw;simp only[ac,ap];go_wp2_with (at_mapUpdate;refine cB EE rfl _ _ _ rfl (HL1.out.ext HE7.out) rfl (by unfold maxLen;omega) rfl _ rfl ?_;intro w8 hm8 hg8;have HP8:=G (((HP1.out.ext HE7.out).addA hk hk2 HL2.out (by omega) (fun s hs=>by have:=((HPj.out.row s hs).1).lt;omega) HRW.out hm8 hg8).congr HARE.out rfl);have HW8:=G ((HW1.out.ex HE7.out).mv (.of_grown (S:=fun b=>b=n0+2) hg8 fun b e=>by injection e with e;exact e.symm) fun b hb e=>by have:=HN0.out;omega);clear hm8 hg8);go_roundw
    case rel=>exact⟨j+1,_,by go_num,by omega,HW8,HP8⟩
    case measure=>simp[intOf];omega
   ·have hsz': ¬(0:Int)<sz:=hsz;have HP8:=G (HP1.out.congr (show _=gn (p.vs.take (j+1))from funext fun s=>by rw[har s,if_neg (fun h=>hsz h.2)]) rfl);have hf0:=HB1.out.cell;go_wp2_with fail;go_roundw
    case rel=>exact⟨j+1,_,by go_num,by omega,HW1,HP8⟩
    case measure=>simp[intOf];omega
  ·obtain rfl:j=n:=by omega
   have hlt': ¬(j:Int)<j:=by omega
   have hall:p.vs.take j=p.vs:=bU (by have:=HNV.out;omega);rw[hall]at HPj;have c0:=HWj.out.b0.cell;go_wp2_with fail;clear c0;have HP20:=G (show PM n0 steps (.slice RA NR rc) (gn p.vs) rb (ib (p.fs.take 0)) wo from HPj.out)
   go_loopw [54] (fun vi wr=> ∃(i:Nat),vi= .int .i64 (i:Int)/\i<=m/\Hid (RW w (.slice A j c) (.slice B m d) xz (.int .i64 0) wr)/\Hid (PM n0 steps (.slice RA NR rc) (gn p.vs) rb (ib (p.fs.take i)) wr)) (fun vi _=>m-(intOf vi).toNat)
   case atStart=>exact⟨0,rfl,aG _,HWj,HP20⟩
   case round=>
    obtain⟨i,rfl,hi,HWi,HPi⟩:=hrel;generalize wr=w2 at*;by_cases hli:i<m
    ·have hli':(i:Int)<m:=by omega
     have hil:i<p.fs.length:=by have:=HNF.out;omega
     obtain⟨b,o,pv,bv,rfl,hbs,hPb,h0,h1,h2,hRp,hRb⟩:=np HF.out i hil;have hfs:=HFs.out _ (au hil);have hfn:=yb p.fs HDF.out i hil;obtain⟨y,hy⟩: ∃y,p.fs[i]=y:=⟨_,rfl⟩
     have hfn: ∀s,ib (p.fs.take (i+1)) s=if s=y.nm then y else ib (p.fs.take i) s:=fun s=>by rw[hfn s,hy]
     rw[hy]at h0 hRp hRb hfs;clear hy;obtain⟨Ap,cp,hpv,hRp'⟩:=id hRp;obtain⟨Ab,cb,hbv,_⟩:=hRb.form;subst hpv hbv;have e0:=(HWi.out.e.cell b _ hbs).trans h0;have e1:=(HWi.out.e.cell b _ hbs).trans h1;have e2:=(HWi.out.e.cell b _ hbs).trans h2;have hAl:=O w2 (.cells #[.string (ai y.nm), .slice Ap y.ps.length cp, .slice Ab y.body.length cb] 59);have HW1:=G (HWi.out.ex hAl);have HP1:=G (HPi.out.ext hAl);have HB1:=G (an w2 59 #[.string (ai y.nm), .slice Ap y.ps.length cp, .slice Ab y.body.length cb]);have hq: ∀b,b<w.heap.size->b<n0:=fun b hb=>by have:=HN0.out;omega
     have HRP:=G ((hRp.keep (Q:=fun b=>b<n0) (.of_ext HWi.out.e) (fun b hb _=>hq b hb)).keep (.of_ext hAl) (Q:=fun b=>b<n0) fun b hb _=>hb);have HRB:=G ((hRb.keep (Q:=fun b=>b<n0) (.of_ext HWi.out.e) (fun b hb _=>hq b hb)).keep (.of_ext hAl) (Q:=fun b=>b<n0) fun b hb _=>hb);have HFE:=G (show(fun s=>if s=y.nm then y else ib (p.fs.take i) s)=ib (p.fs.take (i+1))from funext fun s=>(hfn s).symm);obtain⟨L,hL1,hL2⟩:=HP1.out.f;have HL1:=G hL1;have HL2:=G hL2;obtain⟨ynm,yps,ybd⟩:=y;simp only at e0 e1 e2 hfs HRP HRB HFE HB1 HP1 HW1 HL1 HL2;clear h0 h1 h2 hAl hL1 hL2 hRp hRp' hRb hfn hq;go_wp2_with fail;refine az 7 1 [] mixed (by kernel_rfl) trivial ?_
     iterate 7 (refine sx ?_ (fun w1 hU=> ?_) ?_;rotate_left;(focus have fm:=(HP1.out.m.ext hU.un).cell;have fg:=(HP1.out.g.ext hU.un).cell;have fv:=(HB1.out.ext hU.un).cell;clear hU;go_simp<;>with_reducible rfl);simp only[aY,aX,aW,aV,aU])
     intro w7 hw7 _;have HE7:=G hw7.un;clear hw7;simp only[ac,ap];have HL7:=G (show ∀s,∃pv bv,(L s).getD zF= .agg #[.string (ai (ib (p.fs.take i) s).nm),pv,bv]/\lC w7 (fun b=>b<n0) pv (ib (p.fs.take i) s).ps/\cR w7 (fun b=>b<n0) bv (ib (p.fs.take i) s).body from fun s=>let⟨pv,bv,e,q1,q2⟩:=HL2.out s;⟨pv,bv,e,q1.keep (.of_ext HE7.out) fun b hb _=>hb,q2.keep (.of_ext HE7.out) fun b hb _=>hb⟩);go_wp2_with (at_mapUpdate;refine cB ED rfl _ _ _ rfl (HL1.out.ext HE7.out) rfl (by unfold maxLen;omega) rfl _ rfl ?_;intro w8 hm8 hg8;have HP8:=G (((HP1.out.ext HE7.out).addF (f:=⟨ynm,yps,ybd⟩) HL7.out (HRP.out.keep (.of_ext HE7.out) fun b hb _=>hb) (HRB.out.keep (.of_ext HE7.out) fun b hb _=>hb) hm8 hg8).congr rfl HFE.out);have HW8:=G ((HW1.out.ex HE7.out).mv (.of_grown (S:=fun b=>b=n0) hg8 fun b e=>by injection e with e;exact e.symm) fun b hb e=>by have:=HN0.out;omega);clear hm8 hg8);go_roundw
     case rel=>exact⟨i+1,by go_num,by omega,HW8,HP8⟩
     case measure=>simp[intOf];omega
    ·obtain rfl:i=m:=by omega
     have hli': ¬(i:Int)<i:=by omega
     have half:p.fs.take i=p.fs:=bU (by have:=HNF.out;omega);rw[half]at HPi;go_wp2_with fail;obtain⟨X,hXg,hXh,hXl,hXm,hXf,hMA⟩:=Dc HPi.out HSt.out.1 HSt.out.2 ((HRR.out.keep (.of_ext HWi.out.e)).mono (Q:=fun b=>b<n0) (fun b hb _=>by have:=HN0.out;omega)) (HB.out.ext HWi.out.e) (by have:=HN0.out;omega);obtain⟨CF,hCF⟩: ∃x,fF (fun s l y=>st (cx p R) (2*steps.toNat) s l y) (ib p.fs bC) [] (CH p steps.toNat)=x:=⟨_,rfl⟩
     have HRL:=G (show lM p R steps.toNat=(match (CF.then fun v s=>(fW R s 0 (v%256) 0 0 []).then fun _ s=> .error s.long:ER Unit)with| .error o=>o| .ok (_,s)=>s.long)from by rw[<-hCF];rfl);have hP: ∀W,aq w2 W->Calls prog 48 #[.pointer (some ⟨n0+3,0,none⟩),X.fv bC, .slice none 0 0] W (tw X (cx p R) W CF):=fun W hE=>by
      have:=rk X (cx p R) (2*steps.toNat) (ob X (cx p R) _ (qa X (cx p R) HCX.out _ _ (ah _)).2) HCX.out bC (CH p steps.toNat) W none 0 [] (hMA.ext hE) (ah _) (yR.nil_ W _) (fun x hx=>by cases hx) (by rw[show((cx p R).fn bC).ps=[]from HMP.out];exact aG _);simp only[MX.p,hXg]at this;rw[show fF (fun s l y=>st (cx p R) (2*steps.toNat) s l y) ((cx p R).fn bC) [] (CH p steps.toNat)=CF from hCF]at this;exact this
     have HP:=G hP;have HMA:=G hMA;have HMF:=G (hMA.mf.ext (jh (aR w2)));have HX:=G (ax hXg (ax hXh (ax hXl (ax hXm hXf))));clear hP hMA hCF;have HLA:=G (fun(tmps:Array Value) (W:World) (o:Oc) (hW:RW w (.slice A j c) (.slice B i d) xz (.int .i64 0) W) (hm:aL W (n0+4) 122 #[.pointer (some ⟨n0+3,0,none⟩)]) (hH:gC X o W) (hr:lM p R steps.toNat=o) (k:Int) (hk:o.kind=k) (h6:tmps.getD 6 undef= .pointer (some ⟨w.heap.size+1,0,none⟩)) (h7:tmps.getD 7 undef= .pointer (some ⟨w.heap.size+1+1,0,none⟩))=>show Leaves prog Tryz.f17 tmps (tp p R steps w) [{target:= .fn (Fn.func 47) #[.pointer (some ⟨n0+4,0,none⟩), .pointer (some ⟨w.heap.size+1,0,none⟩), .pointer (some ⟨w.heap.size+1+1,0,none⟩)],args:= #[]}] (.panicking [{v:= .iface 129 (.agg #[.int .i64 k]),recovered:=false}]) W from sF h6 h7 hk hW (by rw[hXg];exact hm) hH (by have:=HN0.out;omega) (by omega) (by have:=HN0.out;omega) (by have:=HPi.out.lt;omega) (fun A c W' hE hs=>zt hE HK0.out hr hs));rcases CF with oc|⟨v,s2⟩
     ·have hrl:lM p R steps.toNat=oc:=HRL.out;have HPD:=G (HP.out _ (jh (aR w2)));have HLV:=G (fun(tmps:Array Value) (W:World) (hM:Mv X.S w2.drew W) (hH:gC X oc W) h6 h7=>HLA.out tmps W oc ((HWi.out.ex (jh (aR _))).mv hM (fun k hk hs=>by have:=HN0.out;have:=hs.1.1;omega)) (hM.blk HPi.out.m.drew (fun h=>h.1.2 hXm.symm)) hH hrl _ rfl h6 h7);have hmf2:=HMF.out;have c0:=hmf2.c0;rw[hXg,hXf]at c0;have fm:=(HPi.out.m.ext (jh (aR w2))).cell;have f2:(Instr.lookup 123 (.map (some n0)) (.string ⟨#[109,97,105,110]⟩) false).run prog w2.drew= .ok (X.fv bC) w2.drew:=by
       have:=hmf2.look (s:=bC) (by decide);rw[hXf]at this;exact this
      clear hmf2 HP hrl;refine j4 mixed ?_;refine bg [0,1] (by kernel_rfl) (by simp) (fun i hi=> ?_);have hi:i=0\/i=1:=by simpa using hi
      rcases hi with rfl|rfl
      ·refine aS rfl (by rfl) ?_;go_simp;try simp only[aY,aX,aW,aV,aU]
       refine bg [1] (by kernel_rfl) (by simp) (fun i hi=> ?_);obtain rfl:i=1:=by simpa using hi
       refine aS rfl (by rfl) ?_;go_simp;try simp only[aY,aX,aW,aV,aU]
       refine bg [2] (by kernel_rfl) (by simp) (fun i hi=> ?_);obtain rfl:i=2:=by simpa using hi
       refine aS rfl (by rfl) ?_;go_simp;try simp only[aY,aX,aW,aV,aU]
       refine bg [3] (by kernel_rfl) (by simp) (fun i hi=> ?_);obtain rfl:i=3:=by simpa using hi
       refine aS rfl (by rfl) ?_;go_simp;try simp only[aY,aX,aW,aV,aU]
       refine bg [4] (by kernel_rfl) (by simp) (fun i hi=> ?_);obtain rfl:i=4:=by simpa using hi
       refine aS rfl (by rfl) ?_;go_simp;try simp only[aY,aX,aW,aV,aU]
       refine bg [5] (by kernel_rfl) (by simp) (fun i hi=> ?_);obtain rfl:i=5:=by simpa using hi
       refine aS rfl (by rfl) ?_;go_simp;try simp only[aY,aX,aW,aV,aU]
       refine bg [6] (by kernel_rfl) (by simp) (fun i hi=> ?_);obtain rfl:i=6:=by simpa using hi
       refine aS rfl (by rfl) ?_;go_simp;refine HPD.out.mono ?_;intro e w7 h;obtain⟨hM,rfl,hH⟩:=h.err_;exact HLV.out _ w7 hM hH rfl rfl
      ·refine aS rfl (by rfl) ?_;go_simp;try simp only[aY,aX,aW,aV,aU]
       refine bg [0,2] (by kernel_rfl) (by simp) (fun i hi=> ?_);have hi:i=0\/i=2:=by simpa using hi
       rcases hi with rfl|rfl
       ·refine aS rfl (by rfl) ?_;go_simp;try simp only[aY,aX,aW,aV,aU]
        refine bg [2] (by kernel_rfl) (by simp) (fun i hi=> ?_);obtain rfl:i=2:=by simpa using hi
        refine aS rfl (by rfl) ?_;go_simp;try simp only[aY,aX,aW,aV,aU]
        refine bg [3] (by kernel_rfl) (by simp) (fun i hi=> ?_);obtain rfl:i=3:=by simpa using hi
        refine aS rfl (by rfl) ?_;go_simp;try simp only[aY,aX,aW,aV,aU]
        refine bg [4] (by kernel_rfl) (by simp) (fun i hi=> ?_);obtain rfl:i=4:=by simpa using hi
        refine aS rfl (by rfl) ?_;go_simp;try simp only[aY,aX,aW,aV,aU]
        refine bg [5] (by kernel_rfl) (by simp) (fun i hi=> ?_);obtain rfl:i=5:=by simpa using hi
        refine aS rfl (by rfl) ?_;go_simp;try simp only[aY,aX,aW,aV,aU]
        refine bg [6] (by kernel_rfl) (by simp) (fun i hi=> ?_);obtain rfl:i=6:=by simpa using hi
        refine aS rfl (by rfl) ?_;go_simp;refine HPD.out.mono ?_;intro e w7 h;obtain⟨hM,rfl,hH⟩:=h.err_;exact HLV.out _ w7 hM hH rfl rfl
       ·refine aS rfl (by rfl) ?_;go_simp;try simp only[aY,aX,aW,aV,aU]
        refine bg [0,3] (by kernel_rfl) (by simp) (fun i hi=> ?_);have hi:i=0\/i=3:=by simpa using hi
        rcases hi with rfl|rfl
        ·refine aS rfl (by rfl) ?_;go_simp;try simp only[aY,aX,aW,aV,aU]
         refine bg [3] (by kernel_rfl) (by simp) (fun i hi=> ?_);obtain rfl:i=3:=by simpa using hi
         refine aS rfl (by rfl) ?_;go_simp;try simp only[aY,aX,aW,aV,aU]
         refine bg [4] (by kernel_rfl) (by simp) (fun i hi=> ?_);obtain rfl:i=4:=by simpa using hi
         refine aS rfl (by rfl) ?_;go_simp;try simp only[aY,aX,aW,aV,aU]
         refine bg [5] (by kernel_rfl) (by simp) (fun i hi=> ?_);obtain rfl:i=5:=by simpa using hi
         refine aS rfl (by rfl) ?_;go_simp;try simp only[aY,aX,aW,aV,aU]
         refine bg [6] (by kernel_rfl) (by simp) (fun i hi=> ?_);obtain rfl:i=6:=by simpa using hi
         refine aS rfl (by rfl) ?_;go_simp;refine HPD.out.mono ?_;intro e w7 h;obtain⟨hM,rfl,hH⟩:=h.err_;exact HLV.out _ w7 hM hH rfl rfl
        ·refine aS rfl (by rfl) ?_;go_simp;try simp only[aY,aX,aW,aV,aU]
         refine bg [0,4] (by kernel_rfl) (by simp) (fun i hi=> ?_);have hi:i=0\/i=4:=by simpa using hi
         rcases hi with rfl|rfl
         ·refine aS rfl (by rfl) ?_;go_simp;try simp only[aY,aX,aW,aV,aU]
          refine bg [4] (by kernel_rfl) (by simp) (fun i hi=> ?_);obtain rfl:i=4:=by simpa using hi
          refine aS rfl (by rfl) ?_;go_simp;try simp only[aY,aX,aW,aV,aU]
          refine bg [5] (by kernel_rfl) (by simp) (fun i hi=> ?_);obtain rfl:i=5:=by simpa using hi
          refine aS rfl (by rfl) ?_;go_simp;try simp only[aY,aX,aW,aV,aU]
          refine bg [6] (by kernel_rfl) (by simp) (fun i hi=> ?_);obtain rfl:i=6:=by simpa using hi
          refine aS rfl (by rfl) ?_;go_simp;refine HPD.out.mono ?_;intro e w7 h;obtain⟨hM,rfl,hH⟩:=h.err_;exact HLV.out _ w7 hM hH rfl rfl
         ·refine aS rfl (by rfl) ?_;go_simp;try simp only[aY,aX,aW,aV,aU]
          refine bg [0,5] (by kernel_rfl) (by simp) (fun i hi=> ?_);have hi:i=0\/i=5:=by simpa using hi
          rcases hi with rfl|rfl
          ·refine aS rfl (by rfl) ?_;go_simp;try simp only[aY,aX,aW,aV,aU]
           refine bg [5] (by kernel_rfl) (by simp) (fun i hi=> ?_);obtain rfl:i=5:=by simpa using hi
           refine aS rfl (by rfl) ?_;go_simp;try simp only[aY,aX,aW,aV,aU]
           refine bg [6] (by kernel_rfl) (by simp) (fun i hi=> ?_);obtain rfl:i=6:=by simpa using hi
           refine aS rfl (by rfl) ?_;go_simp;refine HPD.out.mono ?_;intro e w7 h;obtain⟨hM,rfl,hH⟩:=h.err_;exact HLV.out _ w7 hM hH rfl rfl
          ·refine aS rfl (by rfl) ?_;go_simp;try simp only[aY,aX,aW,aV,aU]
           refine bg [0] (by kernel_rfl) (by simp) (fun i hi=> ?_);obtain rfl:i=0:=by simpa using hi
           refine aS rfl (by rfl) ?_;go_simp;try simp only[aY,aX,aW,aV,aU]
           refine bg [6] (by kernel_rfl) (by simp) (fun i hi=> ?_);obtain rfl:i=6:=by simpa using hi
           refine aS rfl (by rfl) ?_;go_simp;refine HPD.out.mono ?_;intro e w7 h;obtain⟨hM,rfl,hH⟩:=h.err_;exact HLV.out _ w7 hM hH rfl rfl
     ·refine jm X 7 8 [(6,fun x=>x= .int .i32 v,fun _ W=>MA X (cx p R) s2 W)] 6 mixed (by kernel_rfl) ⟨fun _ _ _ h hE=>h.ext hE,trivial⟩ ⟨.inl rfl,trivial⟩ ?_
      iterate 6 (refine sx ?_ (fun w1 hU=> ?_) ?_;rotate_left;(focus have hmf:=hU.2 HMF.out;have c0:=hmf.c0;rw[hXg,hXf]at c0;have fm:=(hU.1.un.blk HPi.out.m (fun h=>h.1.2 hXm.symm)).cell;have f2:(Instr.lookup 123 (.map (some n0)) (.string ⟨#[109,97,105,110]⟩) false).run prog w1= .ok (X.fv bC) w1:=(by have:=hmf.look (s:=bC) (by decide);rw[hXf]at this;exact this);clear hU hmf;go_simp<;>with_reducible rfl);simp only[aY,aX,aW,aV,aU])
      refine bH _ _ (by rfl) rfl ⟨_,rfl⟩ rfl (fun w6 hT hp K hK=> ?_) ?_
      ·clear hp;have hc:=HP.out w6 hT.un;clear hT;go_simp;refine hc.mono ?_;intro e w7 h;obtain⟨hM,rfl,hA⟩:=h.ok_;exact hK _ _ (UF.of_ma hM hA) rfl hA
      rintro _ rfl;simp only[aY,aX,aW,aV,aU];intro w8 hw8 hp;have HM8:=G hw8;have HA8:=G (hp _ (.head _));clear hw8 hp;simp only[ac,ap];have fm8:=(HM8.out.blk HPi.out.m (fun h=>h.1.2 hXm.symm)).cell;have hu8:IntKind.u8.wrap v=v%256:=by simp[IntKind.wrap,IntKind.signed,IntKind.bits]
      have hu64:IntKind.i64.wrap (v%256)=v%256:=by
       have h1:0<=v%256:=Int.emod_nonneg _ (by decide);have h2:v%256<256:=Int.emod_lt_of_pos _ (by decide);simp[IntKind.wrap,IntKind.signed,IntKind.bits];omega
      have HSY:=G (fun W (h:MA X (cx p R) s2 W)=>show Calls prog 49 #[.pointer (some ⟨n0+3,0,none⟩), .int .i64 0, .agg #[.int .i64 (v%256), .int .i64 0, .int .i64 0], .slice none 0 0] W (AS X (cx p R) W (fW R s2 0 (v%256) 0 0 []))from by
       have:=lS X (cx p R) s2 W h 0 (v%256) 0 0 [] none 0 (me W) (by simp) (fun b o e=>by cases e);simp only[MX.p,hXg]at this
       exact this)
      have HG:=G (fun W (hg:w8.grownBy W (some X.g))=>show Mv X.S w2 W from HM8.out.trans (.ms_g HA8.out.ok hg));have HLB:=G (fun(tmps:Array Value) (W:World) (o:Oc) (hM:Mv X.S w2 W) (hH:gC X o W) (hr:lM p R steps.toNat=o) k hk h6 h7=>HLA.out tmps W o (HWi.out.mv hM (fun k hk hs=>by have:=HN0.out;have:=hs.1.1;omega)) (hM.blk HPi.out.m (fun h=>h.1.2 hXm.symm)) hH hr k hk h6 h7);have hrl:=HRL.out;rw[eh]at hrl;rcases hs:fW R s2 0 (v%256) 0 0 []with oc|⟨r,s3⟩
      ·rw[hs]at hrl;have HRl:=G (show lM p R steps.toNat=oc from hrl);clear hrl;go_wp2_with (go_at_call 49;refine(HSY.out _ HA8.out).mono ?_;intro e w9 h;rw[hs]at h;obtain⟨hg,h⟩:=h;obtain⟨he,hH⟩:=h;unfold iy at he;subst he;have HMx:=G (HG.out _ hg);have HH:=G hH;clear hg hH HSY);exact HLB.out _ _ oc HMx.out HH.out HRl.out _ rfl rfl rfl
      ·rw[hs]at hrl;have HRl:=G (show lM p R steps.toNat=s3.long from hrl);clear hrl;go_wp2_with (go_at_call 49;refine(HSY.out _ HA8.out).mono ?_;intro e w9 h;rw[hs]at h;obtain⟨hg,h⟩:=h;obtain⟨hA9,da,dc,rfl,_,_⟩:=h;have HMx:=G (HG.out _ hg);have HH:=G (hA9.halt 3);clear hg hA9 HSY);exact HLB.out _ _ s3.long HMx.out HH.out HRl.out 3 rfl rfl rfl
end
section
open Go.RowKit
theorem Dn {p:Pg} (h:(gH p).2=0):gZ p=true/\fR p= .ok ():=by
 unfold gH at h;split at h
 ·rename_i hv;refine⟨hv,?_⟩;have hz:=BV p
  cases hc:fR p with
  |ok u=>rfl
  |error e=>
   rw[hc]at h hz;exact absurd h hz
 ·exact absurd h (by decide)
theorem wA (p:Pg) (hw:lz p<=6000000) (hbad:(gH p).2≠0) (P:Nat->Prop) (w:World) (A B:Option Addr) (n c m d:Nat) (hV:mc w P (.slice A n c) p.vs) (hF:mm w P (.slice B m d) p.fs) (hT:du w w.heap.size) (hB:BT w) (R:Rs) (rv:Value) (steps:Int):
  Calls prog 17 #[.agg #[.slice A n c, .slice B m d],rv, .int .i64 steps] w (tp p R steps w):=by
 have HW0:=G (xe w (.slice A n c) (.slice B m d) xz (.int .i64 0));have HV:=G (hV.keep (Q:=fun b=>b<w.heap.size) ⟨ah _,fun _ _ _=>rfl⟩ (fun b h1 h2=>h2));have HF:=G (hF.keep (Q:=fun b=>b<w.heap.size) ⟨ah _,fun _ _ _=>rfl⟩ (fun b h1 h2=>h2));have HCK:=G (fun W (h:aq w W)=>pD p hw (fun b=>b<w.heap.size) W A B n c m d (HV.out.keep (.of_ext h) (fun b hb _=>hb)) (HF.out.keep (.of_ext h) (fun b hb _=>hb)) (fU hT h) (hB.ext h));have HBad:=G hbad;have HFin:=G (fun(W:World) (hE:aq w W)=>show tp p R steps w (.returned (.tuple #[.agg xz, .int .i64 1])) W from⟨hE,by rw[if_neg hbad]⟩);have c0:=HW0.out.b0.cell;clear hV hF hT hB;obtain⟨cn,hcn⟩: ∃x,(gH p).1=x:=⟨_,rfl⟩
 obtain⟨ce,hce⟩: ∃x,(gH p).2=x:=⟨_,rfl⟩
 rw[hce]at hbad HCK;rw[hcn]at HCK;have hb:(ce !=0)=true:=by simpa using hbad
 clear hcn hce hbad;generalize tp p R steps w=Q at*;go_enter_defers func17,ntmps17;go_wp2_with (go_at_call 13;refine(HCK.out _ HW0.out.e).mono ?_;rintro e w1 ⟨rfl,hE⟩;have HW1:=G (HW0.out.ex hE);clear c0;have c1:=HW1.out.b1.cell;have z1:=HW1.out.b1.frozen;have c2:=HW1.out.b2.cell;have z2:=HW1.out.b2.frozen;clear hE HCK HW0);have HW2:=G (HW1.out.put (.int .i64 0) (.int .i64 0) (.int .i64 0) (.int .i64 0) (.int .i64 0) (.slice none 0 0) (.int .i64 0) (.int .i64 1));have d1:=HW2.out.b1.cell;have d2:=HW2.out.b2.cell;have hfin:=HFin.out _ HW2.out.e;refine⟨.tuple #[.agg xz, .int .i64 1],?_,hfin⟩;simp[results,results17,go_sem,d1,d2]
theorem wB (p:Pg) (hw:lz p<=6000000) (P:Nat->Prop) (w:World) (A B:Option Addr) (n c m d:Nat) (hV:mc w P (.slice A n c) p.vs) (hF:mm w P (.slice B m d) p.fs) (hT:du w w.heap.size) (hB:BT w) (R:Rs) (rv:Value) (hR:yQ w P rv R) (steps:Int) (hs1: -9223372036854775808<=steps) (hs2:steps<=9223372036854775807):
  Calls prog 17 #[.agg #[.slice A n c, .slice B m d],rv, .int .i64 steps] w (tp p R steps w):=by
 by_cases h:(gH p).2=0
 ·obtain⟨h1,h2⟩:=Dn h;exact zb p hw h1 h2 P w A B n c m d hV hF hT hB R rv hR steps hs1 hs2
 ·exact wA p hw h P w A B n c m d hV hF hT hB R rv steps
end
end Go.Proofs.YtddomeddabfinaaGreatDoor
