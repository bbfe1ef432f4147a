/-
  Parts of the proof: RcG RcH VrA VrB VrC.
-/
import Derived.Test.YtddomeddabfinaaGreatDoorTu00
import Derived.Deep.CutBlock
import Derived.Test.YtddomeddabfinaaGreatDoorTu44
import Derived.Test.YtddomeddabfinaaGreatDoorTu09
import Derived.Test.YtddomeddabfinaaGreatDoorTu08
set_option maxRecDepth 100000
set_option maxHeartbeats 8000000
set_option linter.unusedVariables false
set_option linter.unusedSimpArgs false
set_option linter.unusedSectionVars false
namespace Go.Proofs.YtddomeddabfinaaGreatDoor
open Go.Proofs.Tryz
section
open Go.RowKit
structure LG (g:Nat) (v:Value) (w:World) (v':Value) (w':World):Prop where
 mv:Mv (fun k=>k=g\/some k=v.ownBlock) w w'
 ow:v'.ownBlock=v.ownBlock\/ ∀k,v'.ownBlock=some k->w.heap.size<=k
section
variable {g:Nat} {v v1 v2:Value} {w w1 w2:World}
theorem LG.refl (g:Nat) (v:Value) (w:World):LG g v w v w:=⟨i7 _ _, .inl rfl⟩
theorem LG.ext (h:LG g v w v1 w1) (he:au w1 w2):LG g v w v1 w2:=⟨h.mv.trans (.of_ext he),h.ow⟩
theorem LG.trans (h:LG g v w v1 w1) (k:LG g v1 w1 v2 w2):LG g v w v2 w2:=by
 refine⟨h.mv.tr k.mv fun i hi hs=> ?_,?_⟩
 ·rcases hs with e|e
  ·exact .inl e
  ·rcases h.ow with q|q
   ·exact .inr (e.trans q)
   ·have:=q i e.symm;omega
 ·have hz:=h.mv.size;rcases k.ow with q|q
  ·rw[q];exact h.ow
  ·exact .inr fun i hi=>a_ hz (q i hi)
theorem LG.blk {b:Nat} {t:TypeId} {cs:Array Value} (h:LG g v w v1 w1) (hb:aO w b t cs) (h1:b≠g) (h2:v.ownBlock≠some b):aO w1 b t cs:=h.mv.blk hb fun e=>e.elim h1 fun e=>h2 e.symm
theorem LG.far (h:LG g v w v1 w1) {p:Addr} (hp:w.heap.size<=p.block) (u:Value):LG g v w v1 (w1.setCell p u):=⟨h.mv.set (fun hl=>by omega) u,h.ow⟩
end
structure qo (p:Pg) (P:Nat->Prop) (g base:Nat) (A B:Option Addr) (n c m d:Nat) (w0:World) (v0:Value) (bx byb:Nat) (cs:Array Value) (a:List UInt8) (b:Int) (C:Option Addr) (q e:Nat) (ls:List (List UInt8)) (W:World):Prop where
 lg:LG g v0 w0 (.slice C q e) W
 x:aO W bx 66 cs
 y:aO W byb 112 #[.string (ag a), .int .i64 b]
 rk:RK p P g base A B C n c m d q e ls W
 hx:w0.heap.size<=bx
 hy:bx<byb
 hg:g<w0.heap.size
 hb:g<base
 hP: ∀k,P k->k<g
 ow: ∀k,(Value.slice C q e).ownBlock=some k->k≠bx/\k≠byb
section
variable {p:Pg} {P:Nat->Prop} {g base:Nat} {A B C C':Option Addr} {n c m d q e q' e':Nat} {w0 W W':World} {v0:Value} {bx byb:Nat} {cs:Array Value} {a:List UInt8} {b:Int} {ls ls':List (List UInt8)}
theorem qo.ext (h:qo p P g base A B n c m d w0 v0 bx byb cs a b C q e ls W) (he:au W W'):qo p P g base A B n c m d w0 v0 bx byb cs a b C q e ls W':=
 ⟨h.lg.ext he,h.x.ext he,h.y.ext he,h.rk.ext he,h.hx,h.hy,h.hg,h.hb,h.hP,h.ow⟩
theorem RK.far (h:RK p P g base A B C n c m d q e ls W) {k:Nat} (hk:k≠g) (hP: ¬P k) (ho:(Value.slice C q e).ownBlock≠some k) (i:Nat) (u:Value):RK p P g base A B C n c m d q e ls (W.setCell ⟨k,i,none⟩ u):=by
 have hg:=ks W k i u;have hk':cP P W (W.setCell ⟨k,i,none⟩ u):= .of_grown hg (fun b hb e=>by injection e with e;subst e;exact hP hb);exact⟨h.blk.far (p:=⟨k,i,none⟩) (fun e=>hk e.symm) u,h.v.keep hk' (fun _ hb _=>hb),h.f.keep hk' (fun _ hb _=>hb),cm h.l (fun b _ hl hv=>hg.block b hl (fun e=>ho (by rw[hv,e])))⟩
theorem qo.put (h:qo p P g base A B n c m d w0 v0 bx byb cs a b C q e ls W) (a':List UInt8) (b':Int):qo p P g base A B n c m d w0 v0 bx byb cs a' b' C q e ls ((W.setCell ⟨byb,0,none⟩ (.string (ag a'))).setCell ⟨byb,1,none⟩ (.int .i64 b')):=by
 have h1:=h.hx;have h2:=h.hy;have h3:=h.hg;have hn: ¬P byb:=fun e=>by have:=h.hP _ e;omega
 have ho:(Value.slice C q e).ownBlock≠some byb:=fun e=>(h.ow _ e).2 rfl
 exact⟨(h.lg.far (p:=⟨byb,0,none⟩) (by show _<=byb;omega) _).far (p:=⟨byb,1,none⟩) (by show _<=byb;omega) _,
  (h.x.far (p:=⟨byb,0,none⟩) (by show bx≠byb;omega) _).far (p:=⟨byb,1,none⟩) (by show bx≠byb;omega) _,by simpa using(h.y.set 0 (.string (ag a'))).set 1 (.int .i64 b'),
  (h.rk.far (by omega) hn ho 0 _).far (by omega) hn ho 1 _,h.hx,h.hy,h.hg,h.hb,h.hP,h.ow⟩
theorem qo.call (h:qo p P g base A B n c m d w0 v0 bx byb cs a b C q e ls W) (hl:LG g (.slice C q e) W (.slice C' q' e') W') (hr:RK p P g base A B C' n c m d q' e' ls' W'):qo p P g base A B n c m d w0 v0 bx byb cs a b C' q' e' ls' W':=by
 have h1:=h.hx;have h2:=h.hy;have h3:=h.hg;have z1:=h.x.lt;have z2:=h.y.lt;refine⟨h.lg.trans hl,hl.blk h.x (by omega) (fun e=>(h.ow _ e).1 rfl),hl.blk h.y (by omega) (fun e=>(h.ow _ e).2 rfl),hr,h.hx,h.hy,h.hg,h.hb,h.hP,fun k hk=> ?_⟩;rcases hl.ow with q|q
 ·exact h.ow k (q▸hk)
 ·have:=q k hk;omega
end
def tN (p:Pg) (P:Nat->Prop) (g base:Nat) (A B:Option Addr) (n c m d:Nat) (w0:World) (v0:Value) (bx byb:Nat) (cs:Array Value) {α:Type} (r:Except Er α) (f:α->Ls) (L:Nat) (W:World):Prop:=
 ∃C q e ls,qo p P g base A B n c m d w0 v0 bx byb cs (ip r).1 (ip r).2 C q e ls W/\(∀a,r= .ok a->b7 ls=f a/\Dj p (f a))/\ls.length<=L
def Co (p:Pg) (P:Nat->Prop) (g base:Nat) (A B C:Option Addr) (n c m d q e LL:Nat) (w:World) (r:SR) (e1:Ending) (w':World):Prop:=match r with
 | .ok lo'=> ∃C' q' e' ls',e1= .returned (.agg #[.string ⟨#[]⟩, .int .i64 0])/\LG g (.slice C q e) w (.slice C' q' e') w'/\RK p P g base A B C' n c m d q' e' ls' w'/\b7 ls'=lo'/\ls'.length<=LL
 | .error (a,b)=> ∃C' q' e' ls',e1= .returned (.agg #[.string (ag a), .int .i64 b])/\LG g (.slice C q e) w (.slice C' q' e') w'/\RK p P g base A B C' n c m d q' e' ls' w'/\ls'.length<=LL
def A_ (p:Pg) (gl:Gl) (xs:List St):Prop:= ∀(P Q:Nat->Prop) (g base:Nat) (A B C:Option Addr) (n c m d q e:Nat) (ls:List (List UInt8)) (w:World) (D:Option Addr) (N l:Nat),RK p P g base A B C n c m d q e ls w->Dj p (b7 ls)->ls.length+dq xs<=1000000000->g<base->base<=w.heap.size->(∀k,P k->k<g)->(∀k,Q k->k<g)->cM w Q (.slice D N l) xs->
 Calls prog 44 #[.pointer (some ⟨g,0,none⟩), .slice D N l] w (Co p P g base A B C n c m d q e (ls.length+dq xs) w (dm gl (b7 ls) xs))
theorem zx {gl:Gl} {lo:Ls} {l:List St} {j:Nat} (h:j<l.length):dm gl lo (l.drop j)=CR.then (mO gl lo l[j]) fun lo1=>dm gl lo1 (l.drop (j+1)):=by
 rw[ay h,dm]
theorem tT {l:List St} {j:Nat} (h:j<l.length):dq (l.drop j)=l[j].wt+dq (l.drop (j+1)):=by
 rw[ay h,dq]
theorem oC {α:Type} {r:Except Er α} (h:NZ r):(∃a,r= .ok a/\ip r=([],0))\/ ∃a b,r= .error (a,b)/\ip r=(a,b)/\(b==(0:Int))=false:=by
 cases r with
 |ok u=>exact .inl ⟨u,rfl,rfl⟩
 |error e=>exact .inr ⟨e.1,e.2,rfl,rfl,beq_eq_false_iff_ne.2 h⟩
def zA (gl:Gl) (lo:Ls) (k:Int) (nm:List UInt8):CR:=if k=2 then gN gl lo nm else if k=3 then d9 gl lo nm else .ok ()
def yh (gl:Gl) (lo:Ls) (k:Int) (nm:List UInt8):SR:=if k=1 then(if gl.known lo nm=true then .error (nm,9)else .ok (lo.add nm))else .ok lo
theorem ro (gl:Gl) (lo:Ls) (k:Int) (nm:List UInt8) (ex:List Ex) (bd el:List St):mO gl lo (.mk k nm ex bd el)=CR.then (CR.then (CR.then (CR.then (zA gl lo k nm) fun _=>gX gl lo ex) fun _=>yh gl lo k nm) fun lo1=>dm gl lo1 bd) fun lo2=>dm gl lo2 el:=by
 rw[mO];unfold zA yh;generalize (if k=2 then gN gl lo nm else if k=3 then d9 gl lo nm else .ok ():CR)=r1
 cases r1 with
 |error e=>rfl
 |ok u=>
  simp only[dK];generalize gX gl lo ex=r2
  cases r2 with
  |error e=>rfl
  |ok u=>
   simp only[dK];generalize (if k=1 then(if gl.known lo nm=true then .error (nm,9)else .ok (lo.add nm))else .ok lo:SR)=r3
   cases r3<;>rfl
theorem zd (gl:Gl) (lo:Ls) (k:Int) (nm:List UInt8):NZ (zA gl lo k nm):=cV (q8 _ _ _) (cV (k_ _ _ _) (mA _))
theorem zc (gl:Gl) (lo:Ls) (k:Int) (nm:List UInt8):NZ (yh gl lo k nm):=cV (cV (by show(9:Int)≠0;decide) (mA _)) (mA _)
theorem uR {W:World} {k:Nat} {t:TypeId} {x y:Value} (h:aO W k t #[x,y]) (a b:Value):aO ((W.setCell ⟨k,0,none⟩ a).setCell ⟨k,1,none⟩ b) k t #[a,b]:=by simpa using(h.set 0 a).set 1 b
theorem rP {p:Pg} {P:Nat->Prop} {g base:Nat} {A B C C':Option Addr} {n c m d q e q' e':Nat} {ls':List (List UInt8)} {w w0 W:World} (hE:au w w0) (hz:w0.heap.size=w.heap.size+1) (hg:g<w.heap.size) (hP: ∀k,P k->k<g) (how: ∀k,(Value.slice C q e).ownBlock=some k->base<=k/\k<w.heap.size) (hl:LG g (.slice C q e) w0 (.slice C' q' e') W) (hr:RK p P g base A B C' n c m d q' e' ls' W) (a b:Value):
  LG g (.slice C q e) w (.slice C' q' e') ((W.setCell ⟨w.heap.size,0,none⟩ a).setCell ⟨w.heap.size,1,none⟩ b)/\RK p P g base A B C' n c m d q' e' ls' ((W.setCell ⟨w.heap.size,0,none⟩ a).setCell ⟨w.heap.size,1,none⟩ b):=by
 have h0:=((LG.refl g (.slice C q e) w).ext hE).trans hl;have ho:(Value.slice C' q' e').ownBlock≠some w.heap.size:=fun h=>by
  rcases hl.ow with q|q
  ·have:=(how _ (q▸h)).2;omega
  ·have:=q _ h;omega
 have hn: ¬P w.heap.size:=fun h=>by have:=hP _ h;omega
 exact⟨(h0.far (p:=⟨w.heap.size,0,none⟩) (an _) _).far (p:=⟨w.heap.size,1,none⟩) (an _) _,(hr.far (by omega) hn ho 0 _).far (by omega) hn ho 1 _⟩
section
variable {p:Pg} {gl:Gl} (hS:zY p) (hG:GL p gl)
include hS hG
theorem pu (xs:List St) (hw:dq xs<=1000000000) (hok:iM xs=true) (hIH: ∀s∈xs,A_ p gl s.body/\A_ p gl s.els):A_ p gl xs:=by
 intro P Q g base A B C n c m d q e ls w D N l hK hD hL hgb hbw hP hQ hR;obtain⟨D',l',hv,hf⟩:=hR.form;injection hv with hv1 hv2 hv3;subst hv1 hv2 hv3;have hxl:=cw xs;have hgw:g<w.heap.size:=hK.blk.lt;have how:=World.ownsRow.lt hK.l;have HR:=G hR;have HI:=G hIH;have HOK:=G hok;have HP:=G hP;have HQP:=G hQ;have HOW:=G how;obtain⟨N,hN⟩: ∃N,xs.length=N:=⟨_,rfl⟩
 have HN:=G hN;rw[hN]at HR hxl;obtain⟨R,hRR⟩: ∃R,dm gl (b7 ls) xs=R:=⟨_,rfl⟩
 have HS0:=G (show dm gl (b7 ls) (xs.drop 0)=R from hRR);obtain⟨LL,hLL⟩: ∃LL,ls.length+dq xs=LL:=⟨_,rfl⟩
 have HL0:=G (show ls.length+dq (xs.drop 0)<=LL from Nat.le_of_eq hLL);have hLLb:LL<=1000000000:=by omega
 obtain⟨w0,hw0⟩: ∃w0,w.alloc (.cells #[.string ⟨#[]⟩, .int .i64 0] 112)=w0:=⟨_,rfl⟩
 have hE0:au w w0:=hw0▸O w _;have hB0:aO w0 w.heap.size 112 #[.string ⟨#[]⟩, .int .i64 0]:=hw0▸ax w _ _;have hz0:w0.heap.size=w.heap.size+1:=by rw[<-hw0,World.size_alloc]
 have HE0:=G hE0;have HB0:=G hB0;have HZ0:=G hz0;have HBZ:=G (show base<=w0.heap.size from hz0▸Nat.le_succ_of_le hbw);have HG0:=G (LG.refl g (.slice C q e) w0);have HK0:=G (hK.ext hE0);have HD0:=G hD;have HFI:=G (fun(W:World)=>fy W);rw[hN,hRR,hLL];clear hK hR hIH hok hP hQ how hf hN hRR hLL hE0 hB0 hz0 hD hL;go_enter func44,ntmps44;go_wp2_with fail;clear hw0
 go_loopw [5] (fun vi wr=> ∃(j:Nat),vi= .int .i64 (j:Int)/\j<=N/\ ∃(C':Option Addr) (q' e':Nat) (ls':List (List UInt8)),Hid (dm gl (b7 ls') (xs.drop j)=R)/\Hid (ls'.length+dq (xs.drop j)<=LL)/\Hid (Dj p (b7 ls'))/\Hid (LG g (.slice C q e) w0 (.slice C' q' e') wr)/\Hid (RK p P g base A B C' n c m d q' e' ls' wr)) (fun vi _=>N-(intOf vi).toNat)
 case atStart=>exact⟨0,rfl,az _,C,q,e,ls,HS0,HL0,HD0,HG0,HK0⟩
 case round=>
  obtain⟨j,rfl,hj,C1,q1,e1,ls1,HSj,HLj,HDj,HGj,HKj⟩:=hrel;by_cases hlt:j<N
  ·have hlt':(j:Int)<N:=by omega
   have hjl:j<xs.length:=by have:=HN.out;omega
   obtain⟨b,o,ev,bv,lv,rfl,hb,hPb,h0,h1,h2,h3,h4,hRe,hRb2,hRl⟩:=HR.out.at_ j hjl;have hSd:=zx (gl:=gl) (lo:=b7 ls1) hjl;have hWd:=tT hjl;have hII:=HI.out _ (ai hjl);have hso:=jw (jA HOK.out _ (ai hjl));obtain⟨y,hy⟩: ∃y,xs[j]=y:=⟨_,rfl⟩
   rw[hy]at h0 h1 hRe hRb2 hRl hSd hWd hII hso;clear hy;obtain⟨k,nm,ex,bd,el⟩:=y;rw[ro]at hSd;rw[St.wt]at hWd;simp only[St.k,St.nm,St.ex,St.body,St.els]at h0 h1 hRe hRb2 hRl hII hso;obtain⟨A1,c1,rfl,_⟩:=hRe.form;obtain⟨A2,c2,rfl,_⟩:=hRb2.form;obtain⟨A3,c3,rfl,_⟩:=hRl.form;obtain⟨M,hM⟩: ∃m,ex.length=m:=⟨_,rfl⟩
   rw[hM]at h2 hRe;have HM:=G hM;have hMb:M<=1000000000:=by have:=bF ex;have:=HLj.out;omega
   have HKP:=G (fun(W:World) (v':Value) (hG:LG g (.slice C q e) w0 v' W)=>show cP Q w W from⟨a_ HE0.out.size hG.mv.size,fun k hk hl=>(hG.mv.block k (aF hl HE0.out.size) (fun e=>by
    rcases e with e|e
    ·have:=HQP.out k hk;omega
    ·have:=(HOW.out k e.symm).1;have:=HQP.out k hk;omega)).trans (HE0.out.obj hl)⟩)
   have hKP:=HKP.out _ _ HGj.out;have e0:=(hKP.cell _ hPb hb).trans h0;have e1':=(hKP.cell _ hPb hb).trans h1;have e2:=(hKP.cell _ hPb hb).trans h2;have e3:=(hKP.cell _ hPb hb).trans h3;have e4:=(hKP.cell _ hPb hb).trans h4;have HRe:=G hRe;have HRb:=G hRb2;have HRl:=G hRl;have HII:=G hII;have HSO:=G hso;have HSd:=G hSd;have HWd:=G hWd;have hzr:w0.heap.size<=wr.heap.size:=HGj.out.mv.size;have hrowj:=World.ownsRow.lt HKj.out.l;have HX0:=G (O wr (.cells #[.int .i64 k, .string (ag nm), .slice A1 M c1, .slice A2 bd.length c2, .slice A3 el.length c3] 66));have HX1:=G (ax wr 66 #[.int .i64 k, .string (ag nm), .slice A1 M c1, .slice A2 bd.length c2, .slice A3 el.length c3]);clear h0 h1 h2 h3 h4 hRe hRb2 hRl hII hso hSd hWd hM hKP HI HOK
   go_upto_region 6 with(go_at_call 81;refine(HFI.out _).mono ?_;rintro e5 w5 ⟨rfl,hE⟩;have HX2:=G (HX0.out.trans (hE.trans (O w5 (.cells #[.string ⟨#[]⟩, .int .i64 0] 112))));have HX3:=G (HX1.out.ext (hE.trans (O w5 (.cells #[.string ⟨#[]⟩, .int .i64 0] 112))));have HX4:=G (ax w5 112 #[.string ⟨#[]⟩, .int .i64 0]);have hz5:=HX1.out.lt;have hz6:=hE.size;clear hE HX0 HX1)
   have HQ0:=G (show qo p P g base A B n c m d w0 (.slice C q e) wr.heap.size w5.heap.size #[.int .i64 k, .string (ag nm), .slice A1 M c1, .slice A2 bd.length c2, .slice A3 el.length c3] [] 0 C1 q1 e1 ls1 (w5.alloc (.cells #[.string ⟨#[]⟩, .int .i64 0] 112))from
    ⟨HGj.out.ext HX2.out,HX3.out,HX4.out,HKj.out.ext HX2.out,hzr,by omega,by have:=HE0.out.size;omega,hgb,HP.out,fun z hz=>by have:=(hrowj z hz).2;omega⟩)
   generalize wr.heap.size=bx at*;generalize w5.heap.size=byb at*;generalize w5.alloc (.cells #[.string ⟨#[]⟩, .int .i64 0] 112)=w2 at*;have HL1:=G (show ls1.length+(1+gt ex+dq bd+dq el+dq (xs.drop (j+1)))<=LL by have:=HLj.out;have:=HWd.out;omega);have HSf:=G (HSd.out.symm.trans HSj.out);obtain⟨lo,hlo⟩: ∃lo,b7 ls1=lo:=⟨_,rfl⟩
   have HLo:=G hlo;rw[hlo]at HSf HDj;obtain⟨r1,hr1⟩: ∃r,zA gl lo k nm=r:=⟨_,rfl⟩
   have HN1:=G (show NZ r1 from hr1▸zd gl lo k nm)
   have HNV:=G (fun(W:World) (h:RK p P g base A B C1 n c m d q1 e1 ls1 W) (hk:k=2)=>show Calls prog 82 #[.pointer (some ⟨g,0,none⟩), .string (ag nm), .bool false] W fun e w'=>e= .returned (.agg #[.string (ag (ip r1).1), .int .i64 (ip r1).2])/\au W w' from by
    have:=gH hS h (by have:=HL1.out;omega) nm false;rw[hlo,nM hG HDj.out]at this;have e:r1=gN gl lo nm:=by rw[<-hr1];unfold zA;rw[if_pos hk]
    rw[e];exact this)
   have HNA:=G (fun(W:World) (h:RK p P g base A B C1 n c m d q1 e1 ls1 W) (hk:k=3)=>show Calls prog 82 #[.pointer (some ⟨g,0,none⟩), .string (ag nm), .bool true] W fun e w'=>e= .returned (.agg #[.string (ag (ip r1).1), .int .i64 (ip r1).2])/\au W w' from by
    have:=gH hS h (by have:=HL1.out;omega) nm true;rw[hlo,lc hG HDj.out]at this;have e:r1=d9 gl lo nm:=by rw[<-hr1];unfold zA;rw[if_neg (by omega),if_pos hk]
    rw[e];exact this)
   have HR1:=G (fun(h2:k≠2) (h3:k≠3)=>show r1= .ok () by rw[<-hr1];unfold zA;rw[if_neg h2,if_neg h3]);rw[hr1]at HSf;clear hlo hr1 HX2 HX3 HX4 hz5 hz6 hrowj HSd HSj HKj HGj hzr e0 e1' e2 e3 e4 HWd HLj;have f6:=HQ0.out.x.cell
   go_cut [27]from 9 to 116 (fun s27 wx=> ∃kb:Bool,s27= .bool kb/\Hid ((k==2||k==3)=kb)/\wx=w2)
   case first=>
    by_cases h2:k=2
    ·subst h2;go_wp2_with fail
     go_meet
     case rel=>exact⟨_,rfl,G rfl,rfl⟩
    ·have h2':(k==2)=false:=beq_eq_false_iff_ne.2 h2;by_cases h3:k=3
     ·subst h3;go_wp2_with fail
      go_meet
      case rel=>exact⟨_,rfl,G rfl,rfl⟩
     ·have h3':(k==3)=false:=beq_eq_false_iff_ne.2 h3;go_wp2_with fail
      go_meet
      case rel=>exact⟨_,rfl,G (by rw[h2',h3'];rfl),rfl⟩
   case rest=>
   obtain⟨kb,rfl,HKb,rfl⟩:=hcut;clear f6
   go_upto_if 27 with fail
   have f6:=HQ0.out.x.cell;have f7:=HQ0.out.y.cell;have z7:=HQ0.out.y.frozen
   go_cut []from 9 to 116 (fun wx=>tN p P g base A B n c m d w0 (.slice C q e) bx byb #[.int .i64 k, .string (ag nm), .slice A1 M c1, .slice A2 bd.length c2, .slice A3 el.length c3] r1 (fun _=>lo) ls1.length wx)
   case first=>
    have HYS:=G (fun(W:World) (h:qo p P g base A B n c m d w0 (.slice C q e) bx byb #[.int .i64 k, .string (ag nm), .slice A1 M c1, .slice A2 bd.length c2, .slice A3 el.length c3] [] 0 C1 q1 e1 ls1 W)=>show tN p P g base A B n c m d w0 (.slice C q e) bx byb #[.int .i64 k, .string (ag nm), .slice A1 M c1, .slice A2 bd.length c2, .slice A3 el.length c3] r1 (fun _=>lo) ls1.length ((W.setCell ⟨byb,0,none⟩ (.string (ag (ip r1).1))).setCell ⟨byb,1,none⟩ (.int .i64 (ip r1).2))from⟨_,_,_,_,h.put _ _,fun a _=>⟨HLo.out,HDj.out⟩,an _⟩);generalize (ip r1).1=ra at*;generalize (ip r1).2=rb at*;by_cases h2:k=2
    ·subst h2;obtain rfl:kb=true:=HKb.out.symm;go_wp2_with (go_at_call 82;refine(HNV.out _ HQ0.out.rk rfl).mono ?_;rintro e w3 ⟨rfl,hE⟩;have HQ1:=G (HQ0.out.ext hE);clear f7 z7 f6;have f7:=HQ1.out.y.cell;have z7:=HQ1.out.y.frozen;clear hE HNV)
     go_meet
     case rel=>exact HYS.out _ HQ1.out
    ·have h2':(k==2)=false:=beq_eq_false_iff_ne.2 h2;by_cases h3:k=3
     ·subst h3;obtain rfl:kb=true:=HKb.out.symm;go_wp2_with (go_at_call 82;refine(HNA.out _ HQ0.out.rk rfl).mono ?_;rintro e w3 ⟨rfl,hE⟩;have HQ1:=G (HQ0.out.ext hE);clear f7 z7 f6;have f7:=HQ1.out.y.cell;have z7:=HQ1.out.y.frozen;clear hE HNA)
      go_meet
      case rel=>exact HYS.out _ HQ1.out
     ·have h3':(k==3)=false:=beq_eq_false_iff_ne.2 h3;obtain rfl:kb=false:=by rw[<-HKb.out,h2',h3'];rfl
      have HSW:=G (show tN p P g base A B n c m d w0 (.slice C q e) bx byb #[.int .i64 k, .string (ag nm), .slice A1 M c1, .slice A2 bd.length c2, .slice A3 el.length c3] r1 (fun _=>lo) ls1.length _ from⟨_,_,_,_,by rw[HR1.out h2 h3];exact HQ0.out,fun a _=>⟨HLo.out,HDj.out⟩,an _⟩);go_wp2_with fail
      go_meet
      case rel=>exact HSW.out
   case rest=>
   clear f6 f7 z7 HNV HNA HR1 HQ0;have HC1:=G hcut;clear hcut;obtain⟨r2,hr2⟩: ∃r,(CR.then r1 fun _=>gX gl lo ex)=r:=⟨_,rfl⟩
   rw[hr2]at HSf;have HR2:=G hr2;have HR2n:=G (show NZ r2 from hr2▸HN1.out.then (fun _=>uZ gl lo ex));clear hr2
   go_upto_block 2 with fail
   go_cut []from 9 to 116 (fun wx=>tN p P g base A B n c m d w0 (.slice C q e) bx byb #[.int .i64 k, .string (ag nm), .slice A1 M c1, .slice A2 bd.length c2, .slice A3 el.length c3] r2 (fun _=>lo) ls1.length wx)
   case first=>
    go_wp2_with fail
    go_loopw [8] (fun vi wr=> ∃(i:Nat) (rr:CR),vi= .int .i64 (i:Int)/\i<=M/\Hid (NZ rr)/\Hid (CR.then rr (fun _=>gX gl lo (ex.drop i))=r2)/\Hid (tN p P g base A B n c m d w0 (.slice C q e) bx byb #[.int .i64 k, .string (ag nm), .slice A1 M c1, .slice A2 bd.length c2, .slice A3 el.length c3] rr (fun _=>lo) ls1.length wr)) (fun vi _=>M-(intOf vi).toNat)
    case atStart=>exact⟨0,r1,rfl,az _,HN1,HR2,HC1⟩
    case round=>
     obtain⟨i,rr,rfl,hi,HN2,HS2,HC2⟩:=hrel;obtain⟨C2,q2,e2,ls2,hsq,hnm,hln⟩:=HC2.out;have HSQ:=G hsq;have f6:=hsq.x.cell;have f7:=hsq.y.cell;have z7:=hsq.y.frozen;clear hsq;by_cases hli:i<M
     ·have hli':(i:Int)<M:=by omega
      rcases jz HN2.out with⟨hrr,hpr⟩|⟨ra,rb,hrr,hpr,hne⟩
      ·subst hrr;have hlo2:=hnm () rfl;have hil:i<ex.length:=by have:=HM.out;omega
       obtain⟨b2,o2,a2,rfl,hb2,hP2,h0,h1,h2,h3,h4,h5,hRa⟩:=HRe.out.at_ i hil;have HD1:=G (v8 (gl:=gl) (lo:=lo) hil);have hyw:=bX (ai hil);have HXE:=G (nE hS hG _ ex[i] (an _) (by have:=HL1.out;omega) (my HSO.out.1 _ (ai hil)));generalize ex[i]=y at*;obtain⟨B5,d5,rfl,_⟩:=hRa.form;have hkp:=HKP.out _ _ HSQ.out.lg;have g0:=(hkp.cell _ hP2 hb2).trans h0;have g1:=(hkp.cell _ hP2 hb2).trans h1;have g2:=(hkp.cell _ hP2 hb2).trans h2;have g3:=(hkp.cell _ hP2 hb2).trans h3;have g4:=(hkp.cell _ hP2 hb2).trans h4;have g5:=(hkp.cell _ hP2 hb2).trans h5
       have HCX:=G (show Calls prog 83 #[.pointer (some ⟨g,0,none⟩), .agg #[.int .i64 y.k, .string (ag y.op), .string (ag y.nm), .string (ag y.tx), .int .i64 y.v, .slice B5 y.args.length d5]] wr fun e w'=>e= .returned (qV (io gl lo y))/\au wr w' from by
        have:=HXE.out P Q g base A B C2 n c m d q2 e2 ls2 wr B5 _ d5 HSQ.out.rk (by rw[hlo2.1];exact hlo2.2) (by have:=HL1.out;omega) (hRa.keep hkp (fun b hb _=>hb));rw[hlo2.1]at this
        exact this)
       have HN3:=G (xp gl lo y);obtain⟨rn,hrn⟩: ∃r,io gl lo y=r:=⟨_,rfl⟩
       rw[hrn]at HCX HN3 HD1;unfold qV at HCX;have HS3:=G (show CR.then rn (fun _=>gX gl lo (ex.drop (i+1)))=r2 by rw[<-HS2.out,HD1.out];rfl);have HF:=G (fun(W:World) (h:qo p P g base A B n c m d w0 (.slice C q e) bx byb #[.int .i64 k, .string (ag nm), .slice (some ⟨b2,o2,none⟩) M c1, .slice A2 bd.length c2, .slice A3 el.length c3] [] 0 C2 q2 e2 ls2 W)=>show tN p P g base A B n c m d w0 (.slice C q e) bx byb #[.int .i64 k, .string (ag nm), .slice (some ⟨b2,o2,none⟩) M c1, .slice A2 bd.length c2, .slice A3 el.length c3] rn (fun _=>lo) ls1.length ((W.setCell ⟨byb,0,none⟩ (.string (ag (ip rn).1))).setCell ⟨byb,1,none⟩ (.int .i64 (ip rn).2))from⟨_,_,_,_,h.put _ _,fun a _=>hlo2,hln⟩);have HSQ:=G (show qo p P g base A B n c m d w0 (.slice C q e) bx byb #[.int .i64 k, .string (ag nm), .slice (some ⟨b2,o2,none⟩) M c1, .slice A2 bd.length c2, .slice A3 el.length c3] [] 0 C2 q2 e2 ls2 wr from HSQ.out);clear h0 h1 h2 h3 h4 h5 hRa hkp HXE hrn HD1 HS2 HN2 hnm hlo2 hyw hpr HC2;generalize (ip rn).1=ra at*;generalize (ip rn).2=rb at*;simp only[ip]at f7;go_wp2_with (go_at_call 83;refine HCX.out.mono ?_;rintro e w3 ⟨rfl,hE⟩;have HQ1:=G (HSQ.out.ext hE);clear f7 z7 f6;have f7:=HQ1.out.y.cell;have z7:=HQ1.out.y.frozen;clear hE HCX);go_roundw
       case rel=>exact⟨i+1,rn,by go_num,by omega,HN3,HS3,G (HF.out _ HQ1.out)⟩
       case measure=>simp[intOf];omega
      ·have HF:=G (show r2=rr by rw[<-HS2.out,hrr];rfl);rw[hpr]at f7;have hne':=kM hne;clear HN2 HS2 hnm hrr;go_wp2_with fail
       go_meet
       case rel=>exact HF.out▸HC2.out
     ·have hli': ¬(i:Int)<M:=by omega
      have HF:=G (show r2=rr by
       have:=HS2.out;rw[aB (l:=ex) (by have:=HM.out;omega)]at this;rw[<-this]
       cases rr<;>rfl)
      clear HN2 HS2 hnm;go_wp2_with fail
      go_meet
      case rel=>exact HF.out▸HC2.out
   case rest=>
   clear HC1 HR2 HN1;have HC2:=G hcut;clear hcut;have HN2:=G (show NZ r2 from HR2n.out);generalize wc=w3 at*;obtain⟨C2,q2,e2,ls2,hsq,hnm,hln⟩:=id HC2.out;have f6:=hsq.x.cell;have f7:=hsq.y.cell;have hrb:=show ∃b,(ip r2).2=b from⟨_,rfl⟩;obtain⟨rb2,hrb⟩:=hrb;have HRB:=G hrb;rw[hrb]at f7;clear hsq hnm hln hrb
   go_upto_region 12 with fail
   go_cut [61]from 9 to 116 (fun s61 wx=> ∃kb:Bool,s61= .bool kb/\Hid ((k==1&&rb2==0)=kb)/\wx=w3)
   case first=>
    by_cases h1:k=1
    ·subst h1
     cases hb0:(rb2==0)with
     |true=>
      go_wp2_with fail
      go_meet
      case rel=>exact⟨true,rfl,G (by rw[hb0];rfl),rfl⟩
     |false=>
      go_wp2_with fail
      go_meet
      case rel=>exact⟨false,rfl,G (by rw[hb0];rfl),rfl⟩
    ·have h1':(k==1)=false:=beq_eq_false_iff_ne.2 h1;go_wp2_with fail
     go_meet
     case rel=>exact⟨false,rfl,G (by rw[h1'];rfl),rfl⟩
   case rest=>
   obtain⟨kb,rfl,HKb,rfl⟩:=hcut;clear f6 f7
   go_upto_if 61 with fail
   obtain⟨r3,hr3⟩: ∃r,(CR.then r2 fun _=>yh gl lo k nm)=r:=⟨_,rfl⟩
   rw[hr3]at HSf;have HR3:=G hr3;have HN3:=G (show NZ r3 from hr3▸HN2.out.then (fun _=>zc gl lo k nm));clear hr3
   go_cut []from 9 to 116 (fun wx=>tN p P g base A B n c m d w0 (.slice C q e) bx byb #[.int .i64 k, .string (ag nm), .slice A1 M c1, .slice A2 bd.length c2, .slice A3 el.length c3] r3 (fun l=>l) (ls1.length+1) wx)
   case first=>
    obtain⟨C2,q2,e2,ls2,hsq,hnm,hln⟩:=id HC2.out
    cases kb with
    |false=>
     have HF:=G (show tN p P g base A B n c m d w0 (.slice C q e) bx byb #[.int .i64 k, .string (ag nm), .slice A1 M c1, .slice A2 bd.length c2, .slice A3 el.length c3] r3 (fun l=>l) (ls1.length+1) wc from by
      rcases jz HN2.out with⟨hrr,hpr⟩|⟨ra,rb,hrr,hpr,hne⟩
      ·have h1:k≠1:=fun h=>by
        have:=HKb.out;rw[<-HRB.out,hpr,h]at this;exact absurd this (by decide)
       have e3:r3= .ok lo:=by rw[<-HR3.out,hrr];show yh gl lo k nm=_;unfold yh;rw[if_neg h1]
       rw[e3];exact⟨C2,q2,e2,ls2,by rw[hrr]at hsq;exact hsq,fun a ha=>by injection ha with ha;subst ha;exact hnm () hrr,by omega⟩
      ·have e3:r3= .error (ra,rb):=by rw[<-HR3.out,hrr];rfl
       rw[e3]
       exact⟨C2,q2,e2,ls2,by rw[hrr]at hsq;exact hsq,fun a ha=>(by cases ha),by omega⟩)
     clear hsq hnm hln;go_wp2_with fail
     go_meet
     case rel=>exact HF.out
    |true=>
     have hkk:=HKb.out;rw[ak]at hkk;obtain⟨hk1,hk2⟩:=hkk;have hk1:k=1:=by simpa using hk1
     rcases jz HN2.out with⟨hrr,hpr⟩|⟨ra,rb,hrr,hpr,hne⟩
     ·rw[hrr]at hsq;obtain⟨hlo2,hdj2⟩:=hnm () hrr;have HQ:=G (show qo p P g base A B n c m d w0 (.slice C q e) bx byb #[.int .i64 k, .string (ag nm), .slice A1 M c1, .slice A2 bd.length c2, .slice A3 el.length c3] [] 0 C2 q2 e2 ls2 wc from hsq);have HNm:=G (show b7 ls2=lo from hlo2);have HL2:=G hln;have HE3:=G (show r3=if gl.known lo nm=true then .error (nm,9)else .ok (Ls.add lo nm) by rw[<-HR3.out,hrr];show yh gl lo k nm=_;unfold yh;rw[if_pos hk1]);have HKN:=G (show gl.known lo nm=(cX p nm||(decide (0<=tX p.vs nm)||lo nm)) by rw[jD hG,o8]);have HDA:=G (fun(h:gl.known lo nm=false)=>rj hG HDj.out h);have HCA:=G (fun(W:World) (h:RK p P g base A B C2 n c m d q2 e2 ls2 W)=>jL hS h nm);have HVA:=G (fun(W:World) (h:RK p P g base A B C2 n c m d q2 e2 ls2 W)=>kB p P W (.slice B m d) A n c h.v (by have:=hS.v;omega) nm)
      have HIN:=G (fun(W:World) (h:RK p P g base A B C2 n c m d q2 e2 ls2 W)=>show Calls prog 43 #[.slice C2 q2 e2, .string (ag nm)] W fun e w'=>e= .returned (.bool (lo nm))/\au W w' from by
       have:=kC ls2 _ W _ h.l.rd (by have:=HL1.out;omega) nm;rw[hlo2]at this
       exact this)
      generalize cX p nm=cb at*;generalize tX p.vs nm=vx at*;generalize lo nm=lb at*;obtain⟨kn,hkn⟩: ∃b,gl.known lo nm=b:=⟨_,rfl⟩
      rw[hkn]at HE3 HKN HDA;subst hk1;clear hsq hnm hln hlo2 hdj2 hkn hpr hrr hk2
      go_upto_region 13 with fail
      go_cut [84]from 62 to 98 (fun s84 wx=> ∃kb2:Bool,s84= .bool kb2/\Hid (kn=kb2)/\Hid (qo p P g base A B n c m d w0 (.slice C q e) bx byb #[.int .i64 1, .string (ag nm), .slice A1 M c1, .slice A2 bd.length c2, .slice A3 el.length c3] [] 0 C2 q2 e2 ls2 wx))
      case first=>
       cases cb with
       |true=>
        clear HVA HIN;refine am 23 1 [(3,fun v=>v= .bool true,fun _ _=>True),(11,fun v=>v= .int .i64 vx,fun _ _=>True),(21,fun v=>v= .bool lb,fun _ _=>True)] mixed (by kernel_rfl) ⟨fun _ _ _ _ _=>trivial,fun _ _ _ _ _=>trivial,fun _ _ _ _ _=>trivial,trivial⟩ ?_;repeat (first|(refine a7 (by rfl) ?_;simp only[aU,aT,aS,aR,aQ])|(refine sx ?_ (fun w1 hU=> ?_) ?_;rotate_left;(focus have hqu:=HQ.out.ext hU.un;have f1:=hqu.rk.blk.cell;have f2:=hqu.x.cell;clear hqu hU;go_simp<;>with_reducible rfl);simp only[aU,aT,aS,aR,aQ]))
        refine so (fun w6 hU hp K hK=> ?_) ?_
        ·have hc:=HCA.out w6 (HQ.out.ext hU.un).rk;clear hp hU;go_simp;refine hc.mono ?_;rintro e w7 ⟨rfl,hE⟩;exact hK _ _ hE rfl trivial
        rintro _ rfl;simp only[aU,aT,aS,aR,aQ];repeat (first|(refine a7 (by rfl) ?_;simp only[aU,aT,aS,aR,aQ])|(refine sx ?_ (fun w1 hU=> ?_) ?_;rotate_left;(focus have hqu:=HQ.out.ext hU.un;have f1:=hqu.rk.blk.cell;have f2:=hqu.x.cell;clear hqu hU;go_simp<;>with_reducible rfl);simp only[aU,aT,aS,aR,aQ]))
        intro w8 hw8 hp;clear hp;simp only[ab,aG];have HQ8:=G (HQ.out.ext hw8.un);clear hw8;go_wp2_with fail
        go_meet
        case rel=>exact⟨true,rfl,G (by rw[HKN.out];rfl),HQ8⟩
       |false=>
        by_cases hvx:0<=vx
        ·have hvd:=decide_eq_true hvx;rw[hvd]at HKN;clear HIN;refine am 23 1 [(3,fun v=>v= .bool false,fun _ _=>True),(11,fun v=>v= .int .i64 vx,fun _ _=>True),(21,fun v=>v= .bool lb,fun _ _=>True)] mixed (by kernel_rfl) ⟨fun _ _ _ _ _=>trivial,fun _ _ _ _ _=>trivial,fun _ _ _ _ _=>trivial,trivial⟩ ?_;repeat (first|(refine a7 (by rfl) ?_;simp only[aU,aT,aS,aR,aQ])|(refine sx ?_ (fun w1 hU=> ?_) ?_;rotate_left;(focus have hqu:=HQ.out.ext hU.un;have f1:=hqu.rk.blk.cell;have f2:=hqu.x.cell;clear hqu hU;go_simp<;>with_reducible rfl);simp only[aU,aT,aS,aR,aQ]))
         refine so (fun w6 hU hp K hK=> ?_) ?_
         ·have hc:=HCA.out w6 (HQ.out.ext hU.un).rk;clear hp hU;go_simp;refine hc.mono ?_;rintro e w7 ⟨rfl,hE⟩;exact hK _ _ hE rfl trivial
         rintro _ rfl;simp only[aU,aT,aS,aR,aQ];repeat (first|(refine a7 (by rfl) ?_;simp only[aU,aT,aS,aR,aQ])|(refine sx ?_ (fun w1 hU=> ?_) ?_;rotate_left;(focus have hqu:=HQ.out.ext hU.un;have f1:=hqu.rk.blk.cell;have f2:=hqu.x.cell;clear hqu hU;go_simp<;>with_reducible rfl);simp only[aU,aT,aS,aR,aQ]))
         refine so (fun w6 hU hp K hK=> ?_) ?_
         ·have hc:=HVA.out w6 (HQ.out.ext hU.un).rk;clear hp hU;go_simp;refine hc.mono ?_;rintro e w7 ⟨rfl,hE⟩;exact hK _ _ hE rfl trivial
         rintro _ rfl;simp only[aU,aT,aS,aR,aQ];repeat (first|(refine a7 (by rfl) ?_;simp only[aU,aT,aS,aR,aQ])|(refine sx ?_ (fun w1 hU=> ?_) ?_;rotate_left;(focus have hqu:=HQ.out.ext hU.un;have f1:=hqu.rk.blk.cell;have f2:=hqu.x.cell;clear hqu hU;go_simp<;>with_reducible rfl);simp only[aU,aT,aS,aR,aQ]))
         intro w8 hw8 hp;clear hp;simp only[ab,aG];have HQ8:=G (HQ.out.ext hw8.un);clear hw8;go_wp2_with fail
         go_meet
         case rel=>exact⟨true,rfl,G (by rw[HKN.out];rfl),HQ8⟩
        ·have hvd:=decide_eq_false hvx;rw[hvd]at HKN
         cases lb with
         |true=>
          refine am 23 1 [(3,fun v=>v= .bool false,fun _ _=>True),(11,fun v=>v= .int .i64 vx,fun _ _=>True),(21,fun v=>v= .bool true,fun _ _=>True)] mixed (by kernel_rfl) ⟨fun _ _ _ _ _=>trivial,fun _ _ _ _ _=>trivial,fun _ _ _ _ _=>trivial,trivial⟩ ?_;repeat (first|(refine a7 (by rfl) ?_;simp only[aU,aT,aS,aR,aQ])|(refine sx ?_ (fun w1 hU=> ?_) ?_;rotate_left;(focus have hqu:=HQ.out.ext hU.un;have f1:=hqu.rk.blk.cell;have f2:=hqu.x.cell;clear hqu hU;go_simp<;>with_reducible rfl);simp only[aU,aT,aS,aR,aQ]))
          refine so (fun w6 hU hp K hK=> ?_) ?_
          ·have hc:=HCA.out w6 (HQ.out.ext hU.un).rk;clear hp hU;go_simp;refine hc.mono ?_;rintro e w7 ⟨rfl,hE⟩;exact hK _ _ hE rfl trivial
          rintro _ rfl;simp only[aU,aT,aS,aR,aQ];repeat (first|(refine a7 (by rfl) ?_;simp only[aU,aT,aS,aR,aQ])|(refine sx ?_ (fun w1 hU=> ?_) ?_;rotate_left;(focus have hqu:=HQ.out.ext hU.un;have f1:=hqu.rk.blk.cell;have f2:=hqu.x.cell;clear hqu hU;go_simp<;>with_reducible rfl);simp only[aU,aT,aS,aR,aQ]))
          refine so (fun w6 hU hp K hK=> ?_) ?_
          ·have hc:=HVA.out w6 (HQ.out.ext hU.un).rk;clear hp hU;go_simp;refine hc.mono ?_;rintro e w7 ⟨rfl,hE⟩;exact hK _ _ hE rfl trivial
          rintro _ rfl;simp only[aU,aT,aS,aR,aQ];repeat (first|(refine a7 (by rfl) ?_;simp only[aU,aT,aS,aR,aQ])|(refine sx ?_ (fun w1 hU=> ?_) ?_;rotate_left;(focus have hqu:=HQ.out.ext hU.un;have f1:=hqu.rk.blk.cell;have f2:=hqu.x.cell;clear hqu hU;go_simp<;>with_reducible rfl);simp only[aU,aT,aS,aR,aQ]))
          refine so (fun w6 hU hp K hK=> ?_) ?_
          ·have hc:=HIN.out w6 (HQ.out.ext hU.un).rk;clear hp hU;go_simp;refine hc.mono ?_;rintro e w7 ⟨rfl,hE⟩;exact hK _ _ hE rfl trivial
          rintro _ rfl;simp only[aU,aT,aS,aR,aQ];repeat (first|(refine a7 (by rfl) ?_;simp only[aU,aT,aS,aR,aQ])|(refine sx ?_ (fun w1 hU=> ?_) ?_;rotate_left;(focus have hqu:=HQ.out.ext hU.un;have f1:=hqu.rk.blk.cell;have f2:=hqu.x.cell;clear hqu hU;go_simp<;>with_reducible rfl);simp only[aU,aT,aS,aR,aQ]))
          intro w8 hw8 hp;clear hp;simp only[ab,aG];have HQ8:=G (HQ.out.ext hw8.un);clear hw8;go_wp2_with fail
          go_meet
          case rel=>exact⟨true,rfl,G (by rw[HKN.out];rfl),HQ8⟩
         |false=>
          refine am 23 1 [(3,fun v=>v= .bool false,fun _ _=>True),(11,fun v=>v= .int .i64 vx,fun _ _=>True),(21,fun v=>v= .bool false,fun _ _=>True)] mixed (by kernel_rfl) ⟨fun _ _ _ _ _=>trivial,fun _ _ _ _ _=>trivial,fun _ _ _ _ _=>trivial,trivial⟩ ?_;repeat (first|(refine a7 (by rfl) ?_;simp only[aU,aT,aS,aR,aQ])|(refine sx ?_ (fun w1 hU=> ?_) ?_;rotate_left;(focus have hqu:=HQ.out.ext hU.un;have f1:=hqu.rk.blk.cell;have f2:=hqu.x.cell;clear hqu hU;go_simp<;>with_reducible rfl);simp only[aU,aT,aS,aR,aQ]))
          refine so (fun w6 hU hp K hK=> ?_) ?_
          ·have hc:=HCA.out w6 (HQ.out.ext hU.un).rk;clear hp hU;go_simp;refine hc.mono ?_;rintro e w7 ⟨rfl,hE⟩;exact hK _ _ hE rfl trivial
          rintro _ rfl;simp only[aU,aT,aS,aR,aQ];repeat (first|(refine a7 (by rfl) ?_;simp only[aU,aT,aS,aR,aQ])|(refine sx ?_ (fun w1 hU=> ?_) ?_;rotate_left;(focus have hqu:=HQ.out.ext hU.un;have f1:=hqu.rk.blk.cell;have f2:=hqu.x.cell;clear hqu hU;go_simp<;>with_reducible rfl);simp only[aU,aT,aS,aR,aQ]))
          refine so (fun w6 hU hp K hK=> ?_) ?_
          ·have hc:=HVA.out w6 (HQ.out.ext hU.un).rk;clear hp hU;go_simp;refine hc.mono ?_;rintro e w7 ⟨rfl,hE⟩;exact hK _ _ hE rfl trivial
          rintro _ rfl;simp only[aU,aT,aS,aR,aQ];repeat (first|(refine a7 (by rfl) ?_;simp only[aU,aT,aS,aR,aQ])|(refine sx ?_ (fun w1 hU=> ?_) ?_;rotate_left;(focus have hqu:=HQ.out.ext hU.un;have f1:=hqu.rk.blk.cell;have f2:=hqu.x.cell;clear hqu hU;go_simp<;>with_reducible rfl);simp only[aU,aT,aS,aR,aQ]))
          refine so (fun w6 hU hp K hK=> ?_) ?_
          ·have hc:=HIN.out w6 (HQ.out.ext hU.un).rk;clear hp hU;go_simp;refine hc.mono ?_;rintro e w7 ⟨rfl,hE⟩;exact hK _ _ hE rfl trivial
          rintro _ rfl;simp only[aU,aT,aS,aR,aQ];repeat (first|(refine a7 (by rfl) ?_;simp only[aU,aT,aS,aR,aQ])|(refine sx ?_ (fun w1 hU=> ?_) ?_;rotate_left;(focus have hqu:=HQ.out.ext hU.un;have f1:=hqu.rk.blk.cell;have f2:=hqu.x.cell;clear hqu hU;go_simp<;>with_reducible rfl);simp only[aU,aT,aS,aR,aQ]))
          intro w8 hw8 hp;clear hp;simp only[ab,aG];have HQ8:=G (HQ.out.ext hw8.un);clear hw8;go_wp2_with fail
          go_meet
          case rel=>exact⟨false,rfl,G (by rw[HKN.out];rfl),HQ8⟩
      case rest=>
      clear HQ HCA HVA HIN HKN;obtain⟨kb2,rfl,HKn,HQ⟩:=hcut;obtain rfl:kn=kb2:=HKn.out
      go_upto_if 84 with fail
      have f6:=HQ.out.x.cell;have f7:=HQ.out.y.cell;have z7:=HQ.out.y.frozen
      go_cut []from 62 to 98 (fun wx=>Hid (qo p P g base A B n c m d w0 (.slice C q e) bx byb #[.int .i64 1, .string (ag nm), .slice A1 M c1, .slice A2 bd.length c2, .slice A3 el.length c3] (if kn=true then nm else[]) (if kn=true then 9 else 0) C2 q2 e2 ls2 wx))
      case first=>
       cases kn with
       |true=>
        go_wp2_with fail
        go_meet
        case rel=>exact G (HQ.out.put nm 9)
       |false=>
        go_wp2_with fail
        go_meet
        case rel=>exact HQ
      case rest=>
      clear HQ f6 f7 z7;have HQ:=hcut;clear hcut
      go_upto_region 15 with fail
      generalize wc=w5 at*;have hgw5:g<w5.heap.size:=HQ.out.rk.blk.lt;have hrow:=World.ownsRow.lt HQ.out.rk.l;have hbg:bx≠g:=by have:=HQ.out.hx;have:=HQ.out.hg;omega
      have hob: ∀k,(Value.slice C2 q2 e2).ownBlock=some k->k≠bx/\k≠byb:=HQ.out.ow;have hOL:w5.ownsRow base 9 1 (.slice C2 q2 e2) q2 (eZ ls2):=by
       have h1:=HQ.out.rk.l;have h2:ls2.length=q2:=h1.rd.ln;unfold mU at h1;rwa [h2]at h1
      have hq2:ls2.length=q2:=HQ.out.rk.l.rd.ln;have HOL:=G hOL;have hq2b:q2<=1000000000:=by have:=HL1.out;have:=HL2.out;omega
      have hbz:base<=w5.heap.size\/base<=w5.heap.size:= .inl (by have:=HBZ.out;have:=HQ.out.lg.mv.size;omega);have hbz:base<=w5.heap.size:=hbz.elim id id;refine eo 9 1 [(7,fun v=> ∃gb,v= .slice (some ⟨gb,0,none⟩) 1 1,fun v wx=> ∀gb,v= .slice (some ⟨gb,0,none⟩) 1 1->w5.heap.size<=gb/\aO wx gb 9 #[.string (ag nm)]),(8,fun v=> ∃A' cap',v= .slice (some ⟨A',0,none⟩) (q2+1) cap',fun v wx=> ∀A' cap',v= .slice (some ⟨A',0,none⟩) (q2+1) cap'->wx.ownsRow base 9 1 (.slice (some ⟨A',0,none⟩) (q2+1) cap') (q2+1) (eZ ls2++[.string (ag nm)])/\(some A'=(Value.slice C2 q2 e2).ownBlock\/w5.heap.size<=A'))] 8 (Value.slice C2 q2 e2).ownBlock mixed (by kernel_rfl)
       ⟨fun _ _ _ h hx gb e=>⟨(h gb e).1,(h gb e).2.ext hx⟩,fun _ _ _ h hx A' cap' e=>⟨cm (h A' cap' e).1 (fun b _ hb _=>hx.obj hb),(h A' cap' e).2⟩,trivial⟩ ⟨.inr fun _ _ _ h hx gb e=>⟨(h gb e).1,(h gb e).2.grown hx (fun e'=>by have:=(h gb e).1;have:=(hrow gb e'.symm).2;omega)⟩, .inl rfl,trivial⟩ ?_
      repeat (refine sx ?_ (fun w1 hU=> ?_) ?_;rotate_left;(focus have f1:=(HQ.out.rk.blk.grown (aV hU) (fun e=>by have:=(hrow g e.symm).1;omega)).cell;have f2:=(HQ.out.x.grown (aV hU) (fun e=>(hob bx e.symm).1 rfl)).cell;clear hU;go_simp<;>with_reducible rfl);simp only[aU,aT,aS,aR,aQ])
      refine b6 _ _ (by rfl) rfl ⟨_,0,rfl⟩ (by simp) (fun w6 hU hp K hK=> ?_) ?_
      ·have hz6:=(aV hU).size;clear hp hU;go_simp;exact hK _ _ (O w6 _) ⟨_,rfl⟩ (fun gb e=>by injection e with e;injection e with e;injection e with e;subst e;exact⟨hz6,ax w6 _ _⟩)
      rintro _ ⟨gb,rfl⟩;simp only[aU,aT,aS,aR,aQ];refine eQ _ _ (by rfl) rfl ⟨_,0,0,rfl⟩ rfl (fun w6 hT hp K hK=> ?_) ?_
      ·obtain⟨hgb,hB3⟩:=hp _ (.head _) (by kernel_rfl) gb rfl;have hz6:=hT.un.size;have hO6:=cm HOL.out (fun b _ hb _=>hT.un.obj hb);clear hp hT;refine lO AX _ _ rfl base _ q2 (eZ ls2) rfl hO6 gb [.string (ag nm)] rfl hB3 rfl (by simp[Value.oneCell']) (by omega) (by decide) (by omega) ?_;intro A' cap' w9 hq1 hq2' hq3;exact hK _ _ hq2' ⟨A',cap',rfl⟩ (fun A2 cap2 e=>by injection e with e1 e2 e3;injection e1 with e1;injection e1 with e1;subst e1 e3;exact⟨hq1,hq3.imp id (fun h=>by omega)⟩)
      rintro _ ⟨A',cap',rfl⟩;simp only[aU,aT,aS,aR,aQ];intro w8 hw8 hp;obtain⟨ho8,hA8⟩:=hp _ (.head _) A' cap' rfl;clear hp;have hw8:=aV hw8;simp only[ab,ap];have hAb:base<=A':=by
       rcases hA8 with h|h
       ·exact(hrow A' h.symm).1
       ·omega
      have hb8:=HQ.out.rk.blk.grown hw8 (fun e=>by have:=(hrow g e.symm).1;omega);have hcc:=hb8.cell;have hff:=hb8.frozen;have hs8:=ks w8 g 2 (.slice (some ⟨A',0,none⟩) (q2+1) cap');have hb9:=hb8.set 2 (.slice (some ⟨A',0,none⟩) (q2+1) cap');have hmv:Mv (fun k=>k=g\/some k=(Value.slice C2 q2 e2).ownBlock) w5 (w8.setCell ⟨g,2,none⟩ (.slice (some ⟨A',0,none⟩) (q2+1) cap')):=
       (Mv.of_grown hw8 (fun k hk=> .inr hk.symm)).set (fun _=> .inl rfl) _
      have hkp:cP P w5 (w8.setCell ⟨g,2,none⟩ (.slice (some ⟨A',0,none⟩) (q2+1) cap')):=hmv.keepP (fun k hk hl hh=>by
       have:=HP.out k hk;rcases hh with h|h
       ·omega
       ·have:=(hrow k h.symm).1;omega)
      have HFin:=G (HQ.out.call (C':=some ⟨A',0,none⟩) (q':=q2+1) (e':=cap') (ls':=ls2++[nm]) ⟨hmv,hA8.imp (fun h=>h) (fun h k hk=>by injection hk with hk;subst hk;exact h)⟩
       ⟨by simpa using hb9,HQ.out.rk.v.keep hkp (fun _ hb _=>hb),HQ.out.rk.f.keep hkp (fun _ hb _=>hb),by
        have:=World.ownsRow.kept ho8 hs8 (.inr (fun e=>by have e:A'=g:=aw e;omega));unfold mU;rw[aa,hq2]
        simpa[eZ]using this⟩)
      have HSW:=G (show tN p P g base A B n c m d w0 (.slice C q e) bx byb #[.int .i64 1, .string (ag nm), .slice A1 M c1, .slice A2 bd.length c2, .slice A3 el.length c3] r3 (fun l=>l) (ls1.length+1) _ from⟨_,_,_,_,by
       have h:=HFin.out;rw[HE3.out]
       cases kn<;>exact h,fun a ha=>by
       rw[HE3.out]at ha
       cases hkn:kn with
       |true=>rw[hkn]at ha;cases ha
       |false=>
        rw[hkn]at ha;injection ha with ha;subst ha;refine⟨?_,HDA.out hkn⟩;funext s;rw[kI,kH,HNm.out,eI]
        rfl,by rw[aa];have:=HL2.out;simp;omega⟩)
      clear hw8 ho8 hA8 hb8 hs8 hb9 hmv hkp HFin hrow hob hOL;go_wp2_with fail
      go_meet
      case rel=>exact HSW.out
     ·exfalso
      have h9:rb2=rb:=by rw[<-HRB.out,hpr]
      rw[h9,hne]at hk2;exact absurd hk2 (by decide)
   case rest=>
   clear HC2 HKb HRB HN2 HR2n HR3;have HC3:=G hcut;clear hcut;generalize wc=w3x at*;obtain⟨r4,hr4⟩: ∃r,(CR.then r3 fun l1=>dm gl l1 bd)=r:=⟨_,rfl⟩
   rw[hr4]at HSf;have HR4:=G hr4;have HN4:=G (show NZ r4 from hr4▸HN3.out.then (fun l1=>mB gl bd l1));clear hr4;obtain⟨C3,q3,e3,ls3,hsq,hnm,hln⟩:=id HC3.out;have HSQ:=G hsq;obtain⟨pa,hpa⟩: ∃z,(ip r3).1=z:=⟨_,rfl⟩
   obtain⟨pb,hpb⟩: ∃z,(ip r3).2=z:=⟨_,rfl⟩
   rw[hpa,hpb]at HSQ;have HPB:=G (aq hpa hpb);have HNm:=G hnm;have HLn:=G hln;clear hsq hnm hln hpa hpb HC3;have f6:=HSQ.out.x.cell;have f7:=HSQ.out.y.cell;have z7:=HSQ.out.y.frozen
   go_upto_if 101 with fail
   go_cut []from 9 to 116 (fun wx=>tN p P g base A B n c m d w0 (.slice C q e) bx byb #[.int .i64 k, .string (ag nm), .slice A1 M c1, .slice A2 bd.length c2, .slice A3 el.length c3] r4 (fun l=>l) (ls1.length+1+dq bd) wx)
   case first=>
    rcases oC HN3.out with⟨lo3,hrr,hpr⟩|⟨ra,rb,hrr,hpr,hne⟩
    ·obtain⟨hl1,hl2⟩:=HNm.out lo3 hrr;have h1:pa=[]:=by rw[<-HPB.out.1,hpr]
     have h2:pb=0:=by rw[<-HPB.out.2,hpr]
     subst h1 h2;have hRb4:dm gl lo3 bd=r4:=by rw[<-HR4.out,hrr];rfl
     have HCS:=G (show Calls prog 44 #[.pointer (some ⟨g,0,none⟩), .slice A2 bd.length c2] _ (Co p P g base A B C3 n c m d q3 e3 (ls1.length+1+dq bd) _ r4)from by
      have h:=HII.out.1 P Q g base A B C3 n c m d q3 e3 ls3 _ A2 _ c2 HSQ.out.rk (by rw[hl1];exact hl2) (by have:=HL1.out;have:=HLn.out;omega) hgb (a_ HBZ.out HSQ.out.lg.mv.size) HP.out HQP.out (HRb.out.keep (HKP.out _ _ HSQ.out.lg) (fun b hb _=>hb));rw[hl1,hRb4]at h;refine h.mono fun e5 w5 h5=> ?_;have hle:=HLn.out
      cases r4 with
      |ok l5=>
       obtain⟨C',q',e',ls',g1,g2,g3,g4,g5⟩:=h5;exact⟨C',q',e',ls',g1,g2,g3,g4,by omega⟩
      |error er=>
       obtain⟨C',q',e',ls',g1,g2,g3,g5⟩:=h5
       exact⟨C',q',e',ls',g1,g2,g3,by omega⟩)
     have HDJ:=G (fun l5 (h5:r4= .ok l5)=>(kL hG bd lo3 l5 hl2 (hRb4.trans h5)).1);clear HR4 hrr hpr hl1 hl2 hRb4 HNm HLn HPB
     cases r4 with
     |ok l5=>
      go_wp2_with (go_at_call 44;refine HCS.out.mono ?_;rintro e w7 ⟨C',q',e',ls',rfl,g2,g3,g4,g5⟩;have HQ1:=G (HSQ.out.call g2 g3);have HG4:=G g4;have HG5:=G g5;clear f6 f7 z7;have f7:=HQ1.out.y.cell;have z7:=HQ1.out.y.frozen;clear g2 g3 g4 g5 HCS)
      go_meet
      case rel=>exact⟨_,_,_,_,HQ1.out.put [] 0,fun a ha=>by injection ha with ha;subst ha;exact⟨HG4.out,HDJ.out _ rfl⟩,HG5.out⟩
     |error er=>
      obtain⟨ea,eb⟩:=er;go_wp2_with (go_at_call 44;refine HCS.out.mono ?_;rintro e w7 ⟨C',q',e',ls',rfl,g2,g3,g5⟩;have HQ1:=G (HSQ.out.call g2 g3);have HG5:=G g5;clear f6 f7 z7;have f7:=HQ1.out.y.cell;have z7:=HQ1.out.y.frozen;clear g2 g3 g5 HCS)
      go_meet
      case rel=>exact⟨_,_,_,_,HQ1.out.put ea eb,fun a ha=>(by cases ha),HG5.out⟩
    ·have h1:pa=ra:=by rw[<-HPB.out.1,hpr]
     have h2:pb=rb:=by rw[<-HPB.out.2,hpr]
     subst h1 h2
     have HF:=G (show tN p P g base A B n c m d w0 (.slice C q e) bx byb #[.int .i64 k, .string (ag nm), .slice A1 M c1, .slice A2 bd.length c2, .slice A3 el.length c3] r4 (fun l=>l) (ls1.length+1+dq bd) _ from by
      have e5:r4= .error (pa,pb):=by rw[<-HR4.out,hrr];rfl
      rw[e5]
      exact⟨_,_,_,_,HSQ.out,fun a ha=>(by cases ha),by have:=HLn.out;omega⟩)
     clear HR4 hrr hpr HNm HLn HPB;go_wp2_with fail
     go_meet
     case rel=>exact HF.out
   case rest=>
   clear HN3 HR4 HSQ HPB HNm HLn f6 f7 z7;have HC4:=G hcut;clear hcut;generalize wc=w4x at*;obtain⟨r5,hr5⟩: ∃r,(CR.then r4 fun l1=>dm gl l1 el)=r:=⟨_,rfl⟩
   rw[hr5]at HSf;have HR5:=G hr5;have HN5:=G (show NZ r5 from hr5▸HN4.out.then (fun l1=>mB gl el l1));clear hr5;obtain⟨C4,q4,e4,ls4,hsq,hnm,hln⟩:=id HC4.out;have HSQ:=G hsq;obtain⟨pa,hpa⟩: ∃z,(ip r4).1=z:=⟨_,rfl⟩
   obtain⟨pb,hpb⟩: ∃z,(ip r4).2=z:=⟨_,rfl⟩
   rw[hpa,hpb]at HSQ;have HPB:=G (aq hpa hpb);have HNm:=G hnm;have HLn:=G hln;clear hsq hnm hln hpa hpb HC4;have f6:=HSQ.out.x.cell;have f7:=HSQ.out.y.cell;have z7:=HSQ.out.y.frozen
   go_upto_if 108 with fail
   go_cut []from 9 to 116 (fun wx=>tN p P g base A B n c m d w0 (.slice C q e) bx byb #[.int .i64 k, .string (ag nm), .slice A1 M c1, .slice A2 bd.length c2, .slice A3 el.length c3] r5 (fun l=>l) (ls1.length+1+dq bd+dq el) wx)
   case first=>
    rcases oC HN4.out with⟨lo4,hrr,hpr⟩|⟨ra,rb,hrr,hpr,hne⟩
    ·obtain⟨hl1,hl2⟩:=HNm.out lo4 hrr;have h1:pa=[]:=by rw[<-HPB.out.1,hpr]
     have h2:pb=0:=by rw[<-HPB.out.2,hpr]
     subst h1 h2;have hRb5:dm gl lo4 el=r5:=by rw[<-HR5.out,hrr];rfl
     have HCS:=G (show Calls prog 44 #[.pointer (some ⟨g,0,none⟩), .slice A3 el.length c3] _ (Co p P g base A B C4 n c m d q4 e4 (ls1.length+1+dq bd+dq el) _ r5)from by
      have h:=HII.out.2 P Q g base A B C4 n c m d q4 e4 ls4 _ A3 _ c3 HSQ.out.rk (by rw[hl1];exact hl2) (by have:=HL1.out;have:=HLn.out;omega) hgb (a_ HBZ.out HSQ.out.lg.mv.size) HP.out HQP.out (HRl.out.keep (HKP.out _ _ HSQ.out.lg) (fun b hb _=>hb));rw[hl1,hRb5]at h;refine h.mono fun e5 w5 h5=> ?_;have hle:=HLn.out
      cases r5 with
      |ok l5=>
       obtain⟨C',q',e',ls',g1,g2,g3,g4,g5⟩:=h5;exact⟨C',q',e',ls',g1,g2,g3,g4,by omega⟩
      |error er=>
       obtain⟨C',q',e',ls',g1,g2,g3,g5⟩:=h5
       exact⟨C',q',e',ls',g1,g2,g3,by omega⟩)
     have HDJ:=G (fun l5 (h5:r5= .ok l5)=>(kL hG el lo4 l5 hl2 (hRb5.trans h5)).1);clear HR5 hrr hpr hl1 hl2 hRb5 HNm HLn HPB
     cases r5 with
     |ok l5=>
      go_wp2_with (go_at_call 44;refine HCS.out.mono ?_;rintro e w7 ⟨C',q',e',ls',rfl,g2,g3,g4,g5⟩;have HQ1:=G (HSQ.out.call g2 g3);have HG4:=G g4;have HG5:=G g5;clear f6 f7 z7;have f7:=HQ1.out.y.cell;have z7:=HQ1.out.y.frozen;clear g2 g3 g4 g5 HCS)
      go_meet
      case rel=>exact⟨_,_,_,_,HQ1.out.put [] 0,fun a ha=>by injection ha with ha;subst ha;exact⟨HG4.out,HDJ.out _ rfl⟩,HG5.out⟩
     |error er=>
      obtain⟨ea,eb⟩:=er;go_wp2_with (go_at_call 44;refine HCS.out.mono ?_;rintro e w7 ⟨C',q',e',ls',rfl,g2,g3,g5⟩;have HQ1:=G (HSQ.out.call g2 g3);have HG5:=G g5;clear f6 f7 z7;have f7:=HQ1.out.y.cell;have z7:=HQ1.out.y.frozen;clear g2 g3 g5 HCS)
      go_meet
      case rel=>exact⟨_,_,_,_,HQ1.out.put ea eb,fun a ha=>(by cases ha),HG5.out⟩
    ·have h1:pa=ra:=by rw[<-HPB.out.1,hpr]
     have h2:pb=rb:=by rw[<-HPB.out.2,hpr]
     subst h1 h2
     have HF:=G (show tN p P g base A B n c m d w0 (.slice C q e) bx byb #[.int .i64 k, .string (ag nm), .slice A1 M c1, .slice A2 bd.length c2, .slice A3 el.length c3] r5 (fun l=>l) (ls1.length+1+dq bd+dq el) _ from by
      have e5:r5= .error (pa,pb):=by rw[<-HR5.out,hrr];rfl
      rw[e5]
      exact⟨_,_,_,_,HSQ.out,fun a ha=>(by cases ha),by have:=HLn.out;omega⟩)
     clear HR5 hrr hpr HNm HLn HPB;go_wp2_with fail
     go_meet
     case rel=>exact HF.out
   case rest=>
   clear HN4 HR5 HSQ HPB HNm HLn f6 f7 z7;have HC5:=G hcut;clear hcut;generalize wc=w5x at*;obtain⟨C5,q5,e5,ls5,hsq,hnm,hln⟩:=id HC5.out;have HSQ:=G hsq;obtain⟨pa,hpa⟩: ∃z,(ip r5).1=z:=⟨_,rfl⟩
   obtain⟨pb,hpb⟩: ∃z,(ip r5).2=z:=⟨_,rfl⟩
   rw[hpa,hpb]at HSQ;have HNm:=G hnm;have HLn:=G hln;have f7:=HSQ.out.y.cell;have hrc:=HSQ.out.lg.blk HB0.out (by omega) (fun e=>by have:=(HOW.out _ e).2;omega);have f4:=hrc.cell;have z4:=hrc.frozen;have HRC:=G hrc;rcases oC HN5.out with⟨lo5,hrr,hpr⟩|⟨ra,rb,hrr,hpr,hne⟩
   ·obtain⟨hl1,hl2⟩:=hnm lo5 hrr;have h1:pa=[]:=by rw[<-hpa,hpr]
    have h2:pb=0:=by rw[<-hpb,hpr]
    subst h1 h2;have HS9:=G (show dm gl (b7 ls5) (xs.drop (j+1))=R by rw[<-HSf.out,hrr,hl1];rfl);have HL9:=G (show ls5.length+dq (xs.drop (j+1))<=LL by have:=HL1.out;omega);have HD9:=G (show Dj p (b7 ls5) by rw[hl1];exact hl2);clear hsq hnm hln hpa hpb hrr hpr hl1 hl2 HC5 HN5 HNm HLn HSf HRC hrc;go_wp2_with fail;go_roundw
    case rel=>exact⟨j+1,by go_num,by omega,C5,q5,e5,ls5,HS9,HL9,HD9,G HSQ.out.lg,G HSQ.out.rk⟩
    case measure=>simp[intOf];omega
   ·have h1:pa=ra:=by rw[<-hpa,hpr]
    have h2:pb=rb:=by rw[<-hpb,hpr]
    subst h1 h2;have hne':=kM hne;have HRe5:=G (show R= .error (pa,pb) by rw[<-HSf.out,hrr];rfl);have HLf:=G (show ls5.length<=LL by have:=HL1.out;omega);clear hsq hnm hln hpa hpb hrr hpr HC5 HN5 HNm HLn HSf hrc;go_wp2_with fail;have hfin:=rP HE0.out HZ0.out hgw HP.out HOW.out HSQ.out.lg HSQ.out.rk (.string (ag pa)) (.int .i64 pb);have hcz:=uR HRC.out (.string (ag pa)) (.int .i64 pb);have cz:=hcz.cell;exact bodyPost_ret (v:= .agg #[.string (ag pa), .int .i64 pb]) (by simp[results,results44,go_sem,cz]) rfl (by rw[HRe5.out];exact⟨C5,q5,e5,ls5,rfl,hfin.1,hfin.2,HLf.out⟩)
  ·have hlt': ¬(j:Int)<N:=by omega
   have hrc:=HGj.out.blk HB0.out (by omega) (fun e=>by have:=(HOW.out _ e).2;omega);have f4:=hrc.cell;have z4:=hrc.frozen;have HRC:=G hrc
   have HRe5:=G (show R= .ok (b7 ls1) by
    have:=HSj.out;rw[aB (by have:=HN.out;omega),dm]at this
    exact this.symm)
   have HLf:=G (show ls1.length<=LL by have:=HLj.out;omega);clear hrc;go_wp2_with (go_at_call 81;refine(HFI.out _).mono ?_;rintro e5 w5 ⟨rfl,hE⟩;have HGk:=G (HGj.out.ext hE);have HKk:=G (HKj.out.ext hE);have HRD:=G (HRC.out.ext hE);clear f4 z4;have f4:=HRD.out.cell;have z4:=HRD.out.frozen;clear hE);have hfin:=rP HE0.out HZ0.out hgw HP.out HOW.out HGk.out HKk.out (.string ⟨#[]⟩) (.int .i64 0);have hcz:=uR HRD.out (.string ⟨#[]⟩) (.int .i64 0);have cz:=hcz.cell;exact bodyPost_ret (v:= .agg #[.string ⟨#[]⟩, .int .i64 0]) (by simp[results,results44,go_sem,cz]) rfl (by rw[HRe5.out];exact⟨C1,q1,e1,ls1,rfl,hfin.1,hfin.2,rfl,HLf.out⟩)
theorem kd: ∀(m:Nat) (xs:List St),dq xs<=m->dq xs<=1000000000->iM xs=true->A_ p gl xs
 |0,xs,h,hw,hok=>pu hS hG xs hw hok (fun s hs=>by have:=bq hs;have:=s.wt_eq;omega)
 |m+1,xs,h,hw,hok=>pu hS hG xs hw hok (fun s hs=>⟨kd m s.body (by have:=bq hs;have:=s.wt_eq;omega) (by have:=bq hs;have:=s.wt_eq;omega) (jw (jA hok s hs)).2.1,kd m s.els (by have:=bq hs;have:=s.wt_eq;omega) (by have:=bq hs;have:=s.wt_eq;omega) (jw (jA hok s hs)).2.2⟩)
end
end
section
open Go.RowKit
def et (p:Pg):List (List UInt8):=p.vs.map (·.nm)++p.fs.map (·.nm)
theorem AG {p:Pg} {j:Nat} (h:j<p.vs.length):(et p)[j]? =some p.vs[j].nm:=by
 unfold et;rw[cJ (by simpa using h)];simp[h]
theorem AH {p:Pg} {j:Nat} (h:p.vs.length<=j) (h2:j-p.vs.length<p.fs.length):(et p)[j]? =some p.fs[j-p.vs.length].nm:=by
 unfold et;rw[cu (by simpa using h)];simp[h2]
theorem nq {l:List (List UInt8)} {j:Nat} {n:List UInt8} (h:l[j]? =some n):fB (l.take j) (l.drop j)=if(o6 n||b7 (l.take j) n)=true then .error (n,9)else fB (l.take (j+1)) (l.drop (j+1)):=by
 obtain⟨hl,hn⟩:=List.getElem?_eq_some_iff.1 h;rw[ay hl,hn,fB,aD hl,hn];rfl
theorem nL (a b:List (List UInt8)):eZ (a++b)=eZ a++eZ b:=by simp[eZ]
def mF (p:Pg):CR:=match iW p.fs bL with
 |none=> .error (bL,8)
 |some f=>if 0<f.ps.length then .error (bL,16)else .ok ()
theorem tj (p:Pg):iU p=CR.then (fB ((et p).take 0) ((et p).drop 0)) fun _=>mF p:=rfl
theorem RC.grow {w W W':World} {x y:Value} {row:Option Nat} (h:RC w (w.heap.size+1) x y W) (hg:W.grownBy W' row) (hr: ∀k,row=some k->w.heap.size+2<=k):RC w (w.heap.size+1) x y W':=
 ⟨h.e.grown hg (fun k e=>by have:=hr k e;omega),h.b.grown hg (fun e=>by have:=hr _ e.symm;omega),h.h⟩
theorem qO (p:Pg) (hS:zY p) (P:Nat->Prop) (w:World) (A B:Option Addr) (n c m d:Nat) (hV:fH w P (.slice A n c) p.vs) (hF:fO w P (.slice B m d) p.fs):
  Calls prog 40 #[.agg #[.slice A n c, .slice B m d]] w fun e w'=>e= .returned (qV (iU p))/\au w w':=by
 have hnv:=hV.ln;have hnf:=hF.ln;have hvb:=hS.v;have hfb:=hS.f;rw[hnv]at hvb;rw[hnf]at hfb;have HV:=G hV;have HF0:=G hF;have HNV:=G hnv;have HNF:=G hnf;obtain⟨N,hN⟩: ∃N,n+m=N:=⟨_,rfl⟩
 have HLn:=G (show(et p).length=N by unfold et;rw[aa,fZ,fZ,hnv,hnf,hN]);obtain⟨R,hR⟩: ∃R,iU p=R:=⟨_,rfl⟩
 obtain⟨Kt,hKt⟩: ∃K:Unit->CR,(fun _=>mF p)=K:=⟨_,rfl⟩
 have HKt:=G hKt;have HQ0:=G (show CR.then (fB ((et p).take 0) ((et p).drop 0)) Kt=R by rw[<-hKt,<-tj];exact hR);have HFU:=G (fun(W:World) (hE:au w W)=>show Calls prog 51 #[.agg #[.slice A n c, .slice B m d], .string ⟨#[109,97,105,110]⟩] W fun e w'=>e= .returned (.int .i64 (wy p.fs bL))/\au W w' from mm p P W (.slice A n c) B m d (hF.keep (.of_ext hE) (fun _ hb _=>hb)) (by have:=hS.f;omega) bL);have HFI:=G (fun(W:World)=>fy W);have hE1:=O w (.cells #[.slice A n c, .slice B m d] 25);have hE2:=O (w.alloc (.cells #[.slice A n c, .slice B m d] 25)) (.cells #[.string ⟨#[]⟩, .int .i64 0] 112);have HP0:=G ((ax w 25 #[.slice A n c, .slice B m d]).ext hE2);have HC0:=G (show RC w (w.heap.size+1) (.string ⟨#[]⟩) (.int .i64 0) ((w.alloc (.cells #[.slice A n c, .slice B m d] 25)).alloc (.cells #[.string ⟨#[]⟩, .int .i64 0] 112))from⟨hE1.trans hE2,by have:=ax (w.alloc (.cells #[.slice A n c, .slice B m d] 25)) 112 #[.string ⟨#[]⟩, .int .i64 0];rwa [World.size_alloc]at this,Nat.le_succ _⟩);rw[hR];clear hV hF hnv hnf hKt hR hE1 hE2 hS;go_enter func40,ntmps40;go_wp2_with fail
 go_loopw [3,4] (fun vs vi wr=> ∃(j:Nat) (C:Option Addr) (cap:Nat),vi= .int .i64 (j:Int)/\vs= .slice C j cap/\j<=N/\Hid (CR.then (fB ((et p).take j) ((et p).drop j)) Kt=R)/\Hid (RC w (w.heap.size+1) (.string ⟨#[]⟩) (.int .i64 0) wr)/\Hid (aO wr w.heap.size 25 #[.slice A n c, .slice B m d])/\Hid (wr.ownsRow (w.heap.size+2) 9 1 (.slice C j cap) j (eZ ((et p).take j)))) (fun _ vi _=>N-(intOf vi).toNat)
 case atStart=>exact⟨0,none,0,rfl,rfl,az _,HQ0,HC0,HP0,G (World.ownsRow_nil _ _ _ _)⟩
 case round=>
  obtain⟨j,C,cap,rfl,rfl,hj,HQ,HX,HPB,HO⟩:=hrel;have hb0:=HPB.out.cell;have hc0:=HX.out.b.cell;have hz0:=HX.out.b.frozen;by_cases hlt:j<N
  ·have hlt':(j:Int)<(n:Int)+(m:Int):=by omega
   by_cases hjn:j<n
   ·have hjn':(j:Int)<(n:Int):=by omega
    have hjl:j<p.vs.length:=by have:=HNV.out;omega
    obtain⟨b,o,rfl,hP,hb,h0,_⟩:=HV.out.at0 j hjl;have e0:=(HX.out.e.cell b _ hb).trans h0;have hgn:=AG hjl;clear h0;have HBL:=G (fun(W:World)=>gv p.vs[j].nm W);have HST:=G (nq (l:=et p) (j:=j) (n:=p.vs[j].nm) hgn)
    have HIN:=G (fun(W:World) (h:W.ownsRow (w.heap.size+2) 9 1 (.slice C j cap) j (eZ ((et p).take j)))=>show Calls prog 43 #[.slice C j cap, .string (ag p.vs[j].nm)] W fun e w'=>e= .returned (.bool (b7 ((et p).take j) p.vs[j].nm))/\au W w' from by
     have hl:((et p).take j).length=j:=by rw[dg];have:=HLn.out;omega
     have h2:mU W (w.heap.size+2) (.slice C j cap) ((et p).take j):=by unfold mU;rw[hl];exact h
     exact kC _ _ W _ h2.rd (by rw[hl];omega) p.vs[j].nm)
    have HTK:=G (show(et p).take (j+1)=(et p).take j++[p.vs[j].nm] by
     obtain⟨hl,hn⟩:=List.getElem?_eq_some_iff.1 hgn
     rw[aD hl,hn])
    have HIB:=G (show o6 p.vs[j].nm=(bD p.vs[j].nm).isSome from rfl);clear hgn;generalize p.vs[j].nm=nm at*;generalize b7 ((et p).take j) nm=hb at*;rw[HIB.out]at HST;generalize (bD nm).isSome=bb at*;generalize wg (bD nm)=x1 at*;generalize nc (bD nm)=x2 at*
    cases bb with
    |true=>
     have HF:=G (show R= .error (nm,9) by rw[<-HQ.out,HST.out];rfl);clear HST HQ HIN;go_wp2_with (go_at_call 23;refine(HBL.out _).mono ?_;rintro e w2 ⟨rfl,hE⟩;have HX2:=G (HX.out.ext hE);have HO2:=G (cm HO.out (fun b _ hb _=>hE.obj hb));have HPB2:=G (HPB.out.ext hE);clear hb0 hc0 hz0 hE HBL;have hc0:=HX2.out.b.cell;have hz0:=HX2.out.b.frozen;have hb0:=HPB2.out.cell);have HZ:=G (HX2.out.put (.string (ag nm)) (.int .i64 9));have cz:=HZ.out.b.cell;exact bodyPost_ret (v:= .agg #[.string (ag nm), .int .i64 9]) (by simp[results,results40,go_sem,cz]) rfl ⟨by rw[HF.out];rfl,HZ.out.e⟩
    |false=>
     cases hb with
     |true=>
      have HF:=G (show R= .error (nm,9) by rw[<-HQ.out,HST.out];rfl);clear HST HQ;go_wp2_with (first|(go_at_call 23;refine(HBL.out _).mono ?_;rintro e w2 ⟨rfl,hE⟩;have HX2:=G (HX.out.ext hE);have HO2:=G (cm HO.out (fun b _ hb _=>hE.obj hb));have HPB2:=G (HPB.out.ext hE);clear hb0 hc0 hz0 hE HBL;have hc0:=HX2.out.b.cell;have hz0:=HX2.out.b.frozen;have hb0:=HPB2.out.cell)|(go_at_call 43;refine(HIN.out _ HO2.out).mono ?_;rintro e w3 ⟨rfl,hE⟩;have HX3:=G (HX2.out.ext hE);have HO3:=G (cm HO2.out (fun b _ hb _=>hE.obj hb));have HPB3:=G (HPB2.out.ext hE);clear hb0 hc0 hz0 hE HIN;have hc0:=HX3.out.b.cell;have hz0:=HX3.out.b.frozen;have hb0:=HPB3.out.cell));have HZ:=G (HX3.out.put (.string (ag nm)) (.int .i64 9));have cz:=HZ.out.b.cell;exact bodyPost_ret (v:= .agg #[.string (ag nm), .int .i64 9]) (by simp[results,results40,go_sem,cz]) rfl ⟨by rw[HF.out];rfl,HZ.out.e⟩
     |false=>
      have HQ2:=G (show CR.then (fB ((et p).take (j+1)) ((et p).drop (j+1))) Kt=R by rw[<-HQ.out,HST.out];rfl);clear HST HQ;have hwl:=HX.out.e.size;go_wp2_with (first|(go_at_call 23;refine(HBL.out _).mono ?_;rintro e w2 ⟨rfl,hE⟩;have HX2:=G (HX.out.ext hE);have HO2:=G (cm HO.out (fun b _ hb _=>hE.obj hb));have HPB2:=G (HPB.out.ext hE);clear hb0 hc0 hz0 hE HBL;have hc0:=HX2.out.b.cell;have hz0:=HX2.out.b.frozen;have hb0:=HPB2.out.cell)|(go_at_call 43;refine(HIN.out _ HO2.out).mono ?_;rintro e w3 ⟨rfl,hE⟩;have HX3:=G (HX2.out.ext hE);have HO3:=G (cm HO2.out (fun b _ hb _=>hE.obj hb));have HPB3:=G (HPB2.out.ext hE);clear hb0 hc0 hz0 hE HIN;have hc0:=HX3.out.b.cell;have hz0:=HX3.out.b.frozen;have hb0:=HPB3.out.cell)|(refine ec AX rfl _ _ rfl (w.heap.size+2) _ j (eZ ((et p).take j)) rfl (World.ownsRow.alloc HO3.out _) w3.heap.size [.string (ag nm)] rfl (ax w3 9 #[.string (ag nm)]) rfl (by simp[Value.oneCell']) (by omega) (by decide) (by rw[World.size_alloc];have:=HX3.out.b.lt;omega) ?_;intro A' cap' w4 h1 h2 h3;have hrow:=World.ownsRow.lt HO3.out;have HX4:=G ((HX3.out.ext (O w3 _)).grow h2 (fun k e=>(hrow k e).1));have HPB4:=G ((HPB3.out.ext (O w3 _)).grown h2 (fun e=>by have:=(hrow _ e.symm).1;omega));have HO4:=G h1;clear h1 h2 h3 HX HO HPB hb0 hc0 hz0));go_roundw
      case rel=>exact⟨j+1,_,_,by go_num,rfl,by omega,HQ2,HX4,HPB4,G (by rw[HTK.out,nL];exact HO4.out)⟩
      case measure=>simp[intOf];omega
   ·have hjn': ¬(j:Int)<(n:Int):=by omega
    obtain⟨i,hi⟩: ∃i,j-n=i:=⟨_,rfl⟩
    have hji:(j:Int)-(n:Int)=(i:Int):=by omega
    have him:i<m:=by omega
    have him':(i:Int)<m:=by omega
    have hil:i<p.fs.length:=by have:=HNF.out;omega
    obtain⟨b,o,pv,bv,rfl,hP,hb,h0,_⟩:=HF0.out.at0 i hil;have e0:=(HX.out.e.cell b _ hb).trans h0;have hgn:(et p)[j]? =some p.fs[i].nm:=by
     have hq:j-p.vs.length=i:=by rw[HNV.out];exact hi
     have:=AH (p:=p) (j:=j) (by rw[HNV.out];omega) (by rw[hq];exact hil);simp only[hq]at this;exact this
    clear h0 hi;have HBL:=G (fun(W:World)=>gv p.fs[i].nm W);have HST:=G (nq (l:=et p) (j:=j) (n:=p.fs[i].nm) hgn)
    have HIN:=G (fun(W:World) (h:W.ownsRow (w.heap.size+2) 9 1 (.slice C j cap) j (eZ ((et p).take j)))=>show Calls prog 43 #[.slice C j cap, .string (ag p.fs[i].nm)] W fun e w'=>e= .returned (.bool (b7 ((et p).take j) p.fs[i].nm))/\au W w' from by
     have hl:((et p).take j).length=j:=by rw[dg];have:=HLn.out;omega
     have h2:mU W (w.heap.size+2) (.slice C j cap) ((et p).take j):=by unfold mU;rw[hl];exact h
     exact kC _ _ W _ h2.rd (by rw[hl];omega) p.fs[i].nm)
    have HTK:=G (show(et p).take (j+1)=(et p).take j++[p.fs[i].nm] by
     obtain⟨hl,hn⟩:=List.getElem?_eq_some_iff.1 hgn
     rw[aD hl,hn])
    have HIB:=G (show o6 p.fs[i].nm=(bD p.fs[i].nm).isSome from rfl);clear hgn;generalize p.fs[i].nm=nm at*;generalize b7 ((et p).take j) nm=hb at*;rw[HIB.out]at HST;generalize (bD nm).isSome=bb at*;generalize wg (bD nm)=x1 at*;generalize nc (bD nm)=x2 at*
    cases bb with
    |true=>
     have HF:=G (show R= .error (nm,9) by rw[<-HQ.out,HST.out];rfl);clear HST HQ HIN;go_wp2_with (go_at_call 23;refine(HBL.out _).mono ?_;rintro e w2 ⟨rfl,hE⟩;have HX2:=G (HX.out.ext hE);have HO2:=G (cm HO.out (fun b _ hb _=>hE.obj hb));have HPB2:=G (HPB.out.ext hE);clear hb0 hc0 hz0 hE HBL;have hc0:=HX2.out.b.cell;have hz0:=HX2.out.b.frozen;have hb0:=HPB2.out.cell);have HZ:=G (HX2.out.put (.string (ag nm)) (.int .i64 9));have cz:=HZ.out.b.cell;exact bodyPost_ret (v:= .agg #[.string (ag nm), .int .i64 9]) (by simp[results,results40,go_sem,cz]) rfl ⟨by rw[HF.out];rfl,HZ.out.e⟩
    |false=>
     cases hb with
     |true=>
      have HF:=G (show R= .error (nm,9) by rw[<-HQ.out,HST.out];rfl);clear HST HQ;go_wp2_with (first|(go_at_call 23;refine(HBL.out _).mono ?_;rintro e w2 ⟨rfl,hE⟩;have HX2:=G (HX.out.ext hE);have HO2:=G (cm HO.out (fun b _ hb _=>hE.obj hb));have HPB2:=G (HPB.out.ext hE);clear hb0 hc0 hz0 hE HBL;have hc0:=HX2.out.b.cell;have hz0:=HX2.out.b.frozen;have hb0:=HPB2.out.cell)|(go_at_call 43;refine(HIN.out _ HO2.out).mono ?_;rintro e w3 ⟨rfl,hE⟩;have HX3:=G (HX2.out.ext hE);have HO3:=G (cm HO2.out (fun b _ hb _=>hE.obj hb));have HPB3:=G (HPB2.out.ext hE);clear hb0 hc0 hz0 hE HIN;have hc0:=HX3.out.b.cell;have hz0:=HX3.out.b.frozen;have hb0:=HPB3.out.cell));have HZ:=G (HX3.out.put (.string (ag nm)) (.int .i64 9));have cz:=HZ.out.b.cell;exact bodyPost_ret (v:= .agg #[.string (ag nm), .int .i64 9]) (by simp[results,results40,go_sem,cz]) rfl ⟨by rw[HF.out];rfl,HZ.out.e⟩
     |false=>
      have HQ2:=G (show CR.then (fB ((et p).take (j+1)) ((et p).drop (j+1))) Kt=R by rw[<-HQ.out,HST.out];rfl);clear HST HQ;have hwl:=HX.out.e.size;go_wp2_with (first|(go_at_call 23;refine(HBL.out _).mono ?_;rintro e w2 ⟨rfl,hE⟩;have HX2:=G (HX.out.ext hE);have HO2:=G (cm HO.out (fun b _ hb _=>hE.obj hb));have HPB2:=G (HPB.out.ext hE);clear hb0 hc0 hz0 hE HBL;have hc0:=HX2.out.b.cell;have hz0:=HX2.out.b.frozen;have hb0:=HPB2.out.cell)|(go_at_call 43;refine(HIN.out _ HO2.out).mono ?_;rintro e w3 ⟨rfl,hE⟩;have HX3:=G (HX2.out.ext hE);have HO3:=G (cm HO2.out (fun b _ hb _=>hE.obj hb));have HPB3:=G (HPB2.out.ext hE);clear hb0 hc0 hz0 hE HIN;have hc0:=HX3.out.b.cell;have hz0:=HX3.out.b.frozen;have hb0:=HPB3.out.cell)|(refine ec AX rfl _ _ rfl (w.heap.size+2) _ j (eZ ((et p).take j)) rfl (World.ownsRow.alloc HO3.out _) w3.heap.size [.string (ag nm)] rfl (ax w3 9 #[.string (ag nm)]) rfl (by simp[Value.oneCell']) (by omega) (by decide) (by rw[World.size_alloc];have:=HX3.out.b.lt;omega) ?_;intro A' cap' w4 h1 h2 h3;have hrow:=World.ownsRow.lt HO3.out;have HX4:=G ((HX3.out.ext (O w3 _)).grow h2 (fun k e=>(hrow k e).1));have HPB4:=G ((HPB3.out.ext (O w3 _)).grown h2 (fun e=>by have:=(hrow _ e.symm).1;omega));have HO4:=G h1;clear h1 h2 h3 HX HO HPB hb0 hc0 hz0));go_roundw
      case rel=>exact⟨j+1,_,_,by go_num,rfl,by omega,HQ2,HX4,HPB4,G (by rw[HTK.out,nL];exact HO4.out)⟩
      case measure=>simp[intOf];omega
  ·have hlt': ¬(j:Int)<(n:Int)+(m:Int):=by omega
   have HNK:=G (show R=mF p by
    have:=HQ.out;rw[aB (l:=et p) (by have:=HLn.out;omega),fB,<-HKt.out]at this
    exact this.symm)
   clear HQ;rcases ll p.fs bL with⟨hr,hfo⟩|⟨i,hi,hr,hfo,_⟩
   ·rw[hr]at HFU;have HF:=G (show R= .error (bL,8) by rw[HNK.out];unfold mF;rw[hfo]);clear HNK hr hfo;go_wp2_with (go_at_call 51;refine(HFU.out _ HX.out.e).mono ?_;rintro e w6 ⟨rfl,hE⟩;have HX6:=G (HX.out.ext hE);have HPB6:=G (HPB.out.ext hE);clear hb0 hc0 hz0 hE HFU;have hc0:=HX6.out.b.cell;have hz0:=HX6.out.b.frozen;have hb0:=HPB6.out.cell);have HZ:=G (HX6.out.put (.string ⟨#[109,97,105,110]⟩) (.int .i64 8));have cz:=HZ.out.b.cell;exact bodyPost_ret (v:= .agg #[.string ⟨#[109,97,105,110]⟩, .int .i64 8]) (by simp[results,results40,go_sem,cz]) rfl ⟨by rw[HF.out];rfl,HZ.out.e⟩
   ·rw[hr]at HFU;obtain⟨bb,oo,pv,bv,rfl,_,hbb,_,hpv,_,hN1,_⟩:=HF0.out.at0 i hi;obtain⟨pA,pc,rfl,_⟩:=id hN1;have HPV:=G hpv;have him:i<m:=by have:=HNF.out;omega
    have him':(i:Int)<m:=by omega
    have HF:=G (show R=if 0<p.fs[i].ps.length then .error (bL,16)else .ok () by rw[HNK.out];unfold mF;rw[hfo]);generalize p.fs[i].ps=ps at*;clear HNK hr hfo hpv hN1;by_cases hz:0<ps.length
    ·have hz':(0:Int)<(ps.length:Int):=by omega
     rw[if_pos hz]at HF;go_wp2_with (go_at_call 51;refine(HFU.out _ HX.out.e).mono ?_;rintro e w6 ⟨rfl,hE⟩;have HX6:=G (HX.out.ext hE);have HPB6:=G (HPB.out.ext hE);have q6:=(HX6.out.e.cell bb _ hbb).trans HPV.out;clear hb0 hc0 hz0 hE HFU;have hc0:=HX6.out.b.cell;have hz0:=HX6.out.b.frozen;have hb0:=HPB6.out.cell);have HZ:=G (HX6.out.put (.string ⟨#[109,97,105,110]⟩) (.int .i64 16));have cz:=HZ.out.b.cell;exact bodyPost_ret (v:= .agg #[.string ⟨#[109,97,105,110]⟩, .int .i64 16]) (by simp[results,results40,go_sem,cz]) rfl ⟨by rw[HF.out];rfl,HZ.out.e⟩
    ·have hz0':ps.length=0:=by omega
     rw[if_neg hz]at HF;obtain rfl:ps=[]:=aM hz0';go_wp2_with (first|(go_at_call 51;refine(HFU.out _ HX.out.e).mono ?_;rintro e w6 ⟨rfl,hE⟩;have HX6:=G (HX.out.ext hE);have HPB6:=G (HPB.out.ext hE);have q6:=(HX6.out.e.cell bb _ hbb).trans HPV.out;clear hb0 hc0 hz0 hE HFU;have hc0:=HX6.out.b.cell;have hz0:=HX6.out.b.frozen;have hb0:=HPB6.out.cell)|(go_at_call 81;refine(HFI.out _).mono ?_;rintro e w7 ⟨rfl,hE⟩;have HX7:=G (HX6.out.ext hE);clear hc0 hz0 hE;have hc0:=HX7.out.b.cell;have hz0:=HX7.out.b.frozen));have HZ:=G (HX7.out.put (.string ⟨#[]⟩) (.int .i64 0));have cz:=HZ.out.b.cell;exact bodyPost_ret (v:= .agg #[.string ⟨#[]⟩, .int .i64 0]) (by simp[results,results40,go_sem,cz]) rfl ⟨by rw[HF.out];rfl,HZ.out.e⟩
end
section
open Go.RowKit
theorem pF: ∀(m:Nat) (x:Ex),x.wt<=m->x.wt<=1073741824-> ∀(P:Nat->Prop) (w:World) (A:Option Addr) (n c:Nat),b8 w P (.slice A n c) x.args->
  Calls prog 126 #[.agg #[.int .i64 x.k, .string (ag x.op), .string (ag x.nm), .string (ag x.tx), .int .i64 x.v, .slice A n c]] w fun e w'=>e= .returned (.int .i64 (x.dep:Int))/\au w w'
 |0,x,hm,_,_,_,_,_,_,_=>absurd hm (by have:=x.wt_eq;omega)
 |m+1,x,hm,hx,P,w,A,n,c,hR=>by
  have HD:=G (x.dep_eq);have hw:=x.wt_eq;have hmem: ∀y,y∈x.args->y.wt<=m:=fun y hy=>by have:=bX hy;omega
  have hdl:=iY x.args;have hnl:=bF x.args;have HIH:=G (pF m);obtain⟨k,op,nm,tx,v,xs⟩:=x;simp only[Ex.k,Ex.op,Ex.nm,Ex.tx,Ex.v,Ex.args]at*;obtain⟨A',c',hv,hf⟩:=hR.form;injection hv with hv1 hv2 hv3;subst hv1 hv2 hv3;have HR:=G hR;obtain⟨N,hN⟩: ∃N,xs.length=N:=⟨_,rfl⟩
  rw[hN]at HR;have HE0:=G (O w (.cells #[.int .i64 k, .string (ag op), .string (ag nm), .string (ag tx), .int .i64 v, .slice A N c] 75));have HB0:=G (ax w 75 #[.int .i64 k, .string (ag op), .string (ag nm), .string (ag tx), .int .i64 v, .slice A N c]);clear hR hf;rw[hN];have c0:=HB0.out.cell;go_enter func126,ntmps126;go_wp2_with fail
  go_loopw [3,4] (fun vd vi wr=> ∃(j:Nat),vi= .int .i64 (j:Int)/\j<=N/\vd= .int .i64 (dW (xs.take j):Int)/\Hid (au w wr)/\Hid (aO wr w.heap.size 75 #[.int .i64 k, .string (ag op), .string (ag nm), .string (ag tx), .int .i64 v, .slice A N c])) (fun _ vi _=>N-(intOf vi).toNat)
  case atStart=>exact⟨0,rfl,az _,by simp[dW],HE0,HB0⟩
  case round=>
   clear c0 HE0 HB0;obtain⟨j,rfl,hj,rfl,HX,HB⟩:=hrel;have c0:=HB.out.cell;have hdj:dW (xs.take j)<=1073741824:=by
    have:=jH (xs.take j) (xs.drop j);rw[bB]at this;omega
   by_cases hlt:j<N
   ·have hlt':(j:Int)<N:=by omega
    have hjl:j<xs.length:=by omega
    obtain⟨b,o,a,rfl,hb,hP,h0,h1,h2,h3,h4,h5,hRa⟩:=HR.out.at_ j hjl;have HS:=G (jO hjl);have hyw:=bX (ai hjl);have hym:=hmem _ (ai hjl);generalize xs[j]=y at*;have e0:=(HX.out.cell b _ hb).trans h0;have e1:=(HX.out.cell b _ hb).trans h1;have e2:=(HX.out.cell b _ hb).trans h2;have e3:=(HX.out.cell b _ hb).trans h3;have e4:=(HX.out.cell b _ hb).trans h4;have e5:=(HX.out.cell b _ hb).trans h5;obtain⟨B,d,rfl,_⟩:=hRa.form;have HC:=G (HIH.out y hym (by omega) P wr B _ d (hRa.keep (.of_ext HX.out) (Q:=P) (fun b hb _=>hb)));have hdy:=y.dep_le;clear h0 h1 h2 h3 h4 h5 hRa;go_wp2_with (go_at_call 126;refine HC.out.mono ?_;rintro e w3 ⟨rfl,hE⟩;have HY:=G (HX.out.trans hE);have HB3:=G (HB.out.ext hE);clear hE HC);go_roundw
    case rel=>exact⟨j+1,by go_num,by omega,by rw[HS.out];congr 1;omega,HY,HB3⟩
    case measure=>simp[intOf];omega
   ·have hlt': ¬(j:Int)<N:=by omega
    have hjN:j=N:=by omega
    subst hjN;have HQ:=G (show dW (xs.take j)=dW xs by rw[<-hN,bw]);rw[HQ.out]at hdj⊢;have hwr:IntKind.i64.wrap ((dW xs:Int)+1)=dW xs+1:=by simp[IntKind.wrap,IntKind.signed,IntKind.bits];omega
    clear hN;go_wp2_with fail;go_ret;exact⟨by rw[HD.out];rfl,HX.out⟩
theorem nF: ∀(k:Nat) (xs:List St),dq xs<k->k<=1000000001-> ∀(P:Nat->Prop) (w:World) (u:Value),cM w P u xs->Calls prog 79 #[u] w fun e w'=>e= .returned (.int .i64 (dN xs:Int))/\au w w'
 |0,xs,h,_,_,_,_,_=>absurd h (eg _)
 |k+1,xs,h,hk,P,w,u,hu=>by
  have HIH:=G (nF k);have HMW:=G (fun(x:St) (hx:x∈xs)=>show gt x.ex+dq x.body+dq x.els<k by have:=bq hx;have:=x.wt_eq;omega);have hds:=gp xs;have hnl:=cw xs;obtain⟨A,c,rfl,_⟩:=hu.form;obtain⟨n,hn⟩: ∃n,xs.length=n:=⟨_,rfl⟩
  rw[hn]at hu hnl;rw[hn];have HN:=G hn;have HR:=G hu
  have HDT:=G (fun j=>show dN (xs.take j)<=dN xs by
   have:=iG (xs.take j) (xs.drop j);rw[bB]at this
   omega)
  clear hu hn;go_enter func79,ntmps79;go_wp2_with fail
  go_loopw [3,4] (fun vo vi wr=> ∃(j:Nat),vi= .int .i64 (j:Int)/\vo= .int .i64 (dN (xs.take j):Int)/\j<=n/\Hid (au w wr)) (fun vo vi _=>n-(intOf vi).toNat)
  case atStart=>exact⟨0,rfl,by simp[dN],az _,G (aH w)⟩
  case round=>
   obtain⟨j,rfl,rfl,hj,HX⟩:=hrel;have hdj:=HDT.out j;by_cases hlt:j<n
   ·have hlt':(j:Int)<n:=by omega
    have hjl:j<xs.length:=by have:=HN.out;omega
    obtain⟨b,o,a,g,z,rfl,hb,hP,h0,h1,h2,h3,h4,hRa,hRb,hRc⟩:=HR.out.at_ j hjl;have hbl:b<wr.heap.size:=aF hb HX.out.size;have HS:=G (nT hjl);have hmw:=HMW.out _ (ai hjl);have HDE:=G (xs[j].dep_eq);generalize xs[j]=x at*;have e2:=(HX.out.cell b _ hb).trans h2;have e3:=(HX.out.cell b _ hb).trans h3;have e4:=(HX.out.cell b _ hb).trans h4;obtain⟨A2,c2,rfl,_⟩:=hRa.form;obtain⟨B2,d2,rfl,_⟩:=hRb.form;obtain⟨C2,i2,rfl,_⟩:=hRc.form;have HRa:=G hRa;have HC1:=G (fun(W:World) (h:au wr W)=>HIH.out x.body (by omega) (by omega) P W _ (hRb.keep (.of_ext (HX.out.trans h)) (fun b hb _=>hb)));have HC2:=G (fun(W:World) (h:au wr W)=>HIH.out x.els (by omega) (by omega) P W _ (hRc.keep (.of_ext (HX.out.trans h)) (fun b hb _=>hb)));have hd1:=gp x.body;have hd2:=gp x.els;have hd3:=iY x.ex;clear h0 h1 h2 h3 h4 hRa hRb hRc;go_wp2_with fail;refine am 13 12 [(5,fun v=>v= .int .i64 (dN x.body:Int),fun _ _=>True),(11,fun v=>v= .int .i64 (dN x.els:Int),fun _ _=>True)] mixed (by kernel_rfl) ⟨fun _ _ _ _ _=>trivial,fun _ _ _ _ _=>trivial,trivial⟩ ?_;repeat (refine sx ?_ (fun w1 hU=> ?_) ?_;rotate_left;(focus have g3:=(hU.un.cell b _ hbl).trans e3;clear hU;go_simp<;>with_reducible rfl);simp only[aU,aT,aS,aR,aQ])
    refine so (fun w6 hU hp K hK=> ?_) ?_
    ·have hc:=HC1.out w6 hU.un;clear hp hU;go_simp;refine hc.mono ?_;rintro e w7 ⟨rfl,hE⟩;exact hK _ _ hE rfl trivial
    rintro _ rfl;simp only[aU,aT,aS,aR,aQ];repeat (refine sx ?_ (fun w1 hU=> ?_) ?_;rotate_left;(focus have g4:=(hU.un.cell b _ hbl).trans e4;clear hU;go_simp<;>with_reducible rfl);simp only[aU,aT,aS,aR,aQ])
    refine so (fun w6 hU hp K hK=> ?_) ?_
    ·have hc:=HC2.out w6 hU.un;clear hp hU;go_simp;refine hc.mono ?_;rintro e w7 ⟨rfl,hE⟩;exact hK _ _ hE rfl trivial
    rintro _ rfl;simp only[aU,aT,aS,aR,aQ];repeat (refine sx ?_ (fun w1 hU=> ?_) ?_;rotate_left;(focus go_simp<;>with_reducible rfl);simp only[aU,aT,aS,aR,aQ])
    intro w8 hw8 hp;clear hp;simp only[ab,ap];have HX8:=G (HX.out.trans hw8.un);have HW8:=G hw8.un;clear hw8;have e2':=(HW8.out.cell b _ hbl).trans e2;obtain⟨q,hq⟩: ∃q,max (dN x.body) (dN x.els)=q:=⟨_,rfl⟩
    have hql:q<=1000000001:=by omega
    have hqi:max (dN x.body:Int) (dN x.els:Int)=(q:Int):=by omega
    obtain⟨n2,hn2⟩: ∃n2,x.ex.length=n2:=⟨_,rfl⟩
    have HN2:=G hn2;have hnl2:=bF x.ex;rw[hn2]at hnl2 e2';rw[hqi];have HQ8:=G hq;have HR2:=G (HRa.out.keep (.of_ext HX8.out) (Q:=P) (fun _ hb _=>hb));have HW:=G (fun y (hy:y∈x.ex)=>show y.wt<=gt x.ex by have:=bX hy;omega);have hW0:=HW8;clear hn2 hq e2 hqi HW8;go_wp2_with fail
    go_loopw [5,6] (fun vd vi wr'=> ∃(i:Nat),vi= .int .i64 (i:Int)/\i<=n2/\vd= .int .i64 ((max q (dW (x.ex.take i)):Nat):Int)/\Hid (au w wr')/\Hid (au w8 wr')) (fun _ vi _=>n2-(intOf vi).toNat)
    case atStart=>exact⟨0,rfl,az _,by simp[dW],HX8,G (aH _)⟩
    case round=>
     obtain⟨i,rfl,hi,rfl,HX2,HZ2⟩:=hrel;have hdi:=nU x.ex i;by_cases hlt2:i<n2
     ·have hlt3:(i:Int)<n2:=by omega
      have hil:i<x.ex.length:=by have:=HN2.out;omega
      obtain⟨b2,o2,a2,hA,hb2,hP2,p0,p1,p2,p3,p4,p5,hRy⟩:=HR2.out.at_ i hil
      cases hA;have hS:=jO hil;have hyw:=HW.out _ (ai hil);generalize x.ex[i]=y at*;have HS2:=G hS;have q2:=(HZ2.out.cell b _ (aF hbl (kS hW0.out))).trans e2';have q0:=(HZ2.out.cell b2 _ hb2).trans p0;have q1:=(HZ2.out.cell b2 _ hb2).trans p1;have q2':=(HZ2.out.cell b2 _ hb2).trans p2;have q3:=(HZ2.out.cell b2 _ hb2).trans p3;have q4:=(HZ2.out.cell b2 _ hb2).trans p4;have q5:=(HZ2.out.cell b2 _ hb2).trans p5;obtain⟨D,d,rfl,_⟩:=hRy.form;have HC:=G (pF _ y (an _) (by omega) P wr D _ d (hRy.keep (.of_ext HZ2.out) (Q:=P) (fun _ hb _=>hb)));have hdy:=y.dep_le;clear hS p0 p1 p2 p3 p4 p5 hRy;go_wp2_with (go_at_call 126;refine HC.out.mono ?_;rintro e w3 ⟨rfl,hE⟩;have HY:=G (HX2.out.trans hE);have HZ:=G (HZ2.out.trans hE);clear hE HC);go_roundw
      case rel=>exact⟨i+1,by go_num,by omega,by rw[HS2.out];congr 1;omega,HY,HZ⟩
      case measure=>simp[intOf];omega
     ·have hlt3: ¬(i:Int)<n2:=by omega
      have HQ2:=G (show dW (x.ex.take i)=dW x.ex by rw[aJ (by have:=HN2.out;omega)]);rw[HQ2.out]at hdi⊢;obtain⟨dd,hdd⟩: ∃dd,max q (dW x.ex)=dd:=⟨_,rfl⟩
      have hdn:dd+1=x.dep:=by rw[HDE.out,HQ8.out,<-hdd];omega
      rw[hdd];have hwr:IntKind.i64.wrap ((dd:Int)+1)=dd+1:=by simp[IntKind.wrap,IntKind.signed,IntKind.bits];omega
      have q2:=(HZ2.out.cell b _ (aF hbl (kS hW0.out))).trans e2';have HDN:=G hdn;clear hdd hdn;go_wp2_with fail;go_roundw
      case rel=>exact⟨j+1,by go_num,by rw[HS.out,<-HDN.out];congr 1;omega,by omega,HX2⟩
      case measure=>simp[intOf];omega
   ·have hlt': ¬(j:Int)<n:=by omega
    have HQ:=G (show dN (xs.take j)=dN xs by rw[aJ (by have:=HN.out;omega)]);go_wp2_with fail;go_ret;exact⟨by rw[HQ.out];rfl,HX.out⟩
end
section
open Go.RowKit
theorem ox (l:List UInt8) (hl:l.length<=1073741824) (w:World):Calls prog 159 #[.string (ag l)] w fun e w'=>e= .returned (.bool (kh l))/\au w w':=by
 have hsz:(ag l).size=l.length:=aL l;have HE0:=G (aH w);go_enter func159,ntmps159;go_wp2_with fail
 go_loopw [3] (fun vi wr=> ∃j:Nat,vi= .int .i64 (j:Int)/\j<=l.length/\Hid ((l.take j).all qZ=true)/\Hid (au w wr)) (fun vi _=>l.length-(intOf vi).toNat)
 case atStart=>exact⟨0,rfl,az _,G (by simp),HE0⟩
 case round=>
  obtain⟨j,rfl,hj,HA,HX⟩:=hrel;by_cases hlt:j<l.length
  ·have hjs:j<(ag l).size:=by rw[aL];exact hlt
   have hg:=g8 l j hjs;have hlt':(j:Int)<l.length:=by omega
   have HS:=G (fN qZ hlt);have HBad:=G (fun h=>r7 hlt h);generalize l[j]'hlt=c at*;have HC:=G (r_ c);have hc256:(c.toNat:Int)<256:=by have:=c.toNat_lt;omega
   have HJ:=G (fun(h:qZ c=true)=>show(l.take (j+1)).all qZ=true by rw[HS.out,HA.out,h];rfl);clear HS HA;by_cases h32:32<=(c.toNat:Int)/\(c.toNat:Int)<=126
   ·obtain⟨a1,a2⟩:=h32;have HJ2:=G (HJ.out (by rw[HC.out,decide_eq_true a1,decide_eq_true a2];rfl));clear HJ HC;go_wp2_with fail;go_roundw
    case rel=>exact⟨j+1,by go_num,by omega,HJ2,HX⟩
    case measure=>simp[intOf];omega
   ·cases h10:((c.toNat:Int)==10)with
    |true=>
     have HJ2:=G (HJ.out (by rw[HC.out,h10];simp));have h10n:((c.toNat:Int) !=10)=false:=by rw[bne,h10];rfl
     have hn:(c.toNat:Int)<32:=by rw[beq_iff_eq]at h10;omega
     clear HJ HC h32;go_wp2_with fail;go_roundw
     case rel=>exact⟨j+1,by go_num,by omega,HJ2,HX⟩
     case measure=>simp[intOf];omega
    |false=>
     have h10n:((c.toNat:Int) !=10)=true:=by rw[bne,h10];rfl
     cases h9:((c.toNat:Int)==9)with
     |true=>
      have HJ2:=G (HJ.out (by rw[HC.out,h9];simp));have h9n:((c.toNat:Int) !=9)=false:=by rw[bne,h9];rfl
      have hn:(c.toNat:Int)<32:=by rw[beq_iff_eq]at h9;omega
      clear HJ HC h32;go_wp2_with fail;go_roundw
      case rel=>exact⟨j+1,by go_num,by omega,HJ2,HX⟩
      case measure=>simp[intOf];omega
     |false=>
      have h9n:((c.toNat:Int) !=9)=true:=by rw[bne,h9];rfl
      cases h0:((c.toNat:Int)==0)with
      |true=>
       have HJ2:=G (HJ.out (by rw[HC.out,h0];simp));have h0n:((c.toNat:Int) !=0)=false:=by rw[bne,h0];rfl
       have hn:(c.toNat:Int)<32:=by rw[beq_iff_eq]at h0;omega
       clear HJ HC h32;go_wp2_with fail;go_roundw
       case rel=>exact⟨j+1,by go_num,by omega,HJ2,HX⟩
       case measure=>simp[intOf];omega
      |false=>
       have h0n:((c.toNat:Int) !=0)=true:=by rw[bne,h0];rfl
       have HF:=G (HBad.out (by rw[HC.out,h10,h9,h0,<-i',decide_eq_false h32];rfl));clear HJ HC;by_cases hn:(c.toNat:Int)<32
       ·clear h32;go_wp2_with fail;go_ret;exact⟨by rw[HF.out];rfl,HX.out⟩
       ·have hn2:126<(c.toNat:Int):=by omega
        clear h32;go_wp2_with fail;go_ret;exact⟨by rw[HF.out];rfl,HX.out⟩
  ·have hlt': ¬(j:Int)<l.length:=by omega
   have hj':j=l.length:=by omega
   subst hj';have HQ:=G (show l.all qZ=true by have:=HA.out;rwa [bw]at this);clear HA;by_cases h128:l.length<=128
   ·have h128':(l.length:Int)<=128:=by omega
    go_wp2_with fail;go_ret;exact⟨by unfold kh;rw[HQ.out,decide_eq_true h128];rfl,HX.out⟩
   ·have h128': ¬(l.length:Int)<=128:=by omega
    go_wp2_with fail;go_ret;exact⟨by unfold kh;rw[decide_eq_false h128,jo];rfl,HX.out⟩
end
section
open Go.RowKit
def dV:Code->List Code
 | .seq a b=>dV a++dV b
 | .block _ a=>dV a
 | .cond _ a b=>dV a++dV b
 | .loop a=>[.loop a]
 | _=>[]
def jk (xs:List Ex):Prop:= ∀y,y∈xs-> ∀(P:Nat->Prop) (w:World) (A:Option Addr) (n c:Nat),b8 w P (.slice A n c) y.args->
  Calls prog 125 #[.agg #[.int .i64 y.k, .string (ag y.op), .string (ag y.nm), .string (ag y.tx), .int .i64 y.v, .slice A n c]] w fun e w'=>e= .returned (.bool y.ok)/\au w w'
theorem ik {l:List Ex} {j:Nat} (h:j<l.length):gK (l.take (j+1))=(gK (l.take j)&&l[j].ok):=by
 rw[gn,gn,aD h,dQ,eP,ky,cg]
theorem oF {l:List Ex} {j:Nat} (h:gK (l.take j)=false):gK l=false:=by
 rw[gn]at*;rw[<-bB j l,dQ,h,jn]
theorem gG (px pw:Nat) (k v wv lo hi:Int) (op nm tx wop wnm wtx:List UInt8) (A:Option Addr) (n c:Nat) (b:Bool) (w W:World) (P:Nat->Prop) (xs:List Ex) (hI:jk xs) (hE:au w W) (hne:px≠pw) (hn:n<=1073741824) (hB:aO W px 75 #[.int .i64 k, .string (ag op), .string (ag nm), .string (ag tx), .int .i64 v, .slice A n c]) (hW:aO W pw 75 #[.int .i64 k, .string (ag wop), .string (ag wnm), .string (ag wtx), .int .i64 wv, .slice none 0 0]) (hR:b8 W P (.slice A n c) xs)
  (R:Bool) (hQ:(b&&gK xs&&(op==wop&&nm==wnm&&tx==wtx&&v==wv)&&(decide (lo<=n)&&decide ((n:Int)<=hi)))=R) (K:Act->World->Prop)
  (hK: ∀a w',Code.wp prog (lZ 31 (Tryz.f125.body.getD .skip)) (bodyPost prog Tryz.f125 fun e w'=>e= .returned (.bool R)/\au w w') a w'->K a w') (u0 u2 u8 u9 u10 u11 u12 u13 u14 u15 u16 u17 u18 u19 u20 u21 u22 u23 u24 u25 u26 u27 u28 u29 u30 u31 u32 u33 u34 u35 u36 u37 u38 u39 u40 u41 u42 u43 u44 u45 u46 u47 u48 u49 u50 u51 u52 u53 u54 u55 u56 u57 u58 u59 u60 u61 u62 u63 u64 u65 u66 u67 u68 u69 u70 u71 u72 u73 u74 u75 u76 u77 u78 u79 u80 u81 u82 u83 u84 u85 u86 u87 u88 u89 u90 u91 u92 u93 u94 u95 u96 u97 u98 u99 u100 u101 u102 u103 u104 u105 u106 u107 u108 u109 u110 u111 u112 u113 u114 u115 u116 u117 u118 u119 u120 u121 u122 u123 u124 u125 u126 u127 u128 u129 u130:Value):
  Code.wp prog ((dV (Tryz.f125.body.getD .skip)).getD 0 .skip) (Exit.inBlock 1 (Exit.then K (bodyPost prog Tryz.f125 fun e w'=>e= .returned (.bool R)/\au w w'))) {tmps:= #[u0, .pointer (some ⟨px,0,none⟩),u2, .pointer (some ⟨pw,0,none⟩), .int .i64 lo, .int .i64 hi, .bool b, .int .i64 0,u8,u9,u10,u11,u12,u13,u14,u15,u16,u17,u18,u19,u20,u21,u22,u23,u24,u25,u26,u27,u28,u29,u30,u31,u32,u33,u34,u35,u36,u37,u38,u39,u40,u41,u42,u43,u44,u45,u46,u47,u48,u49,u50,u51,u52,u53,u54,u55,u56,u57,u58,u59,u60,u61,u62,u63,u64,u65,u66,u67,u68,u69,u70,u71,u72,u73,u74,u75,u76,u77,u78,u79,u80,u81,u82,u83,u84,u85,u86,u87,u88,u89,u90,u91,u92,u93,u94,u95,u96,u97,u98,u99,u100,u101,u102,u103,u104,u105,u106,u107,u108,u109,u110,u111,u112,u113,u114,u115,u116,u117,u118,u119,u120,u121,u122,u123,u124,u125,u126,u127,u128,u129,u130],defers:=[]} W:=by
 have hnl:=hR.len;have HX:=G hE;have HN:=G hnl;have HR:=G hR;have HI:=G hI;have HQ:=G hQ;have HB:=G hB;have HW:=G hW;clear hE hnl hR hI hQ hB hW
 conv=>arg 2;whnf
 conv=>arg 4;zeta
 go_loopw [6,7] (fun vb vi wr=> ∃(j:Nat) (q:Bool),vi= .int .i64 (j:Int)/\vb= .bool q/\j<=n/\Hid ((b&&gK (xs.take j))=q)/\Hid (au W wr)) (fun _ vi _=>n-(intOf vi).toNat)
 case atStart=>exact⟨0,b,rfl,rfl,az _,G (by simp[gK]),G (aH W)⟩
 case round=>
  obtain⟨j,q,rfl,rfl,hj,HA,HZ⟩:=hrel;have f1:=(HB.out.ext HZ.out).cell;by_cases hlt:j<n
  ·have hlt':(j:Int)<n:=by omega
   cases q with
   |true=>
    have hjl:j<xs.length:=by have:=HN.out;omega
    obtain⟨g,o,a,rfl,hg,hP,h0,h1,h2,h3,h4,h5,hRa⟩:=HR.out.at_ j hjl;have HS:=G (ik hjl);have HIx:=HI.out _ (ai hjl);generalize xs[j]=y at*;have e0:=(HZ.out.cell g _ hg).trans h0;have e1:=(HZ.out.cell g _ hg).trans h1;have e2:=(HZ.out.cell g _ hg).trans h2;have e3:=(HZ.out.cell g _ hg).trans h3;have e4:=(HZ.out.cell g _ hg).trans h4;have e5:=(HZ.out.cell g _ hg).trans h5;obtain⟨D,d,rfl,_⟩:=hRa.form;have HC:=G (HIx P wr D _ d (hRa.keep (.of_ext HZ.out) (Q:=P) (fun _ hb _=>hb)));have HY:=G (show(b&&gK (xs.take (j+1)))=y.ok by rw[HS.out,<-Bool.and_assoc,HA.out,cD]);generalize y.ok=yo at*;clear h0 h1 h2 h3 h4 h5 hRa HIx HS;go_wp2_with (go_at_call 125;refine HC.out.mono ?_;rintro e w3 ⟨rfl,hE⟩;have HZ3:=G (HZ.out.trans hE);clear hE HC);go_roundw
    case rel=>exact⟨j+1,_,by go_num,rfl,by omega,HY,HZ3⟩
    case measure=>simp[intOf];omega
   |false=>
    have e0:R=false:=by
     rw[<-HQ.out];have:=HA.out
     cases b with
     |false=>simp
     |true=>rw[oF (by simpa using this)];simp
    clear HQ;go_wp2_with fail
    conv=>arg 2;whnf
    go_wp2_with fail;go_ret;exact⟨by first|rfl|(rw[e0];rfl)|(exact(congrArg (fun q=>Ending.returned (.bool q)) (decide_eq_true h6)).trans (by rw[e0]))|(exact(congrArg (fun q=>Ending.returned (.bool q)) (decide_eq_false (by omega))).trans (by rw[e0]))|(exact(congrArg (fun q=>Ending.returned (.bool q)) (decide_eq_false (by omega)))),(HX.out.trans HZ.out)⟩
  ·have hlt': ¬(j:Int)<n:=by omega
   have hq:(b&&gK xs)=q:=by
    have:=HA.out;rwa [aJ (by have:=HN.out;omega)]at this
   rw[hq]at HQ;have f3:=(HW.out.ext HZ.out).cell;clear HA hq
   cases q with
   |false=>
    have e0:R=false:=by rw[<-HQ.out];simp
    clear HQ;go_wp2_with fail
    conv=>arg 2;whnf
    go_wp2_with fail;go_ret;exact⟨by first|rfl|(rw[e0];rfl)|(exact(congrArg (fun q=>Ending.returned (.bool q)) (decide_eq_true h6)).trans (by rw[e0]))|(exact(congrArg (fun q=>Ending.returned (.bool q)) (decide_eq_false (by omega))).trans (by rw[e0]))|(exact(congrArg (fun q=>Ending.returned (.bool q)) (decide_eq_false (by omega)))),(HX.out.trans HZ.out)⟩
   |true=>
    cases h1:(op==wop)with
    |false=>(have e0:R=false:=(by rw[<-HQ.out,h1];simp);go_wp2_with fail;(conv=>arg 2;whnf);go_wp2_with fail;go_ret;exact⟨by first|rfl|(rw[e0];rfl)|(exact(congrArg (fun q=>Ending.returned (.bool q)) (decide_eq_true h6)).trans (by rw[e0]))|(exact(congrArg (fun q=>Ending.returned (.bool q)) (decide_eq_false (by omega))).trans (by rw[e0]))|(exact(congrArg (fun q=>Ending.returned (.bool q)) (decide_eq_false (by omega)))),(HX.out.trans HZ.out)⟩)
    |true=>
    cases h2:(nm==wnm)with
    |false=>(have e0:R=false:=(by rw[<-HQ.out,h1,h2];simp);go_wp2_with fail;(conv=>arg 2;whnf);go_wp2_with fail;go_ret;exact⟨by first|rfl|(rw[e0];rfl)|(exact(congrArg (fun q=>Ending.returned (.bool q)) (decide_eq_true h6)).trans (by rw[e0]))|(exact(congrArg (fun q=>Ending.returned (.bool q)) (decide_eq_false (by omega))).trans (by rw[e0]))|(exact(congrArg (fun q=>Ending.returned (.bool q)) (decide_eq_false (by omega)))),(HX.out.trans HZ.out)⟩)
    |true=>
    cases h3:(tx==wtx)with
    |false=>(have e0:R=false:=(by rw[<-HQ.out,h1,h2,h3];simp);go_wp2_with fail;(conv=>arg 2;whnf);go_wp2_with fail;go_ret;exact⟨by first|rfl|(rw[e0];rfl)|(exact(congrArg (fun q=>Ending.returned (.bool q)) (decide_eq_true h6)).trans (by rw[e0]))|(exact(congrArg (fun q=>Ending.returned (.bool q)) (decide_eq_false (by omega))).trans (by rw[e0]))|(exact(congrArg (fun q=>Ending.returned (.bool q)) (decide_eq_false (by omega)))),(HX.out.trans HZ.out)⟩)
    |true=>
    cases h4:(v==wv)with
    |false=>(have e0:R=false:=(by rw[<-HQ.out,h1,h2,h3,h4];simp);go_wp2_with fail;(conv=>arg 2;whnf);go_wp2_with fail;go_ret;exact⟨by first|rfl|(rw[e0];rfl)|(exact(congrArg (fun q=>Ending.returned (.bool q)) (decide_eq_true h6)).trans (by rw[e0]))|(exact(congrArg (fun q=>Ending.returned (.bool q)) (decide_eq_false (by omega))).trans (by rw[e0]))|(exact(congrArg (fun q=>Ending.returned (.bool q)) (decide_eq_false (by omega)))),(HX.out.trans HZ.out)⟩)
    |true=>
    by_cases h5:lo<=n
    ·by_cases h6:(n:Int)<=hi
     ·have e0:R=true:=by rw[<-HQ.out,h1,h2,h3,h4,decide_eq_true h5,decide_eq_true h6];rfl
      clear HQ;go_wp2_with fail
      conv=>arg 2;whnf
      go_wp2_with fail;go_ret;exact⟨by first|rfl|(rw[e0];rfl)|(exact(congrArg (fun q=>Ending.returned (.bool q)) (decide_eq_true h6)).trans (by rw[e0]))|(exact(congrArg (fun q=>Ending.returned (.bool q)) (decide_eq_false (by omega))).trans (by rw[e0]))|(exact(congrArg (fun q=>Ending.returned (.bool q)) (decide_eq_false (by omega)))),(HX.out.trans HZ.out)⟩
     ·have e0:R=false:=by rw[<-HQ.out,decide_eq_false h6];simp
      clear HQ;go_wp2_with fail
      conv=>arg 2;whnf
      go_wp2_with fail;go_ret;exact⟨by first|rfl|(rw[e0];rfl)|(exact(congrArg (fun q=>Ending.returned (.bool q)) (decide_eq_true h6)).trans (by rw[e0]))|(exact(congrArg (fun q=>Ending.returned (.bool q)) (decide_eq_false (by omega))).trans (by rw[e0]))|(exact(congrArg (fun q=>Ending.returned (.bool q)) (decide_eq_false (by omega)))),(HX.out.trans HZ.out)⟩
    ·have e0:R=false:=by rw[<-HQ.out,decide_eq_false h5];simp
     clear HQ;go_wp2_with fail
     conv=>arg 2;whnf
     go_wp2_with fail;go_ret;exact⟨by first|rfl|(rw[e0];rfl)|(exact(congrArg (fun q=>Ending.returned (.bool q)) (decide_eq_true h6)).trans (by rw[e0]))|(exact(congrArg (fun q=>Ending.returned (.bool q)) (decide_eq_false (by omega))).trans (by rw[e0]))|(exact(congrArg (fun q=>Ending.returned (.bool q)) (decide_eq_false (by omega)))),(HX.out.trans HZ.out)⟩
end
end Go.Proofs.YtddomeddabfinaaGreatDoor
