/-
  Parts of the proof: PlS VaJ PaP TyS TyL.
-/
import Derived.Test.YtddomeddabfinaaGreatDoorTa23
import Derived.Test.YtddomeddabfinaaGreatDoorTa00
set_option maxRecDepth 100000
set_option maxHeartbeats 8000000
set_option linter.unusedVariables false
set_option linter.unusedSimpArgs false
set_option linter.unusedSectionVars false
namespace Go.Proofs.YtddomeddabfinaaGreatDoor
open Go.Proofs.Tryz
section
open Go.RowKit
def mV (i:Nat) (ts:List (List UInt8)):Nat:=(ts.map fun t=>t.length+i).sum
theorem fU (i:Nat) (t:List UInt8) (ts:List (List UInt8)):mV i (t::ts)=t.length+i+mV i ts:=by simp[mV]
theorem jZ {i j:Nat} (h:i<=j): ∀ts,mV i ts<=mV j ts
 | []=>ag _
 |t::ts=>by have:=jZ h ts;rw[fU,fU];omega
theorem rU (i:Nat): ∀ts:List (List UInt8),(ts.headD []).length<=mV i ts
 | []=>by simp[mV]
 |t::ts=>by rw[fU];simp;omega
theorem s7 (i:Nat): ∀ts:List (List UInt8),(ts.headD []).length+(ts.tail.headD []).length<=mV i ts
 | []=>by simp[mV]
 | [t]=>by rw[fU];simp[mV]<;>omega
 |t::u::ts=>by rw[fU,fU];simp;omega
theorem rZ {k:Int} {op nm tx:List UInt8} {v:Int} {ps:List Int} {ss:List (List UInt8)} (hv:k=1->v<=2147483647):
  (r5 k op nm tx v ps ss).length<=10+op.length+nm.length+2*tx.length+mV 2 ss:=by
 have h1:=rU 2 ss;have h2:=s7 2 ss;have h3:=oV [44,32] ss;have h4:=r_ tx;have h5:=m5 (decide (ps.headD 0<7)) (ss.headD []);have h6:=m5 (decide (ps.headD 0<ky op)) (ss.headD []);have h7:=m5 (decide (ps.tail.headD 0<=ky op)) (ss.tail.headD []);have h8:k=1->(gh v.toNat).length<=10:=fun h=>rh (hv h);simp only[ac,ae]at h3;change _<=mV 2 ss at h3;unfold r5;split
 ·have:=h8 (by assumption);omega
 repeat' split
 all_goals (try simp only[Z,ac,ae])
 all_goals omega
mutual
theorem ly: ∀x:Ex,x.ok=true->(cd x).length+2<=12*x.wt
 | .mk k op nm tx v a,h=>by
  rw[Ex.ok,ai]at h;have ha:=ny a h.2
  have hs:=rZ (k:=k) (op:=op) (nm:=nm) (tx:=tx) (v:=v) (ps:=a.map Ex.prec) (ss:=eE a) (fun e=>by
   subst e;have h1:=h.1;rw[if_pos rfl]at h1;simp only[ai,decide_eq_true_eq]at h1
   exact h1.1.1.2)
  rw[cd,Ex.wt];omega
theorem ny: ∀l:List Ex,m8 l=true->mV 2 (eE l)<=12*fF l
 | [],_=>by simp[eE,mV]
 |x::r,h=>by
  rw[m8,ai]at h;have:=ly x h.1;have:=ny r h.2;rw[eE,fU,fF];omega
end
theorem nZ (i:Nat) (ts:List (List UInt8)):(eM i ts).length=3+i+mV (i+2) ts:=by
 have h: ∀ts:List (List UInt8),(ts.flatMap (fun t=>iW (i+1)++t++[10])).length=mV (i+2) ts:=by
  intro ts
  induction ts with
  |nil=>rfl
  |cons t r ih=>rw[bS,Z,ih,fU];simp[iW];omega
 unfold eM;rw[Z,Z,h];simp[iW];omega
theorem rY {i:Nat} {k:Int} {nm:List UInt8} {es bs ls l0:List (List UInt8)} {mM:Bool} {E B L:Nat} (he:mV 0 es<=E) (hb:mV (i+2) bs<=B)
  (hl:mV (i+2) ls<=L) (h0:mV 0 l0<=L):(iJ i k nm es bs ls l0 mM).length<=20+2*i+nm.length+E+B+L:=by
 have h1:=rU 0 es;have h2:=s7 0 es;have h3:=rU 0 l0;have h4:=nZ i bs;have h5:=nZ i ls;unfold iJ;repeat' split
 all_goals simp only[Z,ac,ae,rT,BX,BJ,nq,wk,ki]
 all_goals omega
theorem Aq (i:Nat) (ts:List (List UInt8)):mV 0 ts<=mV i ts:=jZ (aF _) ts
mutual
theorem up: ∀(x:St) (i:Nat),x.ok=true->i+x.dep<=21->(dB x i).length+i+2<=150*x.wt
 | .mk k nm e b l,i,h,hd=>by
  rw[St.ok]at h;simp only[ai]at h;rw[St.dep]at hd;have h1:=ny e h.1.2;have hb:=iY b (i+1);have hl:=iY l (i+1);have h0:=iY l i;have hb':=hb h.2.1 (by omega);have hl':=hl h.2.2 (by omega);have h0':=h0 h.2.2 (by omega);have m1:=jZ (show i+2<=i+1+2 by omega) (bF b (i+1));have m2:=jZ (show i+2<=i+1+2 by omega) (bF l (i+1));have m3:=Aq 2 (eE e);have m4:=Aq (i+2) (bF l i);have:=rY (i:=i) (k:=k) (nm:=nm) (es:=eE e) (bs:=bF b (i+1)) (ls:=bF l (i+1)) (l0:=bF l i) (mM:=mw l) (E:=12*fF e) (B:=150*fj b) (L:=150*fj l)
   (by omega) (by omega) (by omega) (by omega)
  rw[dB,St.wt];omega
theorem iY: ∀(l:List St) (i:Nat),m7 l=true->i+fM l<=21->mV (i+2) (bF l i)<=150*fj l
 | [],i,_,_=>by simp[bF,mV]
 |x::r,i,h,hd=>by
  rw[m7,ai]at h;rw[fM]at hd;have:=up x i h.1 (by omega);have:=iY r i h.2 (by omega);rw[bF,fU,fj];omega
end
theorem jo {α:Type} (f g:α->Nat): ∀(l:List α),(∀x,x∈l->f x<=g x)->(l.map f).sum<=(l.map g).sum
 | [],_=>ag _
 |x::r,h=>by
  have:=jo f g r (fun y hy=>h y (gp _ hy));have:=h x (fK ..);simp only[bW,eJ];omega
theorem ge {α:Type} (c:Nat): ∀(l:List α),(l.map fun _=>c).sum=c*l.length
 | []=>rfl
 |x::r=>by rw[bW,eJ,ge c r,ac,Nat.mul_succ];omega
theorem nO {l:List UInt8} (h:dx l=true):l.length<=14:=by
 unfold dx at h;simp only[ai,decide_eq_true_eq]at h;exact h.1.1.2
theorem wy {v:Vr} (h:pQ v=true):(j3 v).length<=40:=by
 unfold pQ at h;simp only[ai,decide_eq_true_eq]at h;have:=nO h.1.1;have:=rh (v:=v.sz) (by omega);unfold j3;split<;>simp only[Z,ac,ae,rT]<;>omega
theorem zg {f:Fc} (h:nJ f=true):fM f.body<=20:=by
 unfold nJ at h;simp only[ai,bY,decide_eq_true_eq]at h;have h2:=h.2;clear h;generalize f.body=l at*
 induction l with
 |nil=>exact aF _
 |cons x r ih=>
  have:=ih fun s hs=>h2 s (gp _ hs);have:=(h2 x (fK ..)).1;rw[fM];omega
theorem wA {f:Fc} (h:nJ f=true):(j4 f).length<=100+150*fj f.body:=by
 have hb:=iY f.body 1 (nI h) (by have:=zg h;omega);have hk:=nZ 0 (bF f.body 1);have hj:=oV [44,32] f.ps;have hm:=jZ (show 0+2<=1+2 by omega) (bF f.body 1);unfold nJ at h;simp only[ai,bY,decide_eq_true_eq]at h;have h1:=nO h.1.1.1;have h2:=jo (fun s:List UInt8=>s.length+[44,32].length) (fun _=>16) f.ps (fun s hs=>by have:=nO (h.1.2 s hs);simp;omega);rw[ge]at h2;unfold j4;simp only[Z,ac,ae,qv];omega
theorem wz {p:Pg} (hv:p.vs.all pQ=true) (hf:p.fs.all nJ=true) (h1:p.vs.length<=20) (h2:p.fs.length<=20):(iZ p).length<=2800+150*(p.fs.map fun f=>fj f.body).sum:=by
 have a1:(p.vs.flatMap j3).length<=40*p.vs.length:=by
  rw[gH];have:=jo (fun v=>(j3 v).length) (fun _=>40) p.vs (fun v hm=>wy (List.all_eq_true.1 hv v hm));rwa [ge]at this
 have a2:(p.fs.flatMap j4).length<=100*p.fs.length+150*(p.fs.map fun f=>fj f.body).sum:=by
  rw[gH];have:=jo (fun f=>(j4 f).length) (fun f=>100+150*fj f.body) p.fs (fun f hm=>wA (List.all_eq_true.1 hf f hm));have e: ∀l:List Fc,(l.map fun f=>100+150*fj f.body).sum=100*l.length+150*(l.map fun f=>fj f.body).sum:=by
   intro l
   induction l with
   |nil=>rfl
   |cons f r ih=>simp only[bW,eJ,ac,ih];omega
  rwa [e]at this
 unfold iZ;rw[Z];omega
def cZ:List bK->Nat
 | []=>0
 |t::r=>2+t.t.length+cZ r
theorem ff {l:List bK} (h:(cg l).k≠0):cZ l=2+(cg l).t.length+cZ l.tail:=by
 cases l with
 |nil=>exact absurd rfl h
 |cons t r=>rfl
theorem sE {s:List UInt8} {l:List bK} (h:cI s l=true):(cg l).k≠0:=by
 intro e;simp[cI,e]at h
theorem ef {s:List UInt8} {l r:List bK} {u:Unit} (h:bT s l= .ok (u,r)):cZ r+2<=cZ l:=by
 obtain⟨h1,rfl,_⟩:=dQ h;have:=ff (sE h1);omega
theorem lG {l r:List bK} {nm:List UInt8} (h:gW l= .ok (nm,r)):nm.length+2+cZ r=cZ l:=by
 obtain⟨h1,rfl,rfl,_⟩:=j7 h;have:=ff (l:=l) (by rw[h1];decide);omega
theorem gu {s:List UInt8} {l:List bK} (h:cI s l=true):cZ l.tail+2<=cZ l:=by
 have:=ff (sE h);omega
theorem xC: ∀(f:Nat),
  (∀n l x r,bN f n l= .ok (x,r)->x.wt+1+cZ r<=cZ l)/\(∀n y l x r,gI f n y l= .ok (x,r)->x.wt+cZ r<=y.wt+cZ l)/\
  (∀l x r,cE f l= .ok (x,r)->x.wt+1+cZ r<=cZ l)/\(∀nm l x r,cj f nm l= .ok (x,r)->x.wt+cZ r<=1+nm.length+cZ l)/\
  (∀l x r,fp f l= .ok (x,r)->fF x+cZ r<=cZ l)/\(∀acc l x r,fX f acc l= .ok (x,r)->fF x+cZ r<=fF acc+cZ l)
 |0=>by
  refine⟨?_,?_,?_,?_,?_,?_⟩;all_goals (intros;rename_i h;simp[bN,gI,cE,cj,fp,fX]at h)
 |f+1=>by
  obtain⟨iE,iL,iP,iN,iA,iB⟩:=xC f;refine⟨?_,?_,?_,?_,?_,?_⟩
  ·intro n l x r h;rw[bN]at h;obtain⟨a,q,h1,h2⟩:=aM h;have:=iP _ _ _ h1;have:=iL _ _ _ _ _ h2;omega
  ·intro n y l x r h;rw[gI]at h;split at h
   ·rename_i hk;obtain⟨a,q,h1,h2⟩:=aM h;have:=iE _ _ _ _ h1;have:=iL _ _ _ _ _ h2;have:=ff (l:=l) (by rw[hk.1];decide);simp only[Ex.wt,fF,ae]at*;omega
   ·obtain⟨rfl,rfl⟩:=bx h;exact ag _
  ·intro l x r h;rw[cE]at h;split at h
   ·rename_i hk;have:=ff (l:=l) (by rw[hk];decide);obtain⟨rfl,rfl⟩:=bx h;simp only[Ex.wt,fF,ae];omega
   ·split at h
    ·rename_i hk;have:=ff (l:=l) (by rw[hk];decide);obtain⟨rfl,rfl⟩:=bx h;simp only[Ex.wt,fF,ae];omega
    ·split at h
     ·rename_i hk;have:=ff (l:=l) (by rw[hk];decide);have:=iN _ _ _ _ h;omega
     ·split at h
      ·rename_i hk;obtain⟨a,q,h1,h2⟩:=aM h;have:=iP _ _ _ h1;obtain⟨rfl,rfl⟩:=bx h2;have hne:(cg l).k≠0:=by
        rw[bE]at hk;rcases hk with hk|hk<;>exact sE hk
       have:=ff hne;simp only[Ex.wt,fF,ae]at*;omega
      ·obtain⟨a,q,h1,h2⟩:=aM h;obtain⟨a',q',h3,h4⟩:=aM h2;obtain⟨a'',q'',h5,h6⟩:=aM h4;have:=ef h1;have:=iE _ _ _ _ h3;have:=ef h5;obtain⟨rfl,rfl⟩:=bx h6;omega
  ·intro nm l x r h;rw[cj]at h;split at h
   ·rename_i hk;obtain⟨a,q,h1,h2⟩:=aM h;obtain⟨a',q',h3,h4⟩:=aM h2;have:=gu hk;have:=iE _ _ _ _ h1;have:=ef h3;obtain⟨rfl,rfl⟩:=bx h4;simp only[Ex.wt,fF,ae];omega
   ·split at h
    ·rename_i hk;obtain⟨a,q,h1,h2⟩:=aM h;have:=gu hk;have:=iA _ _ _ h1;obtain⟨rfl,rfl⟩:=bx h2;simp only[Ex.wt,ae];omega
    ·obtain⟨rfl,rfl⟩:=bx h;simp only[Ex.wt,fF,ae];omega
  ·intro l x r h;rw[fp]at h;split at h
   ·rename_i hk;have:=gu hk;obtain⟨rfl,rfl⟩:=bx h;simp only[fF];omega
   ·have:=iB _ _ _ _ h;simp only[fF]at this;omega
  ·intro acc l x r h;rw[fX]at h;obtain⟨a,q,h1,h2⟩:=aM h;have:=iE _ _ _ _ h1;split at h2
   ·rename_i hk;have:=gu hk;obtain⟨rfl,rfl⟩:=bx h2;rw[pt];simp only[fF];omega
   ·obtain⟨a',q',h3,h4⟩:=aM h2;have:=ef h3;have:=iB _ _ _ _ h4;rw[pt]at this;simp only[fF]at this;omega
theorem wm: ∀(f:Nat),
  (∀l x r,db f l= .ok (x,r)->fj x+cZ r<=cZ l)/\(∀acc l x r,eh f acc l= .ok (x,r)->fj x+cZ r<=fj acc+cZ l)/\
  (∀l x r,m6 f l= .ok (x,r)->x.wt+cZ r<=cZ l)/\(∀l x r,c_ f l= .ok (x,r)->x.wt+cZ r<=cZ l)
 |0=>by
  refine⟨?_,?_,?_,?_⟩;all_goals (intros;rename_i h;simp[db,eh,m6,c_]at h)
 |f+1=>by
  obtain⟨iB,iC,iI,iS⟩:=wm f;obtain⟨iE,_,_,iN,_,_⟩:=xC f;refine⟨?_,?_,?_,?_⟩
  ·intro l x r h;rw[db]at h;obtain⟨a,q,h1,h2⟩:=aM h;have:=ef h1;have:=iC _ _ _ _ h2;simp only[fj]at this;omega
  ·intro acc l x r h;rw[eh]at h;split at h
   ·rename_i hk;have:=gu hk;obtain⟨rfl,rfl⟩:=bx h;omega
   ·obtain⟨a,q,h1,h2⟩:=aM h;have:=iS _ _ _ h1;have:=iC _ _ _ _ h2;rw[sS]at this;simp only[fj]at this;omega
  ·intro l x r h;rw[m6]at h;obtain⟨a,q,h1,h2⟩:=aM h;obtain⟨a',q',h3,h4⟩:=aM h2;have:=iE _ _ _ _ h1;have:=iB _ _ _ h3;split at h4
   ·rename_i hk;have:=gu hk;split at h4
    ·rename_i hk2;have:=gu hk2;obtain⟨a2,q2,h5,h6⟩:=aM h4;have:=iI _ _ _ h5;obtain⟨rfl,rfl⟩:=bx h6;simp only[St.wt,fF,fj,ae];omega
    ·obtain⟨a2,q2,h5,h6⟩:=aM h4;have:=iB _ _ _ h5;obtain⟨rfl,rfl⟩:=bx h6;simp only[St.wt,fF,ae];omega
   ·obtain⟨rfl,rfl⟩:=bx h4;simp only[St.wt,fF,fj,ae];omega
  ·intro l x r h;rw[c_]at h;split at h
   ·rename_i hk;have:=gu hk;have:=iI _ _ _ h;omega
   ·split at h
    ·rename_i hk;have:=gu hk;obtain⟨a,q,h1,h2⟩:=aM h;obtain⟨a',q',h3,h4⟩:=aM h2;have:=iE _ _ _ _ h1;have:=iB _ _ _ h3;obtain⟨rfl,rfl⟩:=bx h4;simp only[St.wt,fF,fj,ae];omega
    ·split at h
     ·rename_i hk;have:=gu hk;obtain⟨nm,q,h1,h2⟩:=aM h;obtain⟨ex,q',h3,h4⟩:=aM h2;obtain⟨a,q'',h5,h6⟩:=aM h4;have:=lG h1;have:=ef h5;have he:fF ex+cZ q'<=cZ q:=by
       split at h3
       ·rename_i hk2;have:=gu hk2;obtain⟨y,q3,h7,h8⟩:=aM h3;have:=iE _ _ _ _ h7;obtain⟨rfl,rfl⟩:=bx h8;simp only[fF];omega
       ·obtain⟨rfl,rfl⟩:=bx h3;simp only[fF];omega
      obtain⟨rfl,rfl⟩:=bx h6;simp only[St.wt,fj];omega
     ·split at h
      ·rename_i hk;have:=gu hk;obtain⟨ex,q',h3,h4⟩:=aM h;obtain⟨a,q'',h5,h6⟩:=aM h4;have:=ef h5;have he:fF ex+cZ q'<=cZ l.tail:=by
        split at h3
        ·obtain⟨rfl,rfl⟩:=bx h3;simp only[fF];omega
        ·obtain⟨y,q3,h7,h8⟩:=aM h3;have:=iE _ _ _ _ h7;obtain⟨rfl,rfl⟩:=bx h8;simp only[fF];omega
       obtain⟨rfl,rfl⟩:=bx h6;simp only[St.wt,fj,ae];omega
      ·obtain⟨nm,q,h1,h2⟩:=aM h;obtain⟨s,q',h3,h4⟩:=aM h2;obtain⟨a,q'',h5,h6⟩:=aM h4;have:=lG h1;have:=ef h5;have he:s.wt+cZ q'<=2+nm.length+cZ q:=by
        split at h3
        ·obtain⟨y,q3,h7,h8⟩:=aM h3;have:=iN _ _ _ _ h7;obtain⟨rfl,rfl⟩:=bx h8;simp only[St.wt,fF,fj,ae];omega
        ·split at h3
         ·rename_i hk;have:=gu hk;obtain⟨y,q3,h7,h8⟩:=aM h3;obtain⟨_,q4,h9,h10⟩:=aM h8;obtain⟨_,q5,h11,h12⟩:=aM h10;obtain⟨z,q6,h13,h14⟩:=aM h12;have:=iE _ _ _ _ h7;have:=ef h9;have:=ef h11;have:=iE _ _ _ _ h13;obtain⟨rfl,rfl⟩:=bx h14;simp only[St.wt,fF,fj];omega
         ·obtain⟨_,q4,h9,h10⟩:=aM h3;obtain⟨z,q6,h13,h14⟩:=aM h10;have:=ef h9;have:=iE _ _ _ _ h13;obtain⟨rfl,rfl⟩:=bx h14;simp only[St.wt,fF,fj];omega
       obtain⟨rfl,rfl⟩:=bx h6;omega
def Fc.wt (f:Fc):Nat:=f.nm.length+(f.ps.map fun s=>s.length+1).sum+fj f.body
def ld (p:Pg):Nat:=(p.vs.map fun v=>v.nm.length+1).sum+(p.fs.map fun f=>f.wt+1).sum
theorem BS {l r:List bK} {v:Vr} (h:i_ l= .ok (v,r)):v.nm.length+1+cZ r<=cZ l/\0<=v.sz/\v.sz<=2000:=by
 unfold i_ at h;obtain⟨nm,q,h1,h2⟩:=aM h;obtain⟨sz,q',h3,h4⟩:=aM h2;obtain⟨a,q'',h5,h6⟩:=aM h4;have:=lG h1;have:=ef h5;have he:cZ q'<=cZ q/\0<=sz/\sz<=2000:=by
  split at h3
  ·rename_i hk;have:=gu hk;split at h3
   ·rename_i hk2;have:=ff (l:=q.tail) (by rw[hk2];decide);split at h3
    ·cases h3
    ·rename_i hk3;obtain⟨_,q3,h7,h8⟩:=aM h3;have:=ef h7;obtain⟨rfl,rfl⟩:=bx h8;omega
   ·cases h3
  ·obtain⟨rfl,rfl⟩:=bx h3;exact⟨ag _,by decide,by decide⟩
 obtain⟨rfl,rfl⟩:=bx h6;refine⟨?_,he.2⟩;change nm.length+1+_<=_;omega
theorem qN: ∀(f:Nat) acc l x r,eP f acc l= .ok (x,r)->(x.map fun s=>s.length+1).sum+cZ r<=(acc.map fun s:List UInt8=>s.length+1).sum+cZ l
 |0,acc,l,x,r,h=>by cases h
 |f+1,acc,l,x,r,h=>by
  rw[eP]at h;obtain⟨a,q,h1,h2⟩:=aM h;have:=lG h1;split at h2
  ·rename_i hk;have:=gu hk;obtain⟨rfl,rfl⟩:=bx h2;simp;omega
  ·obtain⟨a',q',h3,h4⟩:=aM h2;have:=ef h3;have:=qN f _ _ _ _ h4;simp at this;omega
theorem zm {f:Nat} {l r:List bK} {x:List (List UInt8)} (h:eY f l= .ok (x,r)):(x.map fun s=>s.length+1).sum+cZ r<=cZ l:=by
 unfold eY at h;split at h
 ·rename_i hk;have:=gu hk;obtain⟨rfl,rfl⟩:=bx h;simp;omega
 ·have:=qN _ _ _ _ _ h;simpa using this
theorem Bk {f:Nat} {l r:List bK} {x:Fc} (h:jH f l= .ok (x,r)):x.wt+1+cZ r<=cZ l:=by
 unfold jH at h;obtain⟨nm,q,h1,h2⟩:=aM h;obtain⟨_,q1,h3,h4⟩:=aM h2;obtain⟨ps,q2,h5,h6⟩:=aM h4;obtain⟨b,q3,h7,h8⟩:=aM h6;have:=lG h1;have:=ef h3;have:=zm h5;have:=(wm f).1 _ _ _ h7;obtain⟨rfl,rfl⟩:=bx h8;change nm.length+(ps.map fun s=>s.length+1).sum+fj b+1+_<=_;omega
theorem sa: ∀(f:Nat) (p:Pg) (l:List bK) (x:Pg) (r:List bK),cR f p l= .ok (x,r)->ld x<=ld p+cZ l/\((∀v,v∈p.vs->0<=v.sz/\v.sz<=2000)-> ∀v,v∈x.vs->0<=v.sz/\v.sz<=2000)
 |0,p,l,x,r,h=>by cases h
 |f+1,p,l,x,r,h=>by
  rw[cR]at h;split at h
  ·obtain⟨rfl,rfl⟩:=bx h;exact⟨by omega,fun h=>h⟩
  ·split at h
   ·rename_i hk;have:=gu hk;obtain⟨v,q,h1,h2⟩:=aM h;have h3:=BS h1;have h4:=sa f _ _ _ _ h2;refine⟨?_,fun hp=>h4.2 fun u hu=> ?_⟩
    ·have:=h4.1;simp only[ld,gA,List.sum_append,bW,dZ,eJ,List.sum_nil]at this⊢;omega
    ·rcases List.mem_append.1 hu with hu|hu
     ·exact hp u hu
     ·rw[cA]at hu;subst hu;exact h3.2
   ·obtain⟨_,q,h1,h2⟩:=aM h;obtain⟨c,q',h3,h4⟩:=aM h2;have:=ef h1;have:=Bk h3;have h5:=sa f _ _ _ _ h4;refine⟨?_,h5.2⟩;have:=h5.1;simp only[ld,gA,List.sum_append,bW,dZ,eJ,List.sum_nil]at this⊢;omega
theorem wR (p:Pg):(p.fs.map fun f=>fj f.body).sum<=ld p:=by
 have:=jo (fun f:Fc=>fj f.body) (fun f=>f.wt+1) p.fs (fun f _=>by unfold Fc.wt;omega);unfold ld;omega
theorem pY {α:Type} (f:α->Nat): ∀(l:List α) (x:α),x∈l->f x<=(l.map f).sum
 |y::r,x,h=>by
  rw[bW,eJ];rcases List.mem_cons.1 h with rfl|h
  ·omega
  ·have:=pY f r x h;omega
end
section
open Go.RowKit
structure VQ (px:Nat) (w0:World) (P:Nat->Prop) (vv fv:Value) (p:Pg) (W:World):Prop where
 box:aQ W px 34 #[vv,fv]
 rv:li W P vv p.vs
 rf:lW W P fv p.fs
 ext:au w0 W
theorem VQ.ex {px:Nat} {w0 W W':World} {P:Nat->Prop} {vv fv:Value} {p:Pg} (h:VQ px w0 P vv fv p W) (hE:au W W'):VQ px w0 P vv fv p W':=
 ⟨h.box.ext hE,h.rv.keep (.of_ext hE) (fun _ hb _=>hb),h.rf.keep (.of_ext hE) (fun _ hb _=>hb),h.ext.trans hE⟩
def pS (s:St):Bool:=decide (s.dep<=20)&&s.ok
theorem gF {α:Type} (f:α->Bool) (l:List α) (j:Nat) (h:j<l.length) (hf:f l[j]=false):l.all f=false:=by
 cases hh:l.all f with
 |false=>rfl
 |true=>rw[bY]at hh;have:=hh _ (ap h);rw[hf]at this;cases this
theorem gZ {α:Type} (f:α->Bool) (l:List α) (j:Nat) (h:j<l.length) (h1:(l.take j).all f=true) (h2:f l[j]=true):(l.take (j+1)).all f=true:=by
 rw[bp h,jA,h1];simp[h2]
theorem tY (p:Pg) (hvn: ∀v,v∈p.vs->v.nm.length<=1073741824) (P:Nat->Prop) (w:World) (A B:Option Addr) (n c m d:Nat) (hfn: ∀f,f∈p.fs->f.nm.length<=1073741824/\(∀y,y∈f.ps->y.length<=1073741824)/\ ∀s,s∈f.body->s.wt<=1073741824) (hsrc:p.vs.all pQ=true->p.fs.all nJ=true->p.vs.length<=20->p.fs.length<=20->(iZ p).length<=1000000000) (hV:li w P (.slice A n c) p.vs) (hF:lW w P (.slice B m d) p.fs) (hT:dg w w.heap.size):
  Calls prog 35 #[.agg #[.slice A n c, .slice B m d]] w fun e w'=>e= .returned (.bool (gD p))/\au w w':=by
 have hnv:n=p.vs.length/\n<=maxLen:=by
  obtain⟨A',c',hv,h⟩:=hV;injection hv with _ hn _;refine⟨hn,?_⟩;rcases h with h|⟨h1,h2,_⟩
  ·rw[hn,h];exact aF _
  ·omega
 have hnf:m=p.fs.length/\m<=maxLen:=by
  obtain⟨A',c',hv,h⟩:=hF;injection hv with _ hn _;refine⟨hn,?_⟩;rcases h with h|⟨h1,h2,_⟩
  ·rw[hn,h];exact aF _
  ·omega
 obtain⟨hnv,hnm⟩:=hnv;obtain⟨hnf,hnn⟩:=hnf;unfold maxLen at hnm hnn;have HNV:=G hnv;have HNF:=G hnf;have HVN:=G hvn;have HFN0:=G hfn;have HSRC:=G hsrc;have HTAB:=G hT;generalize hR:gD p=R;have HR:=G hR;have hEb:=I w (.cells #[.slice A n c, .slice B m d] 34);have HC0:=G (show VQ w.heap.size w P (.slice A n c) (.slice B m d) p (w.alloc (.cells #[.slice A n c, .slice B m d] 34))from⟨am w _ _,hV.keep (.of_ext hEb) (fun _ hb _=>hb),hF.keep (.of_ext hEb) (fun _ hb _=>hb),hEb⟩);have hbc:=HC0.out.box.cell;clear hnv hnf hvn hfn hsrc hR hEb hV hF hT;go_enter func35,ntmps35;go_wp2_with fail
 go_loopw [12] (fun vi wr=> ∃j:Nat,vi= .int .i64 (j:Int)/\j<=n/\Hid ((p.vs.take j).all pQ=true)/\Hid (VQ w.heap.size w P (.slice A n c) (.slice B m d) p wr)) (fun vi _=>n-(intOf vi).toNat)
 case atStart=>exact⟨0,rfl,aF _,G (by simp),HC0⟩
 case round=>
  clear HC0 hbc;obtain⟨j,rfl,hj,HA,HCr⟩:=hrel;by_cases hlt:j<n
  ·have hlt':(j:Int)<n:=by omega
   have hjl:j<p.vs.length:=by have:=HNV.out;omega
   obtain⟨A',c',hv,hh⟩:=HCr.out.rv;injection hv with hA hn' hc';rcases hh with hh|⟨h1,h2,b9,o9,hA2,hP9,hb9,hcl⟩
   ·rw[hh]at hjl;simp at hjl
   obtain⟨e0,e1⟩:=hcl j hjl;have hA3:A=some ⟨b9,o9,none⟩:=hA.trans hA2;subst hA3;clear hcl hA hA2 hn' hc' h1 h2 hP9;have hvl:=HVN.out _ (ap hjl);have HBAD:=G (fun h:pQ p.vs[j]=false=>show R=false by rw[<-HR.out,gD,gF pQ p.vs j hjl h];rfl);have HGOOD:=G (fun h:pQ p.vs[j]=true=>gZ pQ p.vs j hjl HA.out h);have HOKV:=G (show pQ p.vs[j]=(dx p.vs[j].nm&&decide (0<=p.vs[j].sz)&&decide (p.vs[j].sz<=2000))from rfl);generalize pQ p.vs[j]=ov at*;generalize p.vs[j].nm=vn at*;generalize p.vs[j].sz=vz at*;have HI:=G (cP vn hvl);generalize dx vn=bn at*;have HC1:=G (HCr.out.ex (I wr (.cells #[.string (ah vn), .int .i64 vz] 85)));have hyc:=(am wr 85 #[.string (ah vn), .int .i64 vz]).cell;by_cases hok:bn=true/\0<=vz/\vz<=2000
   ·obtain⟨rfl,hz0,hz1⟩:=hok;have HT:=G (HGOOD.out (by rw[HOKV.out];simp[hz0,hz1]));have hz2: ¬vz<0:=by omega
    have hz3: ¬2000<vz:=by omega
    go_wp2_with (go_at_call 66;refine(HI.out _).mono ?_;rintro e w1 ⟨rfl,rfl⟩);go_roundw
    case rel=>exact⟨j+1,by go_num,by omega,HT,HC1⟩
    case measure=>simp[intOf];omega
   ·have HFN:=G (HBAD.out (by
     rw[HOKV.out]
     cases bn with
     |false=>rfl
     |true=>
      by_cases h0:0<=vz
      ·have h1: ¬vz<=2000:=fun h=>hok ⟨rfl,h0,h⟩;simp[h1]
      ·simp[h0]))
    have HZ:=G HC1.out.ext
    cases bn with
    |false=>
     clear hok;go_wp2_with (go_at_call 66;refine(HI.out _).mono ?_;rintro e w1 ⟨rfl,rfl⟩);go_ret;exact⟨by rw[HFN.out];rfl,HZ.out⟩
    |true=>
     by_cases hz0:vz<0
     ·clear hok;go_wp2_with (go_at_call 66;refine(HI.out _).mono ?_;rintro e w1 ⟨rfl,rfl⟩);go_ret;exact⟨by rw[HFN.out];rfl,HZ.out⟩
     ·have hz1:2000<vz:=by
       by_cases h:2000<vz
       ·exact h
       ·exact absurd ⟨rfl,by omega,by omega⟩ hok
      clear hok;go_wp2_with (go_at_call 66;refine(HI.out _).mono ?_;rintro e w1 ⟨rfl,rfl⟩);go_ret;exact⟨by rw[HFN.out];rfl,HZ.out⟩
  ·have hlt': ¬(j:Int)<n:=by omega
   have hjn:j=n:=by omega
   have HQ:=G (show p.vs.all pQ=true by have:=HA.out;rwa [hjn,HNV.out,bD]at this);have hbc:=HCr.out.box.cell;go_wp2_with fail;clear hlt hlt' hjn hj HA
   go_loopw [34] (fun vi wr=> ∃j:Nat,vi= .int .i64 (j:Int)/\j<=m/\Hid ((p.fs.take j).all nJ=true)/\Hid (VQ w.heap.size w P (.slice A n c) (.slice B m d) p wr)) (fun vi _=>m-(intOf vi).toNat)
   case atStart=>exact⟨0,rfl,aF _,G (by simp),HCr⟩
   case round=>
    clear HCr hbc;obtain⟨j,rfl,hj,HA,HCr⟩:=hrel;by_cases hlt:j<m
    ·have hlt':(j:Int)<m:=by omega
     have hjl:j<p.fs.length:=by have:=HNF.out;omega
     obtain⟨A',c',hv,hh⟩:=HCr.out.rf;injection hv with hA hn' hc';rcases hh with hh|⟨h1,h2,b9,o9,hA2,hP9,hb9,pv,bv,hcl⟩
     ·rw[hh]at hjl;simp at hjl
     obtain⟨e0,e1,e2,hrn,hrs⟩:=hcl j hjl;have hA3:B=some ⟨b9,o9,none⟩:=hA.trans hA2;subst hA3;clear hcl hA hA2 hn' hc' h1 h2 hP9;obtain⟨hfl,hfp,hfw⟩:=HFN0.out _ (ap hjl);have HBAD:=G (fun h:nJ p.fs[j]=false=>show R=false by rw[<-HR.out,gD,gF nJ p.fs j hjl h];simp);have HGOOD:=G (fun h:nJ p.fs[j]=true=>gZ nJ p.fs j hjl HA.out h);have HOKF:=G (show nJ p.fs[j]=(dx p.fs[j].nm&&decide (p.fs[j].ps.length<=4)&&p.fs[j].ps.all dx&&p.fs[j].body.all pS)from rfl);generalize nJ p.fs[j]=ov at*;generalize p.fs[j].nm=fn at*;generalize p.fs[j].ps=fps at*;generalize p.fs[j].body=fb at*;generalize pv j=pvj at*;generalize bv j=bvj at*;obtain⟨Ap,cp,rfl,hcap⟩:=id hrn;obtain⟨Ab,cbb,rfl,hbl⟩:=hrs.form;have hbl:fb.length<=maxLen:=by
      rcases hbl with h|⟨h1,h2,_⟩
      ·rw[h];exact aF _
      ·omega
     unfold maxLen at hbl;have HI:=G (cP fn hfl);generalize dx fn=bn at*;have hEA:=I wr (.cells #[.string (ah fn), .slice Ap fps.length cp, .slice Ab fb.length cbb] 59);have HC1:=G (HCr.out.ex hEA);have HYB:=G (am wr 59 #[.string (ah fn), .slice Ap fps.length cp, .slice Ab fb.length cbb]);have hyc:=HYB.out.cell;have HRn:=G (hrn.keep (.of_ext hEA) (fun _ hb _=>hb));have HRs:=G (hrs.keep (.of_ext hEA) (fun _ hb _=>hb));have HCON:=G (fun(W:World) (h:lk W P (.slice Ap fps.length cp) fps) (h4:fps.length<=1073741824)=>xP (fun y=> !dx y) fps P W Ap fps.length cp h h4 (fun y hy w' _=>rI y (hfp y hy) w'));clear hEA hrn hrs hcap
     cases bn with
     |false=>
      have HFN:=G (HBAD.out (by rw[HOKF.out];simp));have HZ:=G HC1.out.ext;go_wp2_with (go_at_call 66;refine(HI.out _).mono ?_;rintro e w1 ⟨rfl,rfl⟩);go_ret;exact⟨by rw[HFN.out];rfl,HZ.out⟩
     |true=>
      by_cases h4:4<fps.length
      ·have HFN:=G (HBAD.out (by rw[HOKF.out];simp[show ¬fps.length<=4 from by omega]));have HZ:=G HC1.out.ext;have h4i:(4:Int)<fps.length:=by omega
       go_wp2_with (go_at_call 66;refine(HI.out _).mono ?_;rintro e w1 ⟨rfl,rfl⟩);go_ret;exact⟨by rw[HFN.out];rfl,HZ.out⟩
      ·have h4i: ¬(4:Int)<fps.length:=by omega
       have HCO:=G (HCON.out _ HRn.out (by omega));have HAL:=G (show fps.any (fun y=> !dx y)= !fps.all dx from by rw[List.not_all_eq_any_not]);rw[HAL.out]at HCO;clear HAL HCON
       cases hal:fps.all dx with
       |false=>
        rw[hal]at HCO;have HFN:=G (HBAD.out (by rw[HOKF.out,hal];simp));clear hal;go_wp2_with (first|(go_at_call 66;refine(HI.out _).mono ?_;rintro e w1 ⟨rfl,rfl⟩)|(go_at_call 67;refine HCO.out.mono ?_;rintro e w3 ⟨rfl,hE⟩;have HZ:=G (HC1.out.ex hE).ext;clear hE));go_ret;exact⟨by rw[HFN.out];rfl,HZ.out⟩
       |true=>
        rw[hal]at HCO;have HT0:=G (show ov=fb.all pS from by rw[HOKF.out,hal];simp[show fps.length<=4 from by omega]);clear hal;go_wp2_with (first|(go_at_call 66;refine(HI.out _).mono ?_;rintro e w1 ⟨rfl,rfl⟩)|(go_at_call 67;refine HCO.out.mono ?_;rintro e w3 ⟨rfl,hE⟩;have HC2:=G (HC1.out.ex hE);have HYB2:=G (HYB.out.ext hE);clear hyc;have hyc:=HYB2.out.cell;have HRw:=G (HRs.out.keep (.of_ext hE) (fun _ hb _=>hb));clear hE HC1));clear hyc
        go_loopw [56] (fun vk wr=> ∃k:Nat,vk= .int .i64 (k:Int)/\k<=fb.length/\Hid ((fb.take k).all pS=true)/\Hid (VQ w.heap.size w P (.slice A n c) (.slice (some ⟨b9,o9,none⟩) m d) p wr)/\Hid (cK wr P (.slice Ab fb.length cbb) fb)) (fun vk _=>fb.length-(intOf vk).toNat)
        case atStart=>exact⟨0,rfl,aF _,G (by simp),HC2,HRw⟩
        case round=>
         clear HC2 HRw HYB2 HYB HRs HRn HCO HCr;obtain⟨k,rfl,hk,HAk,HCq,HRq⟩:=hrel;by_cases hkl:k<fb.length
         ·have hkl':(k:Int)<fb.length:=by omega
          obtain⟨bs,os,eu,ev,ez,rfl,hbs,hPs,q0,q1,q2,q3,q4,hre,hrb,hrl⟩:=HRq.out.at_ k hkl;have hw:=hfw _ (ap hkl);have HBk:=G (fun h:pS fb[k]=false=>HBAD.out (by rw[HT0.out,gF pS fb k hkl h]));have HGk:=G (fun h:pS fb[k]=true=>gZ pS fb k hkl HAk.out h);have HOk:=G (show pS fb[k]=(decide (fb[k].dep<=20)&&fb[k].ok)from rfl);generalize pS fb[k]=os1 at*;generalize fb[k]=y at*;obtain⟨Ey,ey,rfl,_⟩:=hre.form;obtain⟨By,by_,rfl,_⟩:=hrb.form;obtain⟨Cy,cy,rfl,_⟩:=hrl.form;have hEA:=I wr (.cells #[.int .i64 y.k, .string (ah y.nm), .slice Ey y.ex.length ey, .slice By y.body.length by_, .slice Cy y.els.length cy] 72);have HC3:=G (HCq.out.ex hEA);have HR3:=G (HRq.out.keep (.of_ext hEA) (fun _ hb _=>hb) (Q:=P));have HYS:=G (am wr 72 #[.int .i64 y.k, .string (ah y.nm), .slice Ey y.ex.length ey, .slice By y.body.length by_, .slice Cy y.els.length cy]);have hys:=HYS.out.cell;have HS3:=G (ax (hre.keep (.of_ext hEA) (fun _ hb _=>hb) (Q:=P)) (ax (hrb.keep (.of_ext hEA) (fun _ hb _=>hb) (Q:=P)) (hrl.keep (.of_ext hEA) (fun _ hb _=>hb) (Q:=P))));have HD:=G (fun W h1 h2 h3=>qA y.wt y (ag _) hw P W Ey By Cy y.ex.length ey y.body.length by_ y.els.length cy h1 h2 h3);have HVd:=G (fun W h1 h2 h3=>nr y.wt y (ag _) hw P W Ey By Cy y.ex.length ey y.body.length by_ y.els.length cy h1 h2 h3);clear hre hrb hrl hEA hw;generalize y.dep=dd at*;generalize y.ok=ok1 at*;by_cases hd:dd<=20
          ·have hdi: ¬(20:Int)<dd:=by omega
           cases ok1 with
           |true=>
            have HTk:=G (HGk.out (by rw[HOk.out];simp[hd]));go_wp2_with (first|(go_at_call 69;refine(HD.out _ HS3.out.1 HS3.out.2.1 HS3.out.2.2).mono ?_;rintro e w4 ⟨rfl,hE⟩;have HC4:=G (HC3.out.ex hE);have HR4:=G (HR3.out.keep (.of_ext hE) (fun _ hb _=>hb) (Q:=P));have HYS2:=G (HYS.out.ext hE);clear hys;have hys:=HYS2.out.cell;have HS4:=G (ax (HS3.out.1.keep (.of_ext hE) (fun _ hb _=>hb) (Q:=P)) (ax (HS3.out.2.1.keep (.of_ext hE) (fun _ hb _=>hb) (Q:=P)) (HS3.out.2.2.keep (.of_ext hE) (fun _ hb _=>hb) (Q:=P))));clear hE HC3)|(go_at_call 70;refine(HVd.out _ HS4.out.1 HS4.out.2.1 HS4.out.2.2).mono ?_;rintro e w5 ⟨rfl,hE⟩;have HC5:=G (HC4.out.ex hE);have HR5:=G (HR4.out.keep (.of_ext hE) (fun _ hb _=>hb) (Q:=P));clear hE HC4));go_roundw
            case rel=>exact⟨k+1,by go_num,by omega,HTk,HC5,HR5⟩
            case measure=>simp[intOf];omega
           |false=>
            have HFN:=G (HBk.out (by rw[HOk.out];simp));go_wp2_with (first|(go_at_call 69;refine(HD.out _ HS3.out.1 HS3.out.2.1 HS3.out.2.2).mono ?_;rintro e w4 ⟨rfl,hE⟩;have HC4:=G (HC3.out.ex hE);have HR4:=G (HR3.out.keep (.of_ext hE) (fun _ hb _=>hb) (Q:=P));have HYS2:=G (HYS.out.ext hE);clear hys;have hys:=HYS2.out.cell;have HS4:=G (ax (HS3.out.1.keep (.of_ext hE) (fun _ hb _=>hb) (Q:=P)) (ax (HS3.out.2.1.keep (.of_ext hE) (fun _ hb _=>hb) (Q:=P)) (HS3.out.2.2.keep (.of_ext hE) (fun _ hb _=>hb) (Q:=P))));clear hE HC3)|(go_at_call 70;refine(HVd.out _ HS4.out.1 HS4.out.2.1 HS4.out.2.2).mono ?_;rintro e w5 ⟨rfl,hE⟩;have HZ:=G (HC4.out.ex hE).ext;clear hE HC4));go_ret;exact⟨by rw[HFN.out];rfl,HZ.out⟩
          ·have hdi:(20:Int)<dd:=by omega
           have HFN:=G (HBk.out (by rw[HOk.out];simp[hd]));go_wp2_with (go_at_call 69;refine(HD.out _ HS3.out.1 HS3.out.2.1 HS3.out.2.2).mono ?_;rintro e w4 ⟨rfl,hE⟩;have HZ:=G (HC3.out.ex hE).ext;clear hE HC3);go_ret;exact⟨by rw[HFN.out];rfl,HZ.out⟩
         ·have hkl': ¬(k:Int)<fb.length:=by omega
          have hkn:k=fb.length:=by omega
          have HT:=G (HGOOD.out (by have:=HAk.out;rw[hkn,bD]at this;rw[HT0.out];exact this));go_wp2_with fail;go_roundw
          case rel=>exact⟨j+1,by go_num,by omega,HT,HCq⟩
          case measure=>simp[intOf];omega
    ·have hlt': ¬(j:Int)<m:=by omega
     have hjn:j=m:=by omega
     have HQF:=G (show p.fs.all nJ=true by have:=HA.out;rwa [hjn,HNF.out,bD]at this);have HRR:=G (show R=(decide (n<=20)&&decide (m<=20)&&decide ((iZ p).length<=4000)) by rw[<-HR.out,gD,HQ.out,HQF.out,<-HNV.out,<-HNF.out];simp);have hbc:=HCr.out.box.cell;clear hj hjn HA HR;by_cases h20:n<=20
     ·have h20i:(n:Int)<=20:=by omega
      by_cases hm20:m<=20
      ·have hm20i:(m:Int)<=20:=by omega
       have HSO:=G (rX p (fun f hf=>nI (List.all_eq_true.1 HQF.out f hf)) (fun v hv=>by have:=List.all_eq_true.1 HQ.out v hv;unfold pQ at this;simp only[ai,decide_eq_true_eq]at this;omega) P _ A B n c m d HCr.out.rv HCr.out.rf ⟨(HTAB.out.fb (aS HCr.out.ext (ag _))).1,az HTAB.out.2 HCr.out.ext.size⟩ (HSRC.out HQ.out HQF.out (by have:=HNV.out;omega) (by have:=HNF.out;omega)));generalize iZ p=S at*;have hsz:(ah S).size=S.length:=a6 S;by_cases hs:S.length<=4000
       ·have hsi:(S.length:Int)<=4000:=by omega
        go_wp2_with (go_at_call 57;refine HSO.out.mono ?_;rintro e w9 ⟨rfl,hE⟩;have HZ:=G (HCr.out.ex hE).ext;clear hE);go_ret;exact⟨by rw[HRR.out];simp[h20,hm20,hs,cW],HZ.out⟩
       ·have hsi: ¬(S.length:Int)<=4000:=by omega
        go_wp2_with (go_at_call 57;refine HSO.out.mono ?_;rintro e w9 ⟨rfl,hE⟩;have HZ:=G (HCr.out.ex hE).ext;clear hE);go_ret;exact⟨by rw[HRR.out];simp[h20,hm20,hs,cW];(try omega),HZ.out⟩
      ·have hm20i: ¬(m:Int)<=20:=by omega
       have HZ:=G HCr.out.ext;go_wp2_with fail;go_ret;exact⟨by rw[HRR.out];simp[h20,hm20,cW],HZ.out⟩
     ·have h20i: ¬(n:Int)<=20:=by omega
      have HZ:=G HCr.out.ext;go_wp2_with fail;go_ret;exact⟨by rw[HRR.out];simp[h20,cW],HZ.out⟩
end
section
open Go.RowKit
theorem oS: ∀(f:Nat) (m:List UInt8) (t:List UInt8) (n:Nat),mS f m=some (t,n)->t.length+1<=n
 |0,m,t,n,h=>by cases h
 |f+1,[],t,n,h=>by cases h
 |f+1,c::r,t,n,h=>by
  simp only[mS]at h;split at h
  ·cases h;simp
  ·split at h
   ·cases h
   ·obtain⟨⟨t',n'⟩,h1,h2⟩:=Option.map_eq_some_iff.1 h
    cases h2;have:=oS f _ t' n' h1;show(_::t').length+1<=(ch (c::r)).2+n';rw[ac];omega
theorem ug {c:UInt8} {r:List UInt8} {k:Int} {t:List UInt8} {v:Int} {n:Nat} (h:jX (c::r)= .ok ((k,t,v),n)):t.length<=n:=by
 simp only[jX]at h;split at h
 ·unfold jE at h;split at h
  ·cases h;rw[be];omega
  ·split at h
   ·cases h
   ·cases h;rw[be];omega
 ·split at h
  ·unfold gV at h;split at h
   ·cases h
   ·split at h
    ·cases h
    ·cases h;simp
  ·split at h
   ·unfold iz at h;split at h
    ·cases h
    ·cases h;simp
   ·split at h
    ·unfold iV at h;split at h
     ·cases h
     ·rename_i t' n' hl;split at h
      ·cases h
      ·cases h;have:=oS _ _ _ _ hl;omega
    ·unfold ip at h;split at h
     ·cases h;rw[be];omega
     ·split at h
      ·cases h;rw[be];omega
      ·cases h
theorem s6: ∀(f:Nat) (m:List UInt8) (a:Nat) (ts:List bK),gq f m a= .ok ts->cZ ts<=3*m.length
 |0,m,a,ts,h=>by cases h;simp[cZ]
 |f+1,m,a,ts,h=>by
  simp only[gq]at h;split at h
  ·cases h;simp[cZ]
  ·rename_i c r hd;split at h
   ·cases h
   ·rename_i k t v n ht;have hn:=nk ht;have hx:=ug ht;split at h
    ·cases h
    ·rename_i us hu
     cases h;have:=s6 f _ _ us hu;have hl:(c::r).length<=m.length:=by rw[<-hd,bg];omega
     rw[bg]at this;simp only[cZ,ac]at this hl hn⊢;omega
theorem kH: ∀(f:Nat) (m:List UInt8) (a:Nat) (ts:List bK),gq f m a= .ok ts->ts.length<=m.length
 |0,m,a,ts,h=>by cases h;simp
 |f+1,m,a,ts,h=>by
  simp only[gq]at h;split at h
  ·cases h;simp
  ·rename_i c r hd;split at h
   ·cases h
   ·rename_i k t v n ht;have hn:=nk ht;split at h
    ·cases h
    ·rename_i us hu
     cases h;have:=kH f _ _ us hu;have hl:(c::r).length<=m.length:=by rw[<-hd,bg];omega
     rw[bg]at this;simp only[ac]at this hl hn⊢;omega
theorem yD (l:List UInt8):(gc l).1.length<=4000/\cZ (gc l).1<=12000:=by
 unfold gc;split
 ·simp[cZ]
 ·split
  ·rename_i h _ ts ht;have:=kH _ _ _ _ ht;have:=s6 _ _ _ _ ht;show ts.length<=4000/\cZ ts<=12000;omega
  ·simp[cZ]
def kT:Pg:=⟨[],[]⟩
def uG (n:Nat) (ts:List bK):Pg×Int×Int:=match cR (4*ts.length+8) kT ts with
 | .ok (p,_)=>if gD p then(p,0,0)else(kT,0,6)
 | .error (q,e)=>(kT,Cr n q,e)
def lD (s:List UInt8):Pg×Int×Int:=if(gc s).2.2=0 then uG s.length (gc s).1 else(kT,(gc s).2.1,(gc s).2.2)
theorem wW {p:Pg} (hw:ld p<=6000000) (hv:p.vs.all pQ=true) (hf:p.fs.all nJ=true) (h1:p.vs.length<=20) (h2:p.fs.length<=20):(iZ p).length<=1000000000:=by
 have:=wz hv hf h1 h2;have:=wR p;omega
theorem wP {p:Pg} {v:Vr} (h:v∈p.vs):v.nm.length<=ld p:=by
 have:=pY (fun v:Vr=>v.nm.length+1) p.vs v h;unfold ld;omega
theorem nF {p:Pg} {f:Fc} (h:f∈p.fs):f.wt<=ld p:=by
 have:=pY (fun f:Fc=>f.wt+1) p.fs f h;unfold ld;omega
theorem tp {f:Fc}:f.nm.length<=f.wt:=by unfold Fc.wt;omega
theorem wQ {f:Fc} {y:List UInt8} (h:y∈f.ps):y.length<=f.wt:=by
 have:=pY (fun s:List UInt8=>s.length+1) f.ps y h;unfold Fc.wt;omega
theorem Ce {f:Fc} {s:St} (h:s∈f.body):s.wt<=f.wt:=by
 have:=bQ h;unfold Fc.wt;omega
theorem sU (p:Pg) (hw:ld p<=6000000) (P:Nat->Prop) (w:World) (A B:Option Addr) (n c m d:Nat) (hV:li w P (.slice A n c) p.vs) (hF:lW w P (.slice B m d) p.fs) (hT:dg w w.heap.size):
  Calls prog 35 #[.agg #[.slice A n c, .slice B m d]] w fun e w'=>e= .returned (.bool (gD p))/\au w w':=
 tY p (fun v hv=>by have:=wP hv;omega) P w A B n c m d
  (fun f hf=>⟨by have:=nF hf;have:=tp (f:=f);omega,fun y hy=>by have:=nF hf;have:=wQ hy;omega,fun s hs=>by have:=nF hf;have:=Ce hs;omega⟩)
  (fun h1 h2 h3 h4=>wW hw h1 h2 h3 h4) hV hF hT
end
section
section
variable (fn:List UInt8->Fc)
mutual
def yt:Ex->Bool
 | .mk k op nm tx v a=>
  if k=1\/k=3 then true
  else if k=4\/k=6 then decide (1<=a.length)&&vG a
  else if k=5 then(match dR nm with
   |some (c,ls)=>decide (a.length=ls.length)&&(decide (c≠9)||a.all (fun y=>y.k !=2))&&AQ ls a
   |none=>decide ((fn nm).ps.length<=a.length)&&vG a)
  else if k=7 then decide (2<=a.length)&&vG a
  else false
def vG:List Ex->Bool
 | []=>true
 |y::r=>yt y&&vG r
def AQ:List UInt8->List Ex->Bool
 | _,[]=>true
 |ls,y::r=>(ls.headD 0 !=105||yt y)&&AQ ls.tail r
end
mutual
def AP:St->Bool
 | .mk k nm ex b e=>(if k=5 then decide (1<=ex.length)else if k=3 then decide (2<=ex.length)else decide (1<=k/\k<=7))&&vG fn ex&&(nB b&&nB e)
def nB:List St->Bool
 | []=>true
 |s::r=>AP s&&nB r
end
end
theorem cV {α β:Type} {x:Except Er α} {k:α->Except Er β} {b:β} (h:CR.then x k= .ok b): ∃a,x= .ok a/\k a= .ok b:=by
 cases x with
 |error e=>cases h
 |ok a=>exact⟨a,rfl,h⟩
theorem s_ {fn:List UInt8->Fc}: ∀l,vG fn l=l.all (yt fn)
 | []=>rfl
 |x::r=>by simp[vG,s_ r]
theorem qz {fn:List UInt8->Fc}: ∀l,nB fn l=l.all (AP fn)
 | []=>rfl
 |x::r=>by simp[nB,qz r]
theorem Do: ∀x∈o7,x.2.1=9->x.2.2=[105,97,105]:=by decide
theorem Br {s:List UInt8} {c:Int} {ls:List UInt8} (h:dR s=some (c,ls)) (h9:c=9):ls=[105,97,105]:=by
 unfold dR at h;rw[eB]at h;obtain⟨x,hx,h⟩:=h;have:=Do x (bR hx);rw[h]at this;exact this h9
theorem xW {g:Gl} {lo:Ls} {x:Ex} (h:kK g lo x= .ok ()):x.k≠2:=by
 obtain⟨k,op,nm,tx,v,a⟩:=x;intro e;simp only[Ex.k]at e;subst e;rw[kK,if_neg (by decide),if_neg (by decide),if_pos rfl]at h
 cases h
theorem xS {g:Gl} {lo:Ls} {nm:List UInt8} {c:Int}: ∀a:List Ex,a.length=3->lh g lo nm (some (c,[105,97,105])) 0 a= .ok ()-> ∀y∈a,y.k≠2
 | [x,y,z],_,h=>by
  rw[lh]at h;obtain⟨_,h1,h⟩:=cV h;rw[lh]at h;obtain⟨_,h2,h⟩:=cV h;rw[lh]at h;obtain⟨_,h3,_⟩:=cV h;rw[if_pos (by rfl)]at h1 h3;rw[if_neg (by simp[jb])]at h2;have q2:y.k≠2:=by
   intro e;rw[if_pos (by simp[oa,uJ,e])]at h2
   cases h2
  intro u hu;simp only[fB,ej,or_false]at hu;rcases hu with rfl|rfl|rfl
  ·exact xW h1
  ·exact q2
  ·exact xW h3
section
variable {g:Gl} {lo:Ls} {fn:List UInt8->Fc} (hfn: ∀s n,g.fn s=some n->(fn s).ps.length=n)
include hfn
mutual
theorem r6: ∀x:Ex,x.ok=true->kK g lo x= .ok ()->yt fn x=true
 | .mk k op nm tx v a,h,hc=>by
  rw[Ex.ok,ai]at h;rw[kK]at hc;rw[yt];by_cases h3:k=3
  ·rw[if_pos (.inr h3)]
  rw[if_neg h3]at hc;by_cases h1:k=1
  ·rw[if_pos (.inl h1)]
  rw[if_neg (by omega)];by_cases h4:k=4
  ·subst h4;rw[if_pos rfl]at hc;obtain⟨_,_,hc⟩:=cV hc;rw[if_pos (.inl rfl),ai];have hl:=h.1;rw[if_neg (by decide),if_neg (by decide),if_neg (by decide),if_pos rfl,ai]at hl;exact⟨decide_eq_true (by have:=eq_of_beq hl.2;omega),pJ a h.2 hc⟩
  rw[if_neg h4]at hc;by_cases h2:k=2
  ·rw[if_pos h2]at hc;cases hc
  rw[if_neg h2]at hc;by_cases h5:k=5
  ·subst h5;rw[if_pos rfl]at hc;rw[if_neg (by decide),if_pos rfl];unfold pd at hc
   cases hb:dR nm with
   |some b=>
    obtain⟨c,ls⟩:=b;rw[hb]at hc;simp only at hc⊢;split at hc
    ·rename_i hl;rw[ai,ai,bE];refine⟨⟨decide_eq_true hl.symm,?_⟩,?_⟩
     ·by_cases h9:c=9
      ·right;have hls:=Br hb h9;subst hls;exact List.all_eq_true.2 fun y hy=>by simpa using xS a (by simpa using hl.symm) hc y hy
      ·left;exact decide_eq_true h9
     ·have:=wE nm c ls a h.2 0 (by omega) hc;simpa using this
    ·cases hc
   |none=>
    rw[hb]at hc;simp only at hc⊢;split at hc
    ·cases hc
    ·rename_i n hn;split at hc
     ·rename_i hl;rw[ai];refine⟨decide_eq_true (by rw[hfn _ _ hn];omega),?_⟩;exact wD nm a h.2 0 hc
     ·cases hc
  rw[if_neg h5]at hc;by_cases h67:k=6\/k=7
  ·rw[if_pos h67]at hc;have hs:=pJ a h.2 hc;have hl:=h.1;rw[if_neg h1,if_neg h2,if_neg h3,if_neg h4,if_neg h5]at hl;rcases h67 with rfl|rfl
   ·rw[if_pos rfl,ai]at hl;rw[if_pos (.inr rfl),ai];exact⟨decide_eq_true (by have:=eq_of_beq hl.2;omega),hs⟩
   ·rw[if_neg (by decide),if_pos rfl,ai]at hl;rw[if_neg (by decide),if_neg (by decide),if_pos rfl,ai];exact⟨decide_eq_true (by have:=eq_of_beq hl.2;omega),hs⟩
  ·have hl:=h.1;rw[if_neg h1,if_neg h2,if_neg h3,if_neg h4,if_neg h5,if_neg (by omega),if_neg (by omega)]at hl
   cases hl
theorem pJ: ∀l:List Ex,m8 l=true->lR g lo l= .ok ()->vG fn l=true
 | [],_,_=>rfl
 |x::r,h,hc=>by
  rw[m8,ai]at h;rw[lR]at hc;obtain⟨_,h1,h2⟩:=cV hc;rw[vG,ai];exact⟨r6 x h.1 h1,pJ r h.2 h2⟩
theorem wE (nm:List UInt8) (c:Int) (ls:List UInt8): ∀l:List Ex,m8 l=true-> ∀i,i+l.length<=ls.length->lh g lo nm (some (c,ls)) i l= .ok ()->AQ fn (ls.drop i) l=true
 | [],_,_,_,_=>by cases h:ls.drop _<;>rfl
 |x::r,h,i,hi,hc=>by
  rw[m8,ai]at h;rw[lh]at hc;obtain⟨_,h1,h2⟩:=cV hc;simp only[ac]at hi;have h3:=wE nm c ls r h.2 (i+1) (by omega) h2;rw[AQ,ai,List.tail_drop];refine⟨?_,h3⟩;rw[aw (by omega),List.headD_cons];by_cases hh:ls[i]=105
  ·have:jb (some (c,ls)) i=true:=by
    simp only[jb];rw[bE];right;rw[bM,aL (by omega)];simp[hh]
   rw[if_pos this]at h1;rw[r6 x h.1 h1,Bool.or_true]
  ·rw[bE];left;simp[hh]
theorem wD (nm:List UInt8): ∀l:List Ex,m8 l=true-> ∀i,lh g lo nm none i l= .ok ()->vG fn l=true
 | [],_,_,_=>rfl
 |x::r,h,i,hc=>by
  rw[m8,ai]at h;rw[lh]at hc;obtain⟨_,h1,h2⟩:=cV hc;rw[show jb none i=true from rfl,if_pos rfl]at h1;rw[vG,ai];exact⟨r6 x h.1 h1,wD nm r h.2 (i+1) h2⟩
end
omit hfn in
theorem zR {g:Gl} {lo lo':Ls} {k:Int} {nm:List UInt8} {ex:List Ex} {b e:List St} (h:mT g lo (.mk k nm ex b e)= .ok lo'):lR g lo ex= .ok ()/\ ∃l1 l2,eI g l1 b= .ok l2/\eI g l2 e= .ok lo':=by
 rw[mT]at h;obtain⟨_,_,h⟩:=cV h;obtain⟨_,h1,h⟩:=cV h;obtain⟨l1,_,h⟩:=cV h;obtain⟨l2,h2,h⟩:=cV h;exact⟨h1,l1,l2,h2,h⟩
mutual
theorem AR: ∀(x:St) (lo lo':Ls),x.ok=true->mT g lo x= .ok lo'->AP fn x=true
 | .mk k nm ex b e,lo,lo',h,hc=>by
  obtain⟨h1,l1,l2,h2,h3⟩:=zR hc;rw[St.ok,ai,ai,ai]at h;rw[AP,ai,ai,ai];refine⟨⟨?_,pJ hfn ex h.1.2 h1⟩,mY b _ _ h.2.1 h2,mY e _ _ h.2.2 h3⟩;have hk:=h.1.1;by_cases h5:k=5
  ·subst h5;rw[if_neg (by decide),if_neg (by decide),if_neg (by decide),if_neg (by decide),if_pos rfl,ai,ai]at hk;rw[if_pos rfl];exact decide_eq_true (by have:=eq_of_beq hk.1.2;omega)
  rw[if_neg h5];by_cases h3:k=3
  ·subst h3;rw[if_neg (by decide),if_neg (by decide),if_pos rfl,ai,ai,ai]at hk;rw[if_pos rfl];exact decide_eq_true (by have:=eq_of_beq hk.1.1.2;omega)
  rw[if_neg h3];refine decide_eq_true ?_;by_cases h1:k=1
  ·omega
  by_cases h2:k=2
  ·omega
  by_cases h4:k=4
  ·omega
  by_cases h6:k=6
  ·omega
  by_cases h7:k=7
  ·omega
  rw[if_neg h1,if_neg h2,if_neg h3,if_neg h4,if_neg h5,if_neg h6,if_neg h7]at hk
  cases hk
theorem mY: ∀(l:List St) (lo lo':Ls),m7 l=true->eI g lo l= .ok lo'->nB fn l=true
 | [],_,_,_,_=>rfl
 |x::r,lo,lo',h,hc=>by
  rw[m7,ai]at h;rw[eI]at hc;obtain⟨l1,h1,h2⟩:=cV hc;rw[nB,ai];exact⟨AR x _ _ h.1 h1,mY r _ _ h.2 h2⟩
end
end
theorem pC: ∀(vs:List Vr) (g g':Gl),ic g vs= .ok g'->g'.fn=g.fn
 | [],g,g',h=>by cases h;rfl
 |v::r,g,g',h=>by
  rw[ic]at h;split at h
  ·cases h
  ·rw[pC r _ _ h];unfold Gl.addV;split<;>rfl
theorem pD: ∀(fs:List Fc) (g g':Gl),gB g fs= .ok g'-> ∀s,g'.fn s=match fs.find? (fun f=>decide (s=f.nm))with|some f=>some f.ps.length|none=>g.fn s
 | [],g,g',h,s=>by cases h;rfl
 |f::r,g,g',h,s=>by
  rw[gB]at h;split at h
  ·cases h
  ·rename_i hk;rw[pD r _ _ h s,jz];by_cases hs:s=f.nm
   ·rw[decide_eq_true hs];simp only;have hn:r.find? (fun f=>decide (s=f.nm))=none:=by
     cases hr:r.find? (fun f=>decide (s=f.nm))with
     |none=>rfl
     |some f2=>exact absurd h (by
       have hm:=bR hr;have he:s=f2.nm:=by have:=List.find?_some hr;simpa using this
       exact topF_dup r (g.addF f) g' f2 hm (by simp[Gl.addF,<-he,hs]))
    rw[hn];simp[Gl.addF,hs]
   ·rw[decide_eq_false hs];simp only;split
    ·rfl
    ·simp[Gl.addF,hs]
where topF_dup: ∀(fs:List Fc) (g g':Gl) (f:Fc),f∈fs->(g.fn f.nm).isSome=true->gB g fs≠ .ok g'
 |f2::r,g,g',f,hm,hs,h=>by
  rw[gB]at h;split at h
  ·cases h
  ·rename_i hk;rcases List.mem_cons.1 hm with rfl|hm
   ·apply hk;unfold Gl.known;rw[hs];simp
   ·exact topF_dup r _ g' f hm (by unfold Gl.addF;simp only;split;rfl;exact hs) h
theorem j_: ∀(fs:List Fc) (s:List UInt8),gP fs s=((fs.find? (fun f=>decide (s=f.nm))).getD ⟨[],[],[]⟩)
 | [],s=>rfl
 |f::r,s=>by
  rw[gP,jz];split
  ·rename_i h;rw[decide_eq_true h];rfl
  ·rename_i h;rw[decide_eq_false h];exact j_ r s
theorem sY {p:Pg} {g:Gl} (h:kO p= .ok g): ∀s,g.fn s=(p.fs.find? (fun f=>decide (s=f.nm))).map (·.ps.length):=by
 unfold kO at h;obtain⟨g1,h1,h⟩:=cV h;obtain⟨g2,h2,h⟩:=cV h;have:g2=g:=by
  split at h
  ·cases h
  ·split at h
   ·cases h
   ·cases h;rfl
 subst this;intro s;rw[pD _ _ _ h2 s,pC _ _ _ h1]
 cases p.fs.find? _<;>rfl
theorem t8 {p:Pg} {g:Gl} (h:kO p= .ok g):(gP p.fs bw).ps=[]/\ ∃f∈p.fs,gP p.fs bw=f:=by
 have hf:=sY h bw;unfold kO at h;obtain⟨g1,h1,h⟩:=cV h;obtain⟨g2,h2,h⟩:=cV h;have:g2=g/\g2.fn bw=some 0:=by
  split at h
  ·cases h
  ·rename_i n hn;split at h
   ·cases h
   ·cases h;exact⟨rfl,by rw[hn,show n=0 by omega]⟩
 obtain⟨rfl,h0⟩:=this;rw[h0]at hf
 cases hx:p.fs.find? (fun f=>decide (bw=f.nm))with
 |none=>rw[hx]at hf;cases hf
 |some f=>
  rw[hx]at hf;have hl:f.ps.length=0:=by simpa using hf.symm
  refine⟨?_,f,bR hx,?_⟩
  ·rw[j_,hx];exact aH hl
  ·rw[j_,hx];rfl
theorem rk {g:Gl}: ∀(fs:List Fc) (f:Fc),f∈fs->gY g fs= .ok ()-> ∃lo lo',eI g lo f.body= .ok lo'
 |f2::r,f,hm,h=>by
  rw[gY]at h;obtain⟨lo,_,h⟩:=cV h;obtain⟨lo',h1,h⟩:=cV h;rcases List.mem_cons.1 hm with rfl|hm
  ·exact⟨lo,lo',h1⟩
  ·exact rk r f hm h
theorem qC {p:Pg} (hv:gD p=true) (h:fE p= .ok ()):(gP p.fs bw).ps=[]/\ ∀s,nB (gP p.fs) (gP p.fs s).body=true:=by
 unfold fE at h;obtain⟨g,h1,h⟩:=cV h;obtain⟨_,h2,h⟩:=cV h;refine⟨(t8 h1).1,fun s=> ?_⟩;rw[j_ p.fs s]
 cases hx:p.fs.find? (fun f=>decide (s=f.nm))with
 |none=>rfl
 |some f=>
  have hm:=bR hx;obtain⟨lo,lo',h3⟩:=rk _ _ hm h2;unfold gD at hv;simp only[ai]at hv;refine mY (fun s n hn=> ?_) f.body lo lo' (nI (List.all_eq_true.1 hv.1.1.1.2 f hm)) h3;rw[sY h1]at hn;rw[j_]
  cases hy:p.fs.find? (fun f=>decide (s=f.nm))with
  |none=>rw[hy]at hn;cases hn
  |some f3=>rw[hy]at hn;simpa using hn
end
section
structure tV (R:Rs) (Q:Ms->Prop):Prop where
 step: ∀s,Q s->Q s.step
 used: ∀s,Q s->s.used<R.length->Q {s with used:=s.used+1}
 setI: ∀s nm v,Q s->Q (s.setI nm v)
 setA: ∀s nm v,Q s->Q (s.setA nm v)
 stk: ∀s k,Q s->Q {s with stk:=k}
def om (Q:Ms->Prop) {α:Type} (r:ER α):Prop:=match r with
 | .ok (_,s)=>Q s
 | .error o=> ∃s,Q s/\o.used=s.used
theorem om.then {Q:Ms->Prop} {α β:Type} {r:ER α} {k:α->Ms->ER β} (h:om Q r) (hk: ∀a s,Q s->om Q (k a s)):om Q (r.then k):=by
 cases r with
 |error o=>exact h
 |ok p=>exact hk _ _ h
theorem om.err {Q:Ms->Prop} {α:Type} {s:Ms} {o:Oc} (h:Q s) (hu:o.used=s.used):om Q (.error o:ER α):=⟨s,h,hu⟩
section
variable {R:Rs} {Q:Ms->Prop} (hQ:tV R Q)
include hQ
theorem rV {s:Ms} {c a b d:Int} {l:List UInt8} (h:Q s):om Q (fx R s c a b d l):=by
 unfold fx;split
 ·exact .err h rfl
 ·rename_i r hr;exact hQ.used s h (List.getElem?_eq_some_iff.1 hr).1
omit hQ in
theorem nc {E:Ms->Ex->ER Int} (hE: ∀s x,Q s->om Q (E s x)): ∀(ls:List UInt8) (ys:List Ex) (vs:List Int) (la:Int) (d:Dt) (s:Ms),Q s->om Q (dr E ls ys vs la d s)
 |c::ls,y::ys,vs,la,d,s,h=>by
  rw[dr];split
  ·exact(hE s y h).then fun v s h=>nc hE ls ys _ _ _ s h
  ·split
   ·exact nc hE ls ys _ _ _ s h
   ·exact nc hE ls ys _ _ _ s h
 | [],_,vs,la,d,s,h=>h
 | _::_,[],vs,la,d,s,h=>h
theorem AX {s:Ms} {n:Nat} {r:List UInt8} (h:Q s): ∀d:Dt,Q (d.put s n r)
 | .no=>h
 | .txt _=>h
 | .arr _=>hQ.setA _ _ _ h
theorem yb {E:Ms->Ex->ER Int} (hE: ∀s x,Q s->om Q (E s x)) (c:Int) (ls:List UInt8) (a:List Ex) (s:Ms) (h:Q s):om Q (mx R E s c ls a):=by
 unfold mx kY;refine(nc hE ls a [] 0 .no s h).then fun p s h=> ?_;split
 ·exact(rV hQ h).then fun r s h=>h
 ·split
  ·exact .err h rfl
  ·split
   ·exact(rV hQ h).then fun r s h=>h
   ·exact(rV hQ h).then fun r s h=>AX hQ h _
omit hQ in
theorem sF {E:Ms->Ex->ER Int} (hE: ∀s x,Q s->om Q (E s x)): ∀(ys:List Ex) (vs:List Int) (s:Ms),Q s->om Q (tL E vs s ys)
 | [],vs,s,h=>h
 |y::r,vs,s,h=>(hE s y h).then fun v s h=>sF hE r _ s h
omit hQ in
theorem nu {S:Ms->Lo->St->k_} (hS: ∀s l x,Q s->om Q (S s l x)): ∀(ys:List St) (l:Lo) (s:Ms),Q s->om Q (lw S s l ys)
 | [],l,s,h=>h
 |y::r,l,s,h=>by
  rw[lw];refine(hS s l y h).then fun p s h=> ?_;split
  ·exact h
  ·exact nu hS r _ s h
theorem x_ {S:Ms->Lo->St->k_} (hS: ∀s l x,Q s->om Q (S s l x)) (f:Fc) (vs:List Int) (s:Ms) (h:Q s):om Q (fq S f vs s):=by
 unfold fq;split
 ·exact .err h rfl
 ·exact(nu hS f.body _ _ (hQ.stk _ _ h)).then fun p s h=>hQ.stk _ _ h
omit hQ in
theorem ye (op:List UInt8) (a b:Int) (s:Ms) (h:Q s):om Q (ig op a b s):=by
 unfold ig;repeat' split
 all_goals first|exact h|exact .err h rfl
theorem qY {C:Cx} (hR:C.R=R): ∀n,(∀s l x,Q s->om Q (ev C n s l x))/\(∀s l x,Q s->om Q (st C n s l x))/\(∀s l c b,Q s->om Q (wh C n s l c b))
 |0=>⟨fun s l x h=> .err h rfl,fun s l x h=> .err h rfl,fun s l c b h=> .err h rfl⟩
 |n+1=>by
  obtain⟨h1,h2,h3⟩:=qY hR n;refine⟨fun s l x h=> ?_,fun s l x h=> ?_,fun s l c b h=> ?_⟩
  ·have h':=hQ.step s h;rw[ev];split
   ·exact .err h rfl
   split
   ·exact h'
   split
   ·exact h'
   split
   ·refine(h1 _ l _ h').then fun i s h=> ?_;split
    ·exact h
    ·exact .err h rfl
   split
   ·split
    ·rw[hR];exact yb hQ (fun s x h=>h1 s l x h) _ _ _ _ h'
    ·exact(sF (fun s x h=>h1 s l x h) _ _ _ h').then fun vs s h=>x_ hQ (fun s l x h=>h2 s l x h) _ _ _ h
   split
   ·refine(h1 _ l _ h').then fun i s h=> ?_;split<;>exact h
   ·refine(h1 _ l _ h').then fun i s h=> ?_;split
    ·exact h
    split
    ·exact h
    refine(h1 _ l _ h).then fun j s h=> ?_;split
    ·exact h
    ·exact ye _ _ _ _ h
  ·have h':=hQ.step s h;rw[st];split
   ·exact .err h rfl
   split
   ·exact h3 _ _ _ _ h'
   refine om.then (by split;exact h';exact h1 _ _ _ h') fun v s h=> ?_;split
   ·exact h
   split
   ·split
    ·exact h
    ·exact hQ.setI _ _ _ h
   split
   ·refine(h1 _ l _ h).then fun u s h=> ?_;split
    ·exact hQ.setA _ _ _ h
    ·exact .err h rfl
   split
   ·exact nu (fun s l x h=>h2 s l x h) _ _ _ h
   split<;>exact h
  ·rw[wh];refine(h1 _ l _ h).then fun v s h=> ?_;split
   ·exact h
   refine(nu (fun s l x h=>h2 s l x h) _ _ _ h).then fun p s h=> ?_;split
   ·exact h
   ·exact h3 _ _ _ _ h
end
theorem iy (R:Rs) (m:Nat):tV R (fun s=>s.left<=m):=⟨fun s h=>by show s.left-1<=m;omega,fun s h _=>h,fun s _ _ h=>h,fun s _ _ h=>h,fun s _ h=>h⟩
theorem na {C:Cx} {n:Nat} {s s':Ms} {l:Lo} {x:Ex} {v:Int} (h:ev C n s l x= .ok (v,s')):s'.left<=s.left:=by
 have:=(qY (iy C.R s.left) rfl n).1 s l x (ag _);rw[h]at this;exact this
theorem yP {C:Cx} {n:Nat} {s s':Ms} {l:Lo} {x:St} {v:Option Int×Lo} (h:st C n s l x= .ok (v,s')):s'.left<=s.left:=by
 have:=(qY (iy C.R s.left) rfl n).2.1 s l x (ag _);rw[h]at this;exact this
end
end Go.Proofs.YtddomeddabfinaaGreatDoor
