/-
  Parts of the proof: PlS VaJ PaP.
-/
import Derived.Test.YtelplgkppalmfaaGreatDoorPs00
import Derived.Test.YtelplgkppalmfaaGreatDoorPs25
set_option maxRecDepth 100000
set_option maxHeartbeats 8000000
set_option linter.unusedVariables false
set_option linter.unusedSimpArgs false
namespace Go.Proofs.YtelplgkppalmfaaGreatDoor
open Go.Proofs.Tryz
section
open Go.RowKit
def md (i:Nat) (ts:List (List UInt8)):Nat:=(ts.map fun t=>t.length+i).sum
theorem fW (i:Nat) (t:List UInt8) (ts:List (List UInt8)):md i (t::ts)=t.length+i+md i ts:=by simp[md]
theorem jO {i j:Nat} (h:i<=j): ∀ts,md i ts<=md j ts
 | []=>ag _
 |t::ts=>by have:=jO h ts;rw[fW,fW];omega
theorem qT (i:Nat): ∀ts:List (List UInt8),(ts.headD []).length<=md i ts
 | []=>by simp[md]
 |t::ts=>by rw[fW];simp;omega
theorem rM (i:Nat): ∀ts:List (List UInt8),(ts.headD []).length+(ts.tail.headD []).length<=md i ts
 | []=>by simp[md]
 | [t]=>by rw[fW];simp[md]<;>omega
 |t::u::ts=>by rw[fW,fW];simp;omega
theorem qV {k:Int} {op nm tx:List UInt8} {v:Int} {ps:List Int} {ss:List (List UInt8)} (hv:k=1->v<=2147483647):
  (qW k op nm tx v ps ss).length<=10+op.length+nm.length+2*tx.length+md 2 ss:=by
 have h1:=qT 2 ss;have h2:=rM 2 ss;have h3:=od [44,32] ss;have h4:=rn tx;have h5:=ml (decide (ps.headD 0<7)) (ss.headD []);have h6:=ml (decide (ps.headD 0<eW op)) (ss.headD []);have h7:=ml (decide (ps.tail.headD 0<=eW op)) (ss.tail.headD []);have h8:k=1->(fw v.toNat).length<=10:=fun h=>qw (hv h);simp only[ac,af]at h3;change _<=md 2 ss at h3;unfold qW;split
 ·have:=h8 (by assumption);omega
 repeat' split
 all_goals (try simp only[aa,ac,af])
 all_goals omega
mutual
theorem t8: ∀x:Ex,x.ok=true->(a7 x).length+2<=12*x.wt
 | .mk k op nm tx v a,h=>by
  rw[Ex.ok,au]at h;have ha:=my a h.2
  have hs:=qV (k:=k) (op:=op) (nm:=nm) (tx:=tx) (v:=v) (ps:=a.map Ex.prec) (ss:=c8 a) (fun e=>by
   subst e;have h1:=h.1;rw[if_pos rfl]at h1;simp only[au,decide_eq_true_eq]at h1
   exact h1.1.1.2)
  rw[a7,Ex.wt];omega
theorem my: ∀l:List Ex,iR l=true->md 2 (c8 l)<=12*gv l
 | [],_=>by simp[c8,md]
 |x::r,h=>by
  rw[iR,au]at h;have:=t8 x h.1;have:=my r h.2;rw[c8,fW,gv];omega
end
theorem na (i:Nat) (ts:List (List UInt8)):(cN i ts).length=3+i+md (i+2) ts:=by
 have h: ∀ts:List (List UInt8),(ts.flatMap (fun t=>dF (i+1)++t++[10])).length=md (i+2) ts:=by
  intro ts
  induction ts with
  |nil=>rfl
  |cons t r ih=>rw[cd,aa,ih,fW];simp[dF];omega
 unfold cN;rw[aa,aa,h];simp[dF];omega
theorem qU {i:Nat} {k:Int} {nm:List UInt8} {es bs ls l0:List (List UInt8)} {l4:Bool} {E B L:Nat} (he:md 0 es<=E) (hb:md (i+2) bs<=B)
  (hl:md (i+2) ls<=L) (h0:md 0 l0<=L):(kv i k nm es bs ls l0 l4).length<=20+2*i+nm.length+E+B+L:=by
 have h1:=qT 0 es;have h2:=rM 0 es;have h3:=qT 0 l0;have h4:=na i bs;have h5:=na i ls;unfold kv;repeat' split
 all_goals simp only[aa,ac,af,jo,oI,mv,eR,fH,d6]
 all_goals omega
theorem wM (i:Nat) (ts:List (List UInt8)):md 0 ts<=md i ts:=jO (aB _) ts
mutual
theorem sC: ∀(x:St) (i:Nat),x.ok=true->i+x.dep<=21->(bg x i).length+i+2<=150*x.wt
 | .mk k nm e b l,i,h,hd=>by
  rw[St.ok]at h;simp only[au]at h;rw[St.dep]at hd;have h1:=my e h.1.2;have hb:=i7 b (i+1);have hl:=i7 l (i+1);have h0:=i7 l i;have hb':=hb h.2.1 (by omega);have hl':=hl h.2.2 (by omega);have h0':=h0 h.2.2 (by omega);have m1:=jO (show i+2<=i+1+2 by omega) (bh b (i+1));have m2:=jO (show i+2<=i+1+2 by omega) (bh l (i+1));have m3:=wM 2 (c8 e);have m4:=wM (i+2) (bh l i);have:=qU (i:=i) (k:=k) (nm:=nm) (es:=c8 e) (bs:=bh b (i+1)) (ls:=bh l (i+1)) (l0:=bh l i) (l4:=il l) (E:=12*gv e) (B:=150*fQ b) (L:=150*fQ l)
   (by omega) (by omega) (by omega) (by omega)
  rw[bg,St.wt];omega
theorem i7: ∀(l:List St) (i:Nat),lq l=true->i+dU l<=21->md (i+2) (bh l i)<=150*fQ l
 | [],i,_,_=>by simp[bh,md]
 |x::r,i,h,hd=>by
  rw[lq,au]at h;rw[dU]at hd;have:=sC x i h.1 (by omega);have:=i7 r i h.2 (by omega);rw[bh,fW,fQ];omega
end
theorem ku {α:Type} (f g:α->Nat): ∀(l:List α),(∀x,x∈l->f x<=g x)->(l.map f).sum<=(l.map g).sum
 | [],_=>ag _
 |x::r,h=>by
  have:=ku f g r (fun y hy=>h y (gu _ hy));have:=h x (fG ..);simp only[cA,eM];omega
theorem i6 {α:Type} (c:Nat): ∀(l:List α),(l.map fun _=>c).sum=c*l.length
 | []=>rfl
 |x::r=>by rw[cA,eM,i6 c r,ac,Nat.mul_succ];omega
theorem mR {l:List UInt8} (h:cn l=true):l.length<=14:=by
 unfold cn at h;simp only[au,decide_eq_true_eq]at h;exact h.1.1.2
theorem tZ {v:Vr} (h:lp v=true):(gI v).length<=40:=by
 unfold lp at h;simp only[au,decide_eq_true_eq]at h;have:=mR h.1.1;have:=qw (v:=v.sz) (by omega);unfold gI;split<;>simp only[aa,ac,af,jo]<;>omega
theorem wd {f:Fc} (h:kB f=true):dU f.body<=20:=by
 unfold kB at h;simp only[au,bW,decide_eq_true_eq]at h;have h2:=h.2;clear h;generalize f.body=l at*
 induction l with
 |nil=>exact aB _
 |cons x r ih=>
  have:=ih fun s hs=>h2 s (gu _ hs);have:=(h2 x (fG ..)).1;rw[dU];omega
theorem t7 {f:Fc} (h:kB f=true):(ir f).length<=100+150*fQ f.body:=by
 have hb:=i7 f.body 1 (kW h) (by have:=wd h;omega);have hk:=na 0 (bh f.body 1);have hj:=od [44,32] f.ps;have hm:=jO (show 0+2<=1+2 by omega) (bh f.body 1);unfold kB at h;simp only[au,bW,decide_eq_true_eq]at h;have h1:=mR h.1.1.1;have h2:=ku (fun s:List UInt8=>s.length+[44,32].length) (fun _=>16) f.ps (fun s hs=>by have:=mR (h.1.2 s hs);simp;omega);rw[i6]at h2;unfold ir;simp only[aa,ac,af,wL];omega
theorem t6 {p:Pg} (hv:p.vs.all lp=true) (hf:p.fs.all kB=true) (h1:p.vs.length<=20) (h2:p.fs.length<=20):(gJ p).length<=2800+150*(p.fs.map fun f=>fQ f.body).sum:=by
 have a1:(p.vs.flatMap gI).length<=40*p.vs.length:=by
  rw[gO];have:=ku (fun v=>(gI v).length) (fun _=>40) p.vs (fun v hm=>tZ (List.all_eq_true.1 hv v hm));rwa [i6]at this
 have a2:(p.fs.flatMap ir).length<=100*p.fs.length+150*(p.fs.map fun f=>fQ f.body).sum:=by
  rw[gO];have:=ku (fun f=>(ir f).length) (fun f=>100+150*fQ f.body) p.fs (fun f hm=>t7 (List.all_eq_true.1 hf f hm));have e: ∀l:List Fc,(l.map fun f=>100+150*fQ f.body).sum=100*l.length+150*(l.map fun f=>fQ f.body).sum:=by
   intro l
   induction l with
   |nil=>rfl
   |cons f r ih=>simp only[cA,eM,ac,ih];omega
  rwa [e]at this
 unfold gJ;rw[aa];omega
def c7:List bB->Nat
 | []=>0
 |t::r=>2+t.t.length+c7 r
theorem fg {l:List bB} (h:(bV l).k≠0):c7 l=2+(bV l).t.length+c7 l.tail:=by
 cases l with
 |nil=>exact absurd rfl h
 |cons t r=>rfl
theorem rz {s:List UInt8} {l:List bB} (h:b6 s l=true):(bV l).k≠0:=by
 intro e;simp[b6,e]at h
theorem ek {s:List UInt8} {l r:List bB} {u:Unit} (h:bP s l= .ok (u,r)):c7 r+2<=c7 l:=by
 obtain⟨h1,rfl,_⟩:=dz h;have:=fg (rz h1);omega
theorem kY {l r:List bB} {nm:List UInt8} (h:ge l= .ok (nm,r)):nm.length+2+c7 r=c7 l:=by
 obtain⟨h1,rfl,rfl,_⟩:=jd h;have:=fg (l:=l) (by rw[h1];decide);omega
theorem gF {s:List UInt8} {l:List bB} (h:b6 s l=true):c7 l.tail+2<=c7 l:=by
 have:=fg (rz h);omega
theorem uW: ∀(f:Nat),
  (∀n l x r,bT f n l= .ok (x,r)->x.wt+1+c7 r<=c7 l)/\(∀n y l x r,gd f n y l= .ok (x,r)->x.wt+c7 r<=y.wt+c7 l)/\
  (∀l x r,cE f l= .ok (x,r)->x.wt+1+c7 r<=c7 l)/\(∀nm l x r,ch f nm l= .ok (x,r)->x.wt+c7 r<=1+nm.length+c7 l)/\
  (∀l x r,eL f l= .ok (x,r)->gv x+c7 r<=c7 l)/\(∀acc l x r,fu f acc l= .ok (x,r)->gv x+c7 r<=gv acc+c7 l)
 |0=>by
  refine⟨?_,?_,?_,?_,?_,?_⟩;all_goals (intros;rename_i h;simp[bT,gd,cE,ch,eL,fu]at h)
 |f+1=>by
  obtain⟨iE,iL,iP,iN,iA,iB⟩:=uW f;refine⟨?_,?_,?_,?_,?_,?_⟩
  ·intro n l x r h;rw[bT]at h;obtain⟨a,q,h1,h2⟩:=aR h;have:=iP _ _ _ h1;have:=iL _ _ _ _ _ h2;omega
  ·intro n y l x r h;rw[gd]at h;split at h
   ·rename_i hk;obtain⟨a,q,h1,h2⟩:=aR h;have:=iE _ _ _ _ h1;have:=iL _ _ _ _ _ h2;have:=fg (l:=l) (by rw[hk.1];decide);simp only[Ex.wt,gv,af]at*;omega
   ·obtain⟨rfl,rfl⟩:=bD h;exact ag _
  ·intro l x r h;rw[cE]at h;split at h
   ·rename_i hk;have:=fg (l:=l) (by rw[hk];decide);obtain⟨rfl,rfl⟩:=bD h;simp only[Ex.wt,gv,af];omega
   ·split at h
    ·rename_i hk;have:=fg (l:=l) (by rw[hk];decide);obtain⟨rfl,rfl⟩:=bD h;simp only[Ex.wt,gv,af];omega
    ·split at h
     ·rename_i hk;have:=fg (l:=l) (by rw[hk];decide);have:=iN _ _ _ _ h;omega
     ·split at h
      ·rename_i hk;obtain⟨a,q,h1,h2⟩:=aR h;have:=iP _ _ _ h1;obtain⟨rfl,rfl⟩:=bD h2;have hne:(bV l).k≠0:=by
        rw[cx]at hk;rcases hk with hk|hk<;>exact rz hk
       have:=fg hne;simp only[Ex.wt,gv,af]at*;omega
      ·obtain⟨a,q,h1,h2⟩:=aR h;obtain⟨a',q',h3,h4⟩:=aR h2;obtain⟨a'',q'',h5,h6⟩:=aR h4;have:=ek h1;have:=iE _ _ _ _ h3;have:=ek h5;obtain⟨rfl,rfl⟩:=bD h6;omega
  ·intro nm l x r h;rw[ch]at h;split at h
   ·rename_i hk;obtain⟨a,q,h1,h2⟩:=aR h;obtain⟨a',q',h3,h4⟩:=aR h2;have:=gF hk;have:=iE _ _ _ _ h1;have:=ek h3;obtain⟨rfl,rfl⟩:=bD h4;simp only[Ex.wt,gv,af];omega
   ·split at h
    ·rename_i hk;obtain⟨a,q,h1,h2⟩:=aR h;have:=gF hk;have:=iA _ _ _ h1;obtain⟨rfl,rfl⟩:=bD h2;simp only[Ex.wt,af];omega
    ·obtain⟨rfl,rfl⟩:=bD h;simp only[Ex.wt,gv,af];omega
  ·intro l x r h;rw[eL]at h;split at h
   ·rename_i hk;have:=gF hk;obtain⟨rfl,rfl⟩:=bD h;simp only[gv];omega
   ·have:=iB _ _ _ _ h;simp only[gv]at this;omega
  ·intro acc l x r h;rw[fu]at h;obtain⟨a,q,h1,h2⟩:=aR h;have:=iE _ _ _ _ h1;split at h2
   ·rename_i hk;have:=gF hk;obtain⟨rfl,rfl⟩:=bD h2;rw[oB];simp only[gv];omega
   ·obtain⟨a',q',h3,h4⟩:=aR h2;have:=ek h3;have:=iB _ _ _ _ h4;rw[oB]at this;simp only[gv]at this;omega
theorem tY: ∀(f:Nat),
  (∀l x r,cZ f l= .ok (x,r)->fQ x+c7 r<=c7 l)/\(∀acc l x r,dS f acc l= .ok (x,r)->fQ x+c7 r<=fQ acc+c7 l)/\
  (∀l x r,lW f l= .ok (x,r)->x.wt+c7 r<=c7 l)/\(∀l x r,de f l= .ok (x,r)->x.wt+c7 r<=c7 l)
 |0=>by
  refine⟨?_,?_,?_,?_⟩;all_goals (intros;rename_i h;simp[cZ,dS,lW,de]at h)
 |f+1=>by
  obtain⟨iB,iC,iI,iS⟩:=tY f;obtain⟨iE,_,_,iN,_,_⟩:=uW f;refine⟨?_,?_,?_,?_⟩
  ·intro l x r h;rw[cZ]at h;obtain⟨a,q,h1,h2⟩:=aR h;have:=ek h1;have:=iC _ _ _ _ h2;simp only[fQ]at this;omega
  ·intro acc l x r h;rw[dS]at h;split at h
   ·rename_i hk;have:=gF hk;obtain⟨rfl,rfl⟩:=bD h;omega
   ·obtain⟨a,q,h1,h2⟩:=aR h;have:=iS _ _ _ h1;have:=iC _ _ _ _ h2;rw[rF]at this;simp only[fQ]at this;omega
  ·intro l x r h;rw[lW]at h;obtain⟨a,q,h1,h2⟩:=aR h;obtain⟨a',q',h3,h4⟩:=aR h2;have:=iE _ _ _ _ h1;have:=iB _ _ _ h3;split at h4
   ·rename_i hk;have:=gF hk;split at h4
    ·rename_i hk2;have:=gF hk2;obtain⟨a2,q2,h5,h6⟩:=aR h4;have:=iI _ _ _ h5;obtain⟨rfl,rfl⟩:=bD h6;simp only[St.wt,gv,fQ,af];omega
    ·obtain⟨a2,q2,h5,h6⟩:=aR h4;have:=iB _ _ _ h5;obtain⟨rfl,rfl⟩:=bD h6;simp only[St.wt,gv,af];omega
   ·obtain⟨rfl,rfl⟩:=bD h4;simp only[St.wt,gv,fQ,af];omega
  ·intro l x r h;rw[de]at h;split at h
   ·rename_i hk;have:=gF hk;have:=iI _ _ _ h;omega
   ·split at h
    ·rename_i hk;have:=gF hk;obtain⟨a,q,h1,h2⟩:=aR h;obtain⟨a',q',h3,h4⟩:=aR h2;have:=iE _ _ _ _ h1;have:=iB _ _ _ h3;obtain⟨rfl,rfl⟩:=bD h4;simp only[St.wt,gv,fQ,af];omega
    ·split at h
     ·rename_i hk;have:=gF hk;obtain⟨nm,q,h1,h2⟩:=aR h;obtain⟨ex,q',h3,h4⟩:=aR h2;obtain⟨a,q'',h5,h6⟩:=aR h4;have:=kY h1;have:=ek h5;have he:gv ex+c7 q'<=c7 q:=by
       split at h3
       ·rename_i hk2;have:=gF hk2;obtain⟨y,q3,h7,h8⟩:=aR h3;have:=iE _ _ _ _ h7;obtain⟨rfl,rfl⟩:=bD h8;simp only[gv];omega
       ·obtain⟨rfl,rfl⟩:=bD h3;simp only[gv];omega
      obtain⟨rfl,rfl⟩:=bD h6;simp only[St.wt,fQ];omega
     ·split at h
      ·rename_i hk;have:=gF hk;obtain⟨ex,q',h3,h4⟩:=aR h;obtain⟨a,q'',h5,h6⟩:=aR h4;have:=ek h5;have he:gv ex+c7 q'<=c7 l.tail:=by
        split at h3
        ·obtain⟨rfl,rfl⟩:=bD h3;simp only[gv];omega
        ·obtain⟨y,q3,h7,h8⟩:=aR h3;have:=iE _ _ _ _ h7;obtain⟨rfl,rfl⟩:=bD h8;simp only[gv];omega
       obtain⟨rfl,rfl⟩:=bD h6;simp only[St.wt,fQ,af];omega
      ·obtain⟨nm,q,h1,h2⟩:=aR h;obtain⟨s,q',h3,h4⟩:=aR h2;obtain⟨a,q'',h5,h6⟩:=aR h4;have:=kY h1;have:=ek h5;have he:s.wt+c7 q'<=2+nm.length+c7 q:=by
        split at h3
        ·obtain⟨y,q3,h7,h8⟩:=aR h3;have:=iN _ _ _ _ h7;obtain⟨rfl,rfl⟩:=bD h8;simp only[St.wt,gv,fQ,af];omega
        ·split at h3
         ·rename_i hk;have:=gF hk;obtain⟨y,q3,h7,h8⟩:=aR h3;obtain⟨_,q4,h9,h10⟩:=aR h8;obtain⟨_,q5,h11,h12⟩:=aR h10;obtain⟨z,q6,h13,h14⟩:=aR h12;have:=iE _ _ _ _ h7;have:=ek h9;have:=ek h11;have:=iE _ _ _ _ h13;obtain⟨rfl,rfl⟩:=bD h14;simp only[St.wt,gv,fQ];omega
         ·obtain⟨_,q4,h9,h10⟩:=aR h3;obtain⟨z,q6,h13,h14⟩:=aR h10;have:=ek h9;have:=iE _ _ _ _ h13;obtain⟨rfl,rfl⟩:=bD h14;simp only[St.wt,gv,fQ];omega
       obtain⟨rfl,rfl⟩:=bD h6;omega
def Fc.wt (f:Fc):Nat:=f.nm.length+(f.ps.map fun s=>s.length+1).sum+fQ f.body
def kU (p:Pg):Nat:=(p.vs.map fun v=>v.nm.length+1).sum+(p.fs.map fun f=>f.wt+1).sum
theorem yk {l r:List bB} {v:Vr} (h:ig l= .ok (v,r)):v.nm.length+1+c7 r<=c7 l/\0<=v.sz/\v.sz<=2000:=by
 unfold ig at h;obtain⟨nm,q,h1,h2⟩:=aR h;obtain⟨sz,q',h3,h4⟩:=aR h2;obtain⟨a,q'',h5,h6⟩:=aR h4;have:=kY h1;have:=ek h5;have he:c7 q'<=c7 q/\0<=sz/\sz<=2000:=by
  split at h3
  ·rename_i hk;have:=gF hk;split at h3
   ·rename_i hk2;have:=fg (l:=q.tail) (by rw[hk2];decide);split at h3
    ·cases h3
    ·rename_i hk3;obtain⟨_,q3,h7,h8⟩:=aR h3;have:=ek h7;obtain⟨rfl,rfl⟩:=bD h8;omega
   ·cases h3
  ·obtain⟨rfl,rfl⟩:=bD h3;exact⟨ag _,by decide,by decide⟩
 obtain⟨rfl,rfl⟩:=bD h6;refine⟨?_,he.2⟩;change nm.length+1+_<=_;omega
theorem qo: ∀(f:Nat) acc l x r,em f acc l= .ok (x,r)->(x.map fun s=>s.length+1).sum+c7 r<=(acc.map fun s:List UInt8=>s.length+1).sum+c7 l
 |0,acc,l,x,r,h=>by cases h
 |f+1,acc,l,x,r,h=>by
  rw[em]at h;obtain⟨a,q,h1,h2⟩:=aR h;have:=kY h1;split at h2
  ·rename_i hk;have:=gF hk;obtain⟨rfl,rfl⟩:=bD h2;simp;omega
  ·obtain⟨a',q',h3,h4⟩:=aR h2;have:=ek h3;have:=qo f _ _ _ _ h4;simp at this;omega
theorem wg {f:Nat} {l r:List bB} {x:List (List UInt8)} (h:eI f l= .ok (x,r)):(x.map fun s=>s.length+1).sum+c7 r<=c7 l:=by
 unfold eI at h;split at h
 ·rename_i hk;have:=gF hk;obtain⟨rfl,rfl⟩:=bD h;simp;omega
 ·have:=qo _ _ _ _ _ h;simpa using this
theorem xU {f:Nat} {l r:List bB} {x:Fc} (h:gE f l= .ok (x,r)):x.wt+1+c7 r<=c7 l:=by
 unfold gE at h;obtain⟨nm,q,h1,h2⟩:=aR h;obtain⟨_,q1,h3,h4⟩:=aR h2;obtain⟨ps,q2,h5,h6⟩:=aR h4;obtain⟨b,q3,h7,h8⟩:=aR h6;have:=kY h1;have:=ek h3;have:=wg h5;have:=(tY f).1 _ _ _ h7;obtain⟨rfl,rfl⟩:=bD h8;change nm.length+(ps.map fun s=>s.length+1).sum+fQ b+1+_<=_;omega
theorem mI: ∀(f:Nat) (p:Pg) (l:List bB) (x:Pg) (r:List bB),df f p l= .ok (x,r)->kU x<=kU p+c7 l/\((∀v,v∈p.vs->0<=v.sz/\v.sz<=2000)-> ∀v,v∈x.vs->0<=v.sz/\v.sz<=2000)
 |0,p,l,x,r,h=>by cases h
 |f+1,p,l,x,r,h=>by
  rw[df]at h;split at h
  ·obtain⟨rfl,rfl⟩:=bD h;exact⟨by omega,fun h=>h⟩
  ·split at h
   ·rename_i hk;have:=gF hk;obtain⟨v,q,h1,h2⟩:=aR h;have h3:=yk h1;have h4:=mI f _ _ _ _ h2;refine⟨?_,fun hp=>h4.2 fun u hu=> ?_⟩
    ·have:=h4.1;simp only[kU,eJ,List.sum_append,cA,dX,eM,List.sum_nil]at this⊢;omega
    ·rcases List.mem_append.1 hu with hu|hu
     ·exact hp u hu
     ·rw[cS]at hu;subst hu;exact h3.2
   ·obtain⟨_,q,h1,h2⟩:=aR h;obtain⟨c,q',h3,h4⟩:=aR h2;have:=ek h1;have:=xU h3;have h5:=mI f _ _ _ _ h4;refine⟨?_,h5.2⟩;have:=h5.1;simp only[kU,eJ,List.sum_append,cA,dX,eM,List.sum_nil]at this⊢;omega
theorem uu (p:Pg):(p.fs.map fun f=>fQ f.body).sum<=kU p:=by
 have:=ku (fun f:Fc=>fQ f.body) (fun f=>f.wt+1) p.fs (fun f _=>by unfold Fc.wt;omega);unfold kU;omega
theorem o7 {α:Type} (f:α->Nat): ∀(l:List α) (x:α),x∈l->f x<=(l.map f).sum
 |y::r,x,h=>by
  rw[cA,eM];rcases List.mem_cons.1 h with rfl|h
  ·omega
  ·have:=o7 f r x h;omega
end
section
open Go.RowKit
structure VQ (px:Nat) (w0:World) (P:Nat->Prop) (vv fv:Value) (p:Pg) (W:World):Prop where
 box:aT W px 26 #[vv,fv]
 rv:iT W P vv p.vs
 rf:iU W P fv p.fs
 ext:al w0 W
theorem VQ.ex {px:Nat} {w0 W W':World} {P:Nat->Prop} {vv fv:Value} {p:Pg} (h:VQ px w0 P vv fv p W) (hE:al W W'):VQ px w0 P vv fv p W':=
 ⟨h.box.ext hE,h.rv.keep (.of_ext hE) (fun _ hb _=>hb),h.rf.keep (.of_ext hE) (fun _ hb _=>hb),h.ext.trans hE⟩
def oX (s:St):Bool:=decide (s.dep<=20)&&s.ok
theorem gL {α:Type} (f:α->Bool) (l:List α) (j:Nat) (h:j<l.length) (hf:f l[j]=false):l.all f=false:=by
 cases hh:l.all f with
 |false=>rfl
 |true=>rw[bW]at hh;have:=hh _ (aE h);rw[hf]at this;cases this
theorem im {α:Type} (f:α->Bool) (l:List α) (j:Nat) (h:j<l.length) (h1:(l.take j).all f=true) (h2:f l[j]=true):(l.take (j+1)).all f=true:=by
 rw[aF h,dV,h1];simp[h2]
theorem sg (p:Pg) (hvn: ∀v,v∈p.vs->v.nm.length<=1073741824) (P:Nat->Prop) (w:World) (A B:Option Addr) (n c m d:Nat) (hfn: ∀f,f∈p.fs->f.nm.length<=1073741824/\(∀y,y∈f.ps->y.length<=1073741824)/\ ∀s,s∈f.body->s.wt<=1073741824) (hsrc:p.vs.all lp=true->p.fs.all kB=true->p.vs.length<=20->p.fs.length<=20->(gJ p).length<=1000000000) (hV:iT w P (.slice A n c) p.vs) (hF:iU w P (.slice B m d) p.fs) (hT:dQ w w.heap.size):
  Calls prog 14 #[.agg #[.slice A n c, .slice B m d]] w fun e w'=>e= .returned (.bool (fP p))/\al w w':=by
 have hnv:n=p.vs.length/\n<=maxLen:=by
  obtain⟨A',c',hv,h⟩:=hV;injection hv with _ hn _;refine⟨hn,?_⟩;rcases h with h|⟨h1,h2,_⟩
  ·rw[hn,h];exact aB _
  ·omega
 have hnf:m=p.fs.length/\m<=maxLen:=by
  obtain⟨A',c',hv,h⟩:=hF;injection hv with _ hn _;refine⟨hn,?_⟩;rcases h with h|⟨h1,h2,_⟩
  ·rw[hn,h];exact aB _
  ·omega
 obtain⟨hnv,hnm⟩:=hnv;obtain⟨hnf,hnn⟩:=hnf;unfold maxLen at hnm hnn;have HNV:=G hnv;have HNF:=G hnf;have HVN:=G hvn;have HFN0:=G hfn;have HSRC:=G hsrc;have HTAB:=G hT;generalize hR:fP p=R;have HR:=G hR;have hEb:=O w (.cells #[.slice A n c, .slice B m d] 26);have HC0:=G (show VQ w.heap.size w P (.slice A n c) (.slice B m d) p (w.alloc (.cells #[.slice A n c, .slice B m d] 26))from⟨ai w _ _,hV.keep (.of_ext hEb) (fun _ hb _=>hb),hF.keep (.of_ext hEb) (fun _ hb _=>hb),hEb⟩);have hbc:=HC0.out.box.cell;clear hnv hnf hvn hfn hsrc hR hEb hV hF hT;go_enter func14,ntmps14;go_wp2_with fail
 go_loopw [12] (fun vi wr=> ∃j:Nat,vi= .int .i64 (j:Int)/\j<=n/\Hid ((p.vs.take j).all lp=true)/\Hid (VQ w.heap.size w P (.slice A n c) (.slice B m d) p wr)) (fun vi _=>n-(intOf vi).toNat)
 case atStart=>exact⟨0,rfl,aB _,G (by simp),HC0⟩
 case round=>
  clear HC0 hbc;obtain⟨j,rfl,hj,HA,HCr⟩:=hrel;by_cases hlt:j<n
  ·have hlt':(j:Int)<n:=by omega
   have hjl:j<p.vs.length:=by have:=HNV.out;omega
   obtain⟨A',c',hv,hh⟩:=HCr.out.rv;injection hv with hA hn' hc';rcases hh with hh|⟨h1,h2,b9,o9,hA2,hP9,hb9,hcl⟩
   ·rw[hh]at hjl;simp at hjl
   obtain⟨e0,e1⟩:=hcl j hjl;have hA3:A=some ⟨b9,o9,none⟩:=hA.trans hA2;subst hA3;clear hcl hA hA2 hn' hc' h1 h2 hP9;have hvl:=HVN.out _ (aE hjl);have HBAD:=G (fun h:lp p.vs[j]=false=>show R=false by rw[<-HR.out,fP,gL lp p.vs j hjl h];rfl);have HGOOD:=G (fun h:lp p.vs[j]=true=>im lp p.vs j hjl HA.out h);have HOKV:=G (show lp p.vs[j]=(cn p.vs[j].nm&&decide (0<=p.vs[j].sz)&&decide (p.vs[j].sz<=2000))from rfl);generalize lp p.vs[j]=ov at*;generalize p.vs[j].nm=vn at*;generalize p.vs[j].sz=vz at*;have HI:=G (c6 vn hvl);generalize cn vn=bn at*;have HC1:=G (HCr.out.ex (O wr (.cells #[.string (ae vn), .int .i64 vz] 96)));have hyc:=(ai wr 96 #[.string (ae vn), .int .i64 vz]).cell;by_cases hok:bn=true/\0<=vz/\vz<=2000
   ·obtain⟨rfl,hz0,hz1⟩:=hok;have HT:=G (HGOOD.out (by rw[HOKV.out];simp[hz0,hz1]));have hz2: ¬vz<0:=by omega
    have hz3: ¬2000<vz:=by omega
    go_wp2_with (go_at_call 37;refine(HI.out _).mono ?_;rintro e w1 ⟨rfl,rfl⟩);go_roundw
    case rel=>exact⟨j+1,by go_num,by omega,HT,HC1⟩
    case measure=>simp[intOf];omega
   ·have HFN:=G (HBAD.out (by
     rw[HOKV.out]
     cases bn with
     |false=>rfl
     |true=>
      by_cases h0:0<=vz
      ·have h1: ¬vz<=2000:=fun h=>hok ⟨rfl,h0,h⟩;simp[h1]
      ·simp[h0]))
    have HZ:=G HC1.out.ext
    cases bn with
    |false=>
     clear hok;go_wp2_with (go_at_call 37;refine(HI.out _).mono ?_;rintro e w1 ⟨rfl,rfl⟩);go_ret;exact⟨by rw[HFN.out];rfl,HZ.out⟩
    |true=>
     by_cases hz0:vz<0
     ·clear hok;go_wp2_with (go_at_call 37;refine(HI.out _).mono ?_;rintro e w1 ⟨rfl,rfl⟩);go_ret;exact⟨by rw[HFN.out];rfl,HZ.out⟩
     ·have hz1:2000<vz:=by
       by_cases h:2000<vz
       ·exact h
       ·exact absurd ⟨rfl,by omega,by omega⟩ hok
      clear hok;go_wp2_with (go_at_call 37;refine(HI.out _).mono ?_;rintro e w1 ⟨rfl,rfl⟩);go_ret;exact⟨by rw[HFN.out];rfl,HZ.out⟩
  ·have hlt': ¬(j:Int)<n:=by omega
   have hjn:j=n:=by omega
   have HQ:=G (show p.vs.all lp=true by have:=HA.out;rwa [hjn,HNV.out,bE]at this);have hbc:=HCr.out.box.cell;go_wp2_with fail;clear hlt hlt' hjn hj HA
   go_loopw [34] (fun vi wr=> ∃j:Nat,vi= .int .i64 (j:Int)/\j<=m/\Hid ((p.fs.take j).all kB=true)/\Hid (VQ w.heap.size w P (.slice A n c) (.slice B m d) p wr)) (fun vi _=>m-(intOf vi).toNat)
   case atStart=>exact⟨0,rfl,aB _,G (by simp),HCr⟩
   case round=>
    clear HCr hbc;obtain⟨j,rfl,hj,HA,HCr⟩:=hrel;by_cases hlt:j<m
    ·have hlt':(j:Int)<m:=by omega
     have hjl:j<p.fs.length:=by have:=HNF.out;omega
     obtain⟨A',c',hv,hh⟩:=HCr.out.rf;injection hv with hA hn' hc';rcases hh with hh|⟨h1,h2,b9,o9,hA2,hP9,hb9,pv,bv,hcl⟩
     ·rw[hh]at hjl;simp at hjl
     obtain⟨e0,e1,e2,hrn,hrs⟩:=hcl j hjl;have hA3:B=some ⟨b9,o9,none⟩:=hA.trans hA2;subst hA3;clear hcl hA hA2 hn' hc' h1 h2 hP9;obtain⟨hfl,hfp,hfw⟩:=HFN0.out _ (aE hjl);have HBAD:=G (fun h:kB p.fs[j]=false=>show R=false by rw[<-HR.out,fP,gL kB p.fs j hjl h];simp);have HGOOD:=G (fun h:kB p.fs[j]=true=>im kB p.fs j hjl HA.out h);have HOKF:=G (show kB p.fs[j]=(cn p.fs[j].nm&&decide (p.fs[j].ps.length<=4)&&p.fs[j].ps.all cn&&p.fs[j].body.all oX)from rfl);generalize kB p.fs[j]=ov at*;generalize p.fs[j].nm=fn at*;generalize p.fs[j].ps=fps at*;generalize p.fs[j].body=fb at*;generalize pv j=pvj at*;generalize bv j=bvj at*;obtain⟨Ap,cp,rfl,hcap⟩:=id hrn;obtain⟨Ab,cbb,rfl,hbl⟩:=hrs.form;have hbl:fb.length<=maxLen:=by
      rcases hbl with h|⟨h1,h2,_⟩
      ·rw[h];exact aB _
      ·omega
     unfold maxLen at hbl;have HI:=G (c6 fn hfl);generalize cn fn=bn at*;have hEA:=O wr (.cells #[.string (ae fn), .slice Ap fps.length cp, .slice Ab fb.length cbb] 73);have HC1:=G (HCr.out.ex hEA);have HYB:=G (ai wr 73 #[.string (ae fn), .slice Ap fps.length cp, .slice Ab fb.length cbb]);have hyc:=HYB.out.cell;have HRn:=G (hrn.keep (.of_ext hEA) (fun _ hb _=>hb));have HRs:=G (hrs.keep (.of_ext hEA) (fun _ hb _=>hb));have HCON:=G (fun(W:World) (h:jK W P (.slice Ap fps.length cp) fps) (h4:fps.length<=1073741824)=>vu (fun y=> !cn y) fps P W Ap fps.length cp h h4 (fun y hy w' _=>qO y (hfp y hy) w'));clear hEA hrn hrs hcap
     cases bn with
     |false=>
      have HFN:=G (HBAD.out (by rw[HOKF.out];simp));have HZ:=G HC1.out.ext;go_wp2_with (go_at_call 37;refine(HI.out _).mono ?_;rintro e w1 ⟨rfl,rfl⟩);go_ret;exact⟨by rw[HFN.out];rfl,HZ.out⟩
     |true=>
      by_cases h4:4<fps.length
      ·have HFN:=G (HBAD.out (by rw[HOKF.out];simp[show ¬fps.length<=4 from by omega]));have HZ:=G HC1.out.ext;have h4i:(4:Int)<fps.length:=by omega
       go_wp2_with (go_at_call 37;refine(HI.out _).mono ?_;rintro e w1 ⟨rfl,rfl⟩);go_ret;exact⟨by rw[HFN.out];rfl,HZ.out⟩
      ·have h4i: ¬(4:Int)<fps.length:=by omega
       have HCO:=G (HCON.out _ HRn.out (by omega));have HAL:=G (show fps.any (fun y=> !cn y)= !fps.all cn from by rw[List.not_all_eq_any_not]);rw[HAL.out]at HCO;clear HAL HCON
       cases hal:fps.all cn with
       |false=>
        rw[hal]at HCO;have HFN:=G (HBAD.out (by rw[HOKF.out,hal];simp));clear hal;go_wp2_with (first|(go_at_call 37;refine(HI.out _).mono ?_;rintro e w1 ⟨rfl,rfl⟩)|(go_at_call 38;refine HCO.out.mono ?_;rintro e w3 ⟨rfl,hE⟩;have HZ:=G (HC1.out.ex hE).ext;clear hE));go_ret;exact⟨by rw[HFN.out];rfl,HZ.out⟩
       |true=>
        rw[hal]at HCO;have HT0:=G (show ov=fb.all oX from by rw[HOKF.out,hal];simp[show fps.length<=4 from by omega]);clear hal;go_wp2_with (first|(go_at_call 37;refine(HI.out _).mono ?_;rintro e w1 ⟨rfl,rfl⟩)|(go_at_call 38;refine HCO.out.mono ?_;rintro e w3 ⟨rfl,hE⟩;have HC2:=G (HC1.out.ex hE);have HYB2:=G (HYB.out.ext hE);clear hyc;have hyc:=HYB2.out.cell;have HRw:=G (HRs.out.keep (.of_ext hE) (fun _ hb _=>hb));clear hE HC1));clear hyc
        go_loopw [56] (fun vk wr=> ∃k:Nat,vk= .int .i64 (k:Int)/\k<=fb.length/\Hid ((fb.take k).all oX=true)/\Hid (VQ w.heap.size w P (.slice A n c) (.slice (some ⟨b9,o9,none⟩) m d) p wr)/\Hid (cP wr P (.slice Ab fb.length cbb) fb)) (fun vk _=>fb.length-(intOf vk).toNat)
        case atStart=>exact⟨0,rfl,aB _,G (by simp),HC2,HRw⟩
        case round=>
         clear HC2 HRw HYB2 HYB HRs HRn HCO HCr;obtain⟨k,rfl,hk,HAk,HCq,HRq⟩:=hrel;by_cases hkl:k<fb.length
         ·have hkl':(k:Int)<fb.length:=by omega
          obtain⟨bs,os,eu,ev,ez,rfl,hbs,hPs,q0,q1,q2,q3,q4,hre,hrb,hrl⟩:=HRq.out.at_ k hkl;have hw:=hfw _ (aE hkl);have HBk:=G (fun h:oX fb[k]=false=>HBAD.out (by rw[HT0.out,gL oX fb k hkl h]));have HGk:=G (fun h:oX fb[k]=true=>im oX fb k hkl HAk.out h);have HOk:=G (show oX fb[k]=(decide (fb[k].dep<=20)&&fb[k].ok)from rfl);generalize oX fb[k]=os1 at*;generalize fb[k]=y at*;obtain⟨Ey,ey,rfl,_⟩:=hre.form;obtain⟨By,by_,rfl,_⟩:=hrb.form;obtain⟨Cy,cy,rfl,_⟩:=hrl.form;have hEA:=O wr (.cells #[.int .i64 y.k, .string (ae y.nm), .slice Ey y.ex.length ey, .slice By y.body.length by_, .slice Cy y.els.length cy] 76);have HC3:=G (HCq.out.ex hEA);have HR3:=G (HRq.out.keep (.of_ext hEA) (fun _ hb _=>hb) (Q:=P));have HYS:=G (ai wr 76 #[.int .i64 y.k, .string (ae y.nm), .slice Ey y.ex.length ey, .slice By y.body.length by_, .slice Cy y.els.length cy]);have hys:=HYS.out.cell;have HS3:=G (aq (hre.keep (.of_ext hEA) (fun _ hb _=>hb) (Q:=P)) (aq (hrb.keep (.of_ext hEA) (fun _ hb _=>hb) (Q:=P)) (hrl.keep (.of_ext hEA) (fun _ hb _=>hb) (Q:=P))));have HD:=G (fun W h1 h2 h3=>pX y.wt y (ag _) hw P W Ey By Cy y.ex.length ey y.body.length by_ y.els.length cy h1 h2 h3);have HVd:=G (fun W h1 h2 h3=>mw y.wt y (ag _) hw P W Ey By Cy y.ex.length ey y.body.length by_ y.els.length cy h1 h2 h3);clear hre hrb hrl hEA hw;generalize y.dep=dd at*;generalize y.ok=ok1 at*;by_cases hd:dd<=20
          ·have hdi: ¬(20:Int)<dd:=by omega
           cases ok1 with
           |true=>
            have HTk:=G (HGk.out (by rw[HOk.out];simp[hd]));go_wp2_with (first|(go_at_call 40;refine(HD.out _ HS3.out.1 HS3.out.2.1 HS3.out.2.2).mono ?_;rintro e w4 ⟨rfl,hE⟩;have HC4:=G (HC3.out.ex hE);have HR4:=G (HR3.out.keep (.of_ext hE) (fun _ hb _=>hb) (Q:=P));have HYS2:=G (HYS.out.ext hE);clear hys;have hys:=HYS2.out.cell;have HS4:=G (aq (HS3.out.1.keep (.of_ext hE) (fun _ hb _=>hb) (Q:=P)) (aq (HS3.out.2.1.keep (.of_ext hE) (fun _ hb _=>hb) (Q:=P)) (HS3.out.2.2.keep (.of_ext hE) (fun _ hb _=>hb) (Q:=P))));clear hE HC3)|(go_at_call 41;refine(HVd.out _ HS4.out.1 HS4.out.2.1 HS4.out.2.2).mono ?_;rintro e w5 ⟨rfl,hE⟩;have HC5:=G (HC4.out.ex hE);have HR5:=G (HR4.out.keep (.of_ext hE) (fun _ hb _=>hb) (Q:=P));clear hE HC4));go_roundw
            case rel=>exact⟨k+1,by go_num,by omega,HTk,HC5,HR5⟩
            case measure=>simp[intOf];omega
           |false=>
            have HFN:=G (HBk.out (by rw[HOk.out];simp));go_wp2_with (first|(go_at_call 40;refine(HD.out _ HS3.out.1 HS3.out.2.1 HS3.out.2.2).mono ?_;rintro e w4 ⟨rfl,hE⟩;have HC4:=G (HC3.out.ex hE);have HR4:=G (HR3.out.keep (.of_ext hE) (fun _ hb _=>hb) (Q:=P));have HYS2:=G (HYS.out.ext hE);clear hys;have hys:=HYS2.out.cell;have HS4:=G (aq (HS3.out.1.keep (.of_ext hE) (fun _ hb _=>hb) (Q:=P)) (aq (HS3.out.2.1.keep (.of_ext hE) (fun _ hb _=>hb) (Q:=P)) (HS3.out.2.2.keep (.of_ext hE) (fun _ hb _=>hb) (Q:=P))));clear hE HC3)|(go_at_call 41;refine(HVd.out _ HS4.out.1 HS4.out.2.1 HS4.out.2.2).mono ?_;rintro e w5 ⟨rfl,hE⟩;have HZ:=G (HC4.out.ex hE).ext;clear hE HC4));go_ret;exact⟨by rw[HFN.out];rfl,HZ.out⟩
          ·have hdi:(20:Int)<dd:=by omega
           have HFN:=G (HBk.out (by rw[HOk.out];simp[hd]));go_wp2_with (go_at_call 40;refine(HD.out _ HS3.out.1 HS3.out.2.1 HS3.out.2.2).mono ?_;rintro e w4 ⟨rfl,hE⟩;have HZ:=G (HC3.out.ex hE).ext;clear hE HC3);go_ret;exact⟨by rw[HFN.out];rfl,HZ.out⟩
         ·have hkl': ¬(k:Int)<fb.length:=by omega
          have hkn:k=fb.length:=by omega
          have HT:=G (HGOOD.out (by have:=HAk.out;rw[hkn,bE]at this;rw[HT0.out];exact this));go_wp2_with fail;go_roundw
          case rel=>exact⟨j+1,by go_num,by omega,HT,HCq⟩
          case measure=>simp[intOf];omega
    ·have hlt': ¬(j:Int)<m:=by omega
     have hjn:j=m:=by omega
     have HQF:=G (show p.fs.all kB=true by have:=HA.out;rwa [hjn,HNF.out,bE]at this);have HRR:=G (show R=(decide (n<=20)&&decide (m<=20)&&decide ((gJ p).length<=4000)) by rw[<-HR.out,fP,HQ.out,HQF.out,<-HNV.out,<-HNF.out];simp);have hbc:=HCr.out.box.cell;clear hj hjn HA HR;by_cases h20:n<=20
     ·have h20i:(n:Int)<=20:=by omega
      by_cases hm20:m<=20
      ·have hm20i:(m:Int)<=20:=by omega
       have HSO:=G (mz p (fun f hf=>kW (List.all_eq_true.1 HQF.out f hf)) (fun v hv=>by have:=List.all_eq_true.1 HQ.out v hv;unfold lp at this;simp only[au,decide_eq_true_eq]at this;omega) P _ A B n c m d HCr.out.rv HCr.out.rf ⟨(HTAB.out.fb (a6 HCr.out.ext (ag _))).1,an HTAB.out.2 HCr.out.ext.size⟩ (HSRC.out HQ.out HQF.out (by have:=HNV.out;omega) (by have:=HNF.out;omega)));generalize gJ p=S at*;have hsz:(ae S).size=S.length:=aM S;by_cases hs:S.length<=4000
       ·have hsi:(S.length:Int)<=4000:=by omega
        go_wp2_with (go_at_call 42;refine HSO.out.mono ?_;rintro e w9 ⟨rfl,hE⟩;have HZ:=G (HCr.out.ex hE).ext;clear hE);go_ret;exact⟨by rw[HRR.out];simp[h20,hm20,hs,dl],HZ.out⟩
       ·have hsi: ¬(S.length:Int)<=4000:=by omega
        go_wp2_with (go_at_call 42;refine HSO.out.mono ?_;rintro e w9 ⟨rfl,hE⟩;have HZ:=G (HCr.out.ex hE).ext;clear hE);go_ret;exact⟨by rw[HRR.out];simp[h20,hm20,hs,dl];(try omega),HZ.out⟩
      ·have hm20i: ¬(m:Int)<=20:=by omega
       have HZ:=G HCr.out.ext;go_wp2_with fail;go_ret;exact⟨by rw[HRR.out];simp[h20,hm20,dl],HZ.out⟩
     ·have h20i: ¬(n:Int)<=20:=by omega
      have HZ:=G HCr.out.ext;go_wp2_with fail;go_ret;exact⟨by rw[HRR.out];simp[h20,dl],HZ.out⟩
end
section
open Go.RowKit
theorem oa: ∀(f:Nat) (m:List UInt8) (t:List UInt8) (n:Nat),l_ f m=some (t,n)->t.length+1<=n
 |0,m,t,n,h=>by cases h
 |f+1,[],t,n,h=>by cases h
 |f+1,c::r,t,n,h=>by
  simp only[l_]at h;split at h
  ·cases h;simp
  ·split at h
   ·cases h
   ·obtain⟨⟨t',n'⟩,h1,h2⟩:=Option.map_eq_some_iff.1 h
    cases h2;have:=oa f _ t' n' h1;show(_::t').length+1<=(bI (c::r)).2+n';rw[ac];omega
theorem sk {c:UInt8} {r:List UInt8} {k:Int} {t:List UInt8} {v:Int} {n:Nat} (h:jn (c::r)= .ok ((k,t,v),n)):t.length<=n:=by
 simp only[jn]at h;split at h
 ·unfold fK at h;split at h
  ·cases h;rw[cO];omega
  ·split at h
   ·cases h
   ·cases h;rw[cO];omega
 ·split at h
  ·unfold eP at h;split at h
   ·cases h
   ·split at h
    ·cases h
    ·cases h;simp
  ·split at h
   ·unfold ff at h;split at h
    ·cases h
    ·cases h;simp
   ·split at h
    ·unfold gx at h;split at h
     ·cases h
     ·rename_i t' n' hl;split at h
      ·cases h
      ·cases h;have:=oa _ _ _ _ hl;omega
    ·unfold fA at h;split at h
     ·cases h;rw[cO];omega
     ·split at h
      ·cases h;rw[cO];omega
      ·cases h
theorem rK: ∀(f:Nat) (m:List UInt8) (a:Nat) (ts:List bB),ga f m a= .ok ts->c7 ts<=3*m.length
 |0,m,a,ts,h=>by cases h;simp[c7]
 |f+1,m,a,ts,h=>by
  simp only[ga]at h;split at h
  ·cases h;simp[c7]
  ·rename_i c r hd;split at h
   ·cases h
   ·rename_i k t v n ht;have hn:=kP ht;have hx:=sk ht;split at h
    ·cases h
    ·rename_i us hu
     cases h;have:=rK f _ _ us hu;have hl:(c::r).length<=m.length:=by rw[<-hd,aZ];omega
     rw[aZ]at this;simp only[c7,ac]at this hl hn⊢;omega
theorem km: ∀(f:Nat) (m:List UInt8) (a:Nat) (ts:List bB),ga f m a= .ok ts->ts.length<=m.length
 |0,m,a,ts,h=>by cases h;simp
 |f+1,m,a,ts,h=>by
  simp only[ga]at h;split at h
  ·cases h;simp
  ·rename_i c r hd;split at h
   ·cases h
   ·rename_i k t v n ht;have hn:=kP ht;split at h
    ·cases h
    ·rename_i us hu
     cases h;have:=km f _ _ us hu;have hl:(c::r).length<=m.length:=by rw[<-hd,aZ];omega
     rw[aZ]at this;simp only[ac]at this hl hn⊢;omega
theorem oF (l:List UInt8):(fz l).1.length<=4000/\c7 (fz l).1<=12000:=by
 unfold fz;split
 ·simp[c7]
 ·split
  ·rename_i h _ ts ht;have:=km _ _ _ _ ht;have:=rK _ _ _ _ ht;show ts.length<=4000/\c7 ts<=12000;omega
  ·simp[c7]
def f_:Pg:=⟨[],[]⟩
def mM (n:Nat) (ts:List bB):Pg×Int×Int:=match df (4*ts.length+8) f_ ts with
 | .ok (p,_)=>if fP p then(p,0,0)else(f_,0,6)
 | .error (q,e)=>(f_,pq n q,e)
def gK (s:List UInt8):Pg×Int×Int:=if(fz s).2.2=0 then mM s.length (fz s).1 else(f_,(fz s).2.1,(fz s).2.2)
theorem qm {p:Pg} (hw:kU p<=6000000) (hv:p.vs.all lp=true) (hf:p.fs.all kB=true) (h1:p.vs.length<=20) (h2:p.fs.length<=20):(gJ p).length<=1000000000:=by
 have:=t6 hv hf h1 h2;have:=uu p;omega
theorem wP {p:Pg} {v:Vr} (h:v∈p.vs):v.nm.length<=kU p:=by
 have:=o7 (fun v:Vr=>v.nm.length+1) p.vs v h;unfold kU;omega
theorem mL {p:Pg} {f:Fc} (h:f∈p.fs):f.wt<=kU p:=by
 have:=o7 (fun f:Fc=>f.wt+1) p.fs f h;unfold kU;omega
theorem wR {f:Fc}:f.nm.length<=f.wt:=by unfold Fc.wt;omega
theorem wQ {f:Fc} {y:List UInt8} (h:y∈f.ps):y.length<=f.wt:=by
 have:=o7 (fun s:List UInt8=>s.length+1) f.ps y h;unfold Fc.wt;omega
theorem yI {f:Fc} {s:St} (h:s∈f.body):s.wt<=f.wt:=by
 have:=dC h;unfold Fc.wt;omega
theorem mc (p:Pg) (hw:kU p<=6000000) (P:Nat->Prop) (w:World) (A B:Option Addr) (n c m d:Nat) (hV:iT w P (.slice A n c) p.vs) (hF:iU w P (.slice B m d) p.fs) (hT:dQ w w.heap.size):
  Calls prog 14 #[.agg #[.slice A n c, .slice B m d]] w fun e w'=>e= .returned (.bool (fP p))/\al w w':=
 sg p (fun v hv=>by have:=wP hv;omega) P w A B n c m d
  (fun f hf=>⟨by have:=mL hf;have:=wR (f:=f);omega,fun y hy=>by have:=mL hf;have:=wQ hy;omega,fun s hs=>by have:=mL hf;have:=yI hs;omega⟩)
  (fun h1 h2 h3 h4=>qm hw h1 h2 h3 h4) hV hF hT
theorem xH {n:Nat} {ts:List bB} (h:c7 ts<=12000):kU (mM n ts).1<=12000:=by
 unfold mM;split
 ·rename_i p r hp;have:=(mI _ _ _ _ _ hp).1;split
  ·show kU p<=_;have h0:kU f_=0:=rfl;omega
  ·exact aB _
 ·exact aB _
theorem xK (s:List UInt8):kU (gK s).1<=12000:=by
 unfold gK;split
 ·exact xH (oF s).2
 ·exact aB _
end
end Go.Proofs.YtelplgkppalmfaaGreatDoor
