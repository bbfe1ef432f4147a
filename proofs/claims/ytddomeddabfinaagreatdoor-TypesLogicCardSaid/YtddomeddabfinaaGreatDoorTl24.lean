/-
  Parts of the proof: PlS VaJ PaP TyS TyL.
-/
import Derived.Test.YtddomeddabfinaaGreatDoorTl23
import Derived.Test.YtddomeddabfinaaGreatDoorTl00
set_option maxRecDepth 100000
set_option maxHeartbeats 8000000
set_option linter.unusedVariables false
set_option linter.unusedSimpArgs false
set_option linter.unusedSectionVars false
namespace Go.Proofs.YtddomeddabfinaaGreatDoor
open Go.Proofs.Tryz
open Go.RowKit
def szI (i:Nat) (ts:List (List UInt8)):Nat:=(ts.map fun t=>t.length+i).sum
theorem szI_cons (i:Nat) (t:List UInt8) (ts:List (List UInt8)):szI i (t::ts)=t.length+i+szI i ts:=by simp[szI]
theorem szI_mono {i j:Nat} (h:i<=j): ∀ts,szI i ts<=szI j ts
 | []=>Nat.le_refl _
 |t::ts=>by have:=szI_mono h ts;rw[szI_cons,szI_cons];omega
theorem szI_hd (i:Nat): ∀ts:List (List UInt8),(ts.headD []).length<=szI i ts
 | []=>by simp[szI]
 |t::ts=>by rw[szI_cons];simp;omega
theorem szI_hd2 (i:Nat): ∀ts:List (List UInt8),(ts.headD []).length+(ts.tail.headD []).length<=szI i ts
 | []=>by simp[szI]
 | [t]=>by rw[szI_cons];simp[szI]<;>omega
 |t::u::ts=>by rw[szI_cons,szI_cons];simp;omega
theorem shapeE_len {k:Int} {op nm tx:List UInt8} {v:Int} {ps:List Int} {ss:List (List UInt8)} (hv:k=1->v<=2147483647):
  (shapeE k op nm tx v ps ss).length<=10+op.length+nm.length+2*tx.length+szI 2 ss:=by
 have h1:=szI_hd 2 ss;have h2:=szI_hd2 2 ss;have h3:=joinS_len [44,32] ss;have h4:=quoteL_len tx;have h5:=par_len (decide (ps.headD 0<7)) (ss.headD []);have h6:=par_len (decide (ps.headD 0<lev op)) (ss.headD []);have h7:=par_len (decide (ps.tail.headD 0<=lev op)) (ss.tail.headD []);have h8:k=1->(decL v.toNat).length<=10:=fun h=>decL_len (hv h);simp only[List.length_cons,List.length_nil]at h3;change _<=szI 2 ss at h3;unfold shapeE;split
 ·have:=h8 (by assumption);omega
 repeat' split
 all_goals (try simp only[List.length_append,List.length_cons,List.length_nil])
 all_goals omega
mutual
theorem srcE_len: ∀x:Ex,x.ok=true->(srcE x).length+2<=12*x.wt
 | .mk k op nm tx v a,h=>by
  rw[Ex.ok,Bool.and_eq_true]at h;have ha:=srcs_len a h.2
  have hs:=shapeE_len (k:=k) (op:=op) (nm:=nm) (tx:=tx) (v:=v) (ps:=a.map Ex.prec) (ss:=srcs a) (fun e=>by
   subst e;have h1:=h.1;rw[if_pos rfl]at h1;simp only[Bool.and_eq_true,decide_eq_true_eq]at h1
   exact h1.1.1.2)
  rw[srcE,Ex.wt];omega
theorem srcs_len: ∀l:List Ex,okL l=true->szI 2 (srcs l)<=12*wtL l
 | [],_=>by simp[srcs,szI]
 |x::r,h=>by
  rw[okL,Bool.and_eq_true]at h;have:=srcE_len x h.1;have:=srcs_len r h.2;rw[srcs,szI_cons,wtL];omega
end
theorem blkS_len (i:Nat) (ts:List (List UInt8)):(blkS i ts).length=3+i+szI (i+2) ts:=by
 have h: ∀ts:List (List UInt8),(ts.flatMap (fun t=>tabs (i+1)++t++[10])).length=szI (i+2) ts:=by
  intro ts
  induction ts with
  |nil=>rfl
  |cons t r ih=>rw[List.flatMap_cons,List.length_append,ih,szI_cons];simp[tabs];omega
 unfold blkS;rw[List.length_append,List.length_append,h];simp[tabs];omega
theorem shapeS_len {i:Nat} {k:Int} {nm:List UInt8} {es bs ls l0:List (List UInt8)} {chain:Bool} {E B L:Nat} (he:szI 0 es<=E) (hb:szI (i+2) bs<=B)
  (hl:szI (i+2) ls<=L) (h0:szI 0 l0<=L):(shapeS i k nm es bs ls l0 chain).length<=20+2*i+nm.length+E+B+L:=by
 have h1:=szI_hd 0 es;have h2:=szI_hd2 0 es;have h3:=szI_hd 0 l0;have h4:=blkS_len i bs;have h5:=blkS_len i ls;unfold shapeS;repeat' split
 all_goals simp only[List.length_append,List.length_cons,List.length_nil,tVar,tEq,tIf,tElse,tWhile,tReturn]
 all_goals omega
theorem szI_0 (i:Nat) (ts:List (List UInt8)):szI 0 ts<=szI i ts:=szI_mono (Nat.zero_le _) ts
mutual
theorem srcSt_len: ∀(x:St) (i:Nat),x.ok=true->i+x.dep<=21->(srcSt x i).length+i+2<=150*x.wt
 | .mk k nm e b l,i,h,hd=>by
  rw[St.ok]at h;simp only[Bool.and_eq_true]at h;rw[St.dep]at hd;have h1:=srcs_len e h.1.2;have hb:=srcSs_len b (i+1);have hl:=srcSs_len l (i+1);have h0:=srcSs_len l i;have hb':=hb h.2.1 (by omega);have hl':=hl h.2.2 (by omega);have h0':=h0 h.2.2 (by omega);have m1:=szI_mono (show i+2<=i+1+2 by omega) (srcSs b (i+1));have m2:=szI_mono (show i+2<=i+1+2 by omega) (srcSs l (i+1));have m3:=szI_0 2 (srcs e);have m4:=szI_0 (i+2) (srcSs l i);have:=shapeS_len (i:=i) (k:=k) (nm:=nm) (es:=srcs e) (bs:=srcSs b (i+1)) (ls:=srcSs l (i+1)) (l0:=srcSs l i) (chain:=chainB l) (E:=12*wtL e) (B:=150*wtS b) (L:=150*wtS l)
   (by omega) (by omega) (by omega) (by omega)
  rw[srcSt,St.wt];omega
theorem srcSs_len: ∀(l:List St) (i:Nat),okS l=true->i+depS l<=21->szI (i+2) (srcSs l i)<=150*wtS l
 | [],i,_,_=>by simp[srcSs,szI]
 |x::r,i,h,hd=>by
  rw[okS,Bool.and_eq_true]at h;rw[depS]at hd;have:=srcSt_len x i h.1 (by omega);have:=srcSs_len r i h.2 (by omega);rw[srcSs,szI_cons,wtS];omega
end
theorem sum_le {α:Type} (f g:α->Nat): ∀(l:List α),(∀x,x∈l->f x<=g x)->(l.map f).sum<=(l.map g).sum
 | [],_=>Nat.le_refl _
 |x::r,h=>by
  have:=sum_le f g r (fun y hy=>h y (List.mem_cons_of_mem _ hy));have:=h x (List.mem_cons_self ..);simp only[List.map_cons,List.sum_cons];omega
theorem sum_const {α:Type} (c:Nat): ∀(l:List α),(l.map fun _=>c).sum=c*l.length
 | []=>rfl
 |x::r=>by rw[List.map_cons,List.sum_cons,sum_const c r,List.length_cons,Nat.mul_succ];omega
theorem isNm_len {l:List UInt8} (h:isNm l=true):l.length<=14:=by
 unfold isNm at h;simp only[Bool.and_eq_true,decide_eq_true_eq]at h;exact h.1.1.2
theorem srcV_len {v:Vr} (h:okV v=true):(srcV v).length<=40:=by
 unfold okV at h;simp only[Bool.and_eq_true,decide_eq_true_eq]at h;have:=isNm_len h.1.1;have:=decL_len (v:=v.sz) (by omega);unfold srcV;split<;>simp only[List.length_append,List.length_cons,List.length_nil,tVar]<;>omega
theorem okF_dep {f:Fc} (h:okF f=true):depS f.body<=20:=by
 unfold okF at h;simp only[Bool.and_eq_true,List.all_eq_true,decide_eq_true_eq]at h;have h2:=h.2;clear h;generalize f.body=l at*
 induction l with
 |nil=>exact Nat.zero_le _
 |cons x r ih=>
  have:=ih fun s hs=>h2 s (List.mem_cons_of_mem _ hs);have:=(h2 x (List.mem_cons_self ..)).1;rw[depS];omega
theorem srcF_len {f:Fc} (h:okF f=true):(srcF f).length<=100+150*wtS f.body:=by
 have hb:=srcSs_len f.body 1 (okF_body h) (by have:=okF_dep h;omega);have hk:=blkS_len 0 (srcSs f.body 1);have hj:=joinS_len [44,32] f.ps;have hm:=szI_mono (show 0+2<=1+2 by omega) (srcSs f.body 1);unfold okF at h;simp only[Bool.and_eq_true,List.all_eq_true,decide_eq_true_eq]at h;have h1:=isNm_len h.1.1.1;have h2:=sum_le (fun s:List UInt8=>s.length+[44,32].length) (fun _=>16) f.ps (fun s hs=>by have:=isNm_len (h.1.2 s hs);simp;omega);rw[sum_const]at h2;unfold srcF;simp only[List.length_append,List.length_cons,List.length_nil,tFunc];omega
theorem srcP_len {p:Pg} (hv:p.vs.all okV=true) (hf:p.fs.all okF=true) (h1:p.vs.length<=20) (h2:p.fs.length<=20):(srcP p).length<=2800+150*(p.fs.map fun f=>wtS f.body).sum:=by
 have a1:(p.vs.flatMap srcV).length<=40*p.vs.length:=by
  rw[List.length_flatMap];have:=sum_le (fun v=>(srcV v).length) (fun _=>40) p.vs (fun v hm=>srcV_len (List.all_eq_true.1 hv v hm));rwa [sum_const]at this
 have a2:(p.fs.flatMap srcF).length<=100*p.fs.length+150*(p.fs.map fun f=>wtS f.body).sum:=by
  rw[List.length_flatMap];have:=sum_le (fun f=>(srcF f).length) (fun f=>100+150*wtS f.body) p.fs (fun f hm=>srcF_len (List.all_eq_true.1 hf f hm));have e: ∀l:List Fc,(l.map fun f=>100+150*wtS f.body).sum=100*l.length+150*(l.map fun f=>wtS f.body).sum:=by
   intro l
   induction l with
   |nil=>rfl
   |cons f r ih=>simp only[List.map_cons,List.sum_cons,List.length_cons,ih];omega
  rwa [e]at this
 unfold srcP;rw[List.length_append];omega
def tokW:List Tok->Nat
 | []=>0
 |t::r=>2+t.t.length+tokW r
theorem tokW_tail {l:List Tok} (h:(hdT l).k≠0):tokW l=2+(hdT l).t.length+tokW l.tail:=by
 cases l with
 |nil=>exact absurd rfl h
 |cons t r=>rfl
theorem isL_ne {s:List UInt8} {l:List Tok} (h:isL s l=true):(hdT l).k≠0:=by
 intro e;simp[isL,e]at h
theorem wantL_w {s:List UInt8} {l r:List Tok} {u:Unit} (h:wantL s l= .ok (u,r)):tokW r+2<=tokW l:=by
 obtain⟨h1,rfl,_⟩:=wantL_ok h;have:=tokW_tail (isL_ne h1);omega
theorem nameL_w {l r:List Tok} {nm:List UInt8} (h:nameL l= .ok (nm,r)):nm.length+2+tokW r=tokW l:=by
 obtain⟨h1,rfl,rfl,_⟩:=nameL_ok h;have:=tokW_tail (l:=l) (by rw[h1];decide);omega
theorem isL_w {s:List UInt8} {l:List Tok} (h:isL s l=true):tokW l.tail+2<=tokW l:=by
 have:=tokW_tail (isL_ne h);omega
theorem expr_w: ∀(f:Nat),
  (∀n l x r,pExpr f n l= .ok (x,r)->x.wt+1+tokW r<=tokW l)/\(∀n y l x r,pLoop f n y l= .ok (x,r)->x.wt+tokW r<=y.wt+tokW l)/\
  (∀l x r,pPrim f l= .ok (x,r)->x.wt+1+tokW r<=tokW l)/\(∀nm l x r,pNamed f nm l= .ok (x,r)->x.wt+tokW r<=1+nm.length+tokW l)/\
  (∀l x r,pArgs f l= .ok (x,r)->wtL x+tokW r<=tokW l)/\(∀acc l x r,pArgs1 f acc l= .ok (x,r)->wtL x+tokW r<=wtL acc+tokW l)
 |0=>by
  refine⟨?_,?_,?_,?_,?_,?_⟩;all_goals (intros;rename_i h;simp[pExpr,pLoop,pPrim,pNamed,pArgs,pArgs1]at h)
 |f+1=>by
  obtain⟨iE,iL,iP,iN,iA,iB⟩:=expr_w f;refine⟨?_,?_,?_,?_,?_,?_⟩
  ·intro n l x r h;rw[pExpr]at h;obtain⟨a,q,h1,h2⟩:=PR.then_ok h;have:=iP _ _ _ h1;have:=iL _ _ _ _ _ h2;omega
  ·intro n y l x r h;rw[pLoop]at h;split at h
   ·rename_i hk;obtain⟨a,q,h1,h2⟩:=PR.then_ok h;have:=iE _ _ _ _ h1;have:=iL _ _ _ _ _ h2;have:=tokW_tail (l:=l) (by rw[hk.1];decide);simp only[Ex.wt,wtL,List.length_nil]at*;omega
   ·obtain⟨rfl,rfl⟩:=ok_inj h;exact Nat.le_refl _
  ·intro l x r h;rw[pPrim]at h;split at h
   ·rename_i hk;have:=tokW_tail (l:=l) (by rw[hk];decide);obtain⟨rfl,rfl⟩:=ok_inj h;simp only[Ex.wt,wtL,List.length_nil];omega
   ·split at h
    ·rename_i hk;have:=tokW_tail (l:=l) (by rw[hk];decide);obtain⟨rfl,rfl⟩:=ok_inj h;simp only[Ex.wt,wtL,List.length_nil];omega
    ·split at h
     ·rename_i hk;have:=tokW_tail (l:=l) (by rw[hk];decide);have:=iN _ _ _ _ h;omega
     ·split at h
      ·rename_i hk;obtain⟨a,q,h1,h2⟩:=PR.then_ok h;have:=iP _ _ _ h1;obtain⟨rfl,rfl⟩:=ok_inj h2;have hne:(hdT l).k≠0:=by
        rw[Bool.or_eq_true]at hk;rcases hk with hk|hk<;>exact isL_ne hk
       have:=tokW_tail hne;simp only[Ex.wt,wtL,List.length_nil]at*;omega
      ·obtain⟨a,q,h1,h2⟩:=PR.then_ok h;obtain⟨a',q',h3,h4⟩:=PR.then_ok h2;obtain⟨a'',q'',h5,h6⟩:=PR.then_ok h4;have:=wantL_w h1;have:=iE _ _ _ _ h3;have:=wantL_w h5;obtain⟨rfl,rfl⟩:=ok_inj h6;omega
  ·intro nm l x r h;rw[pNamed]at h;split at h
   ·rename_i hk;obtain⟨a,q,h1,h2⟩:=PR.then_ok h;obtain⟨a',q',h3,h4⟩:=PR.then_ok h2;have:=isL_w hk;have:=iE _ _ _ _ h1;have:=wantL_w h3;obtain⟨rfl,rfl⟩:=ok_inj h4;simp only[Ex.wt,wtL,List.length_nil];omega
   ·split at h
    ·rename_i hk;obtain⟨a,q,h1,h2⟩:=PR.then_ok h;have:=isL_w hk;have:=iA _ _ _ h1;obtain⟨rfl,rfl⟩:=ok_inj h2;simp only[Ex.wt,List.length_nil];omega
    ·obtain⟨rfl,rfl⟩:=ok_inj h;simp only[Ex.wt,wtL,List.length_nil];omega
  ·intro l x r h;rw[pArgs]at h;split at h
   ·rename_i hk;have:=isL_w hk;obtain⟨rfl,rfl⟩:=ok_inj h;simp only[wtL];omega
   ·have:=iB _ _ _ _ h;simp only[wtL]at this;omega
  ·intro acc l x r h;rw[pArgs1]at h;obtain⟨a,q,h1,h2⟩:=PR.then_ok h;have:=iE _ _ _ _ h1;split at h2
   ·rename_i hk;have:=isL_w hk;obtain⟨rfl,rfl⟩:=ok_inj h2;rw[wtL_app];simp only[wtL];omega
   ·obtain⟨a',q',h3,h4⟩:=PR.then_ok h2;have:=wantL_w h3;have:=iB _ _ _ _ h4;rw[wtL_app]at this;simp only[wtL]at this;omega
theorem stmt_w: ∀(f:Nat),
  (∀l x r,pBlock f l= .ok (x,r)->wtS x+tokW r<=tokW l)/\(∀acc l x r,pBlock1 f acc l= .ok (x,r)->wtS x+tokW r<=wtS acc+tokW l)/\
  (∀l x r,pIf f l= .ok (x,r)->x.wt+tokW r<=tokW l)/\(∀l x r,pStmt f l= .ok (x,r)->x.wt+tokW r<=tokW l)
 |0=>by
  refine⟨?_,?_,?_,?_⟩;all_goals (intros;rename_i h;simp[pBlock,pBlock1,pIf,pStmt]at h)
 |f+1=>by
  obtain⟨iB,iC,iI,iS⟩:=stmt_w f;obtain⟨iE,_,_,iN,_,_⟩:=expr_w f;refine⟨?_,?_,?_,?_⟩
  ·intro l x r h;rw[pBlock]at h;obtain⟨a,q,h1,h2⟩:=PR.then_ok h;have:=wantL_w h1;have:=iC _ _ _ _ h2;simp only[wtS]at this;omega
  ·intro acc l x r h;rw[pBlock1]at h;split at h
   ·rename_i hk;have:=isL_w hk;obtain⟨rfl,rfl⟩:=ok_inj h;omega
   ·obtain⟨a,q,h1,h2⟩:=PR.then_ok h;have:=iS _ _ _ h1;have:=iC _ _ _ _ h2;rw[wtS_app]at this;simp only[wtS]at this;omega
  ·intro l x r h;rw[pIf]at h;obtain⟨a,q,h1,h2⟩:=PR.then_ok h;obtain⟨a',q',h3,h4⟩:=PR.then_ok h2;have:=iE _ _ _ _ h1;have:=iB _ _ _ h3;split at h4
   ·rename_i hk;have:=isL_w hk;split at h4
    ·rename_i hk2;have:=isL_w hk2;obtain⟨a2,q2,h5,h6⟩:=PR.then_ok h4;have:=iI _ _ _ h5;obtain⟨rfl,rfl⟩:=ok_inj h6;simp only[St.wt,wtL,wtS,List.length_nil];omega
    ·obtain⟨a2,q2,h5,h6⟩:=PR.then_ok h4;have:=iB _ _ _ h5;obtain⟨rfl,rfl⟩:=ok_inj h6;simp only[St.wt,wtL,List.length_nil];omega
   ·obtain⟨rfl,rfl⟩:=ok_inj h4;simp only[St.wt,wtL,wtS,List.length_nil];omega
  ·intro l x r h;rw[pStmt]at h;split at h
   ·rename_i hk;have:=isL_w hk;have:=iI _ _ _ h;omega
   ·split at h
    ·rename_i hk;have:=isL_w hk;obtain⟨a,q,h1,h2⟩:=PR.then_ok h;obtain⟨a',q',h3,h4⟩:=PR.then_ok h2;have:=iE _ _ _ _ h1;have:=iB _ _ _ h3;obtain⟨rfl,rfl⟩:=ok_inj h4;simp only[St.wt,wtL,wtS,List.length_nil];omega
    ·split at h
     ·rename_i hk;have:=isL_w hk;obtain⟨nm,q,h1,h2⟩:=PR.then_ok h;obtain⟨ex,q',h3,h4⟩:=PR.then_ok h2;obtain⟨a,q'',h5,h6⟩:=PR.then_ok h4;have:=nameL_w h1;have:=wantL_w h5;have he:wtL ex+tokW q'<=tokW q:=by
       split at h3
       ·rename_i hk2;have:=isL_w hk2;obtain⟨y,q3,h7,h8⟩:=PR.then_ok h3;have:=iE _ _ _ _ h7;obtain⟨rfl,rfl⟩:=ok_inj h8;simp only[wtL];omega
       ·obtain⟨rfl,rfl⟩:=ok_inj h3;simp only[wtL];omega
      obtain⟨rfl,rfl⟩:=ok_inj h6;simp only[St.wt,wtS];omega
     ·split at h
      ·rename_i hk;have:=isL_w hk;obtain⟨ex,q',h3,h4⟩:=PR.then_ok h;obtain⟨a,q'',h5,h6⟩:=PR.then_ok h4;have:=wantL_w h5;have he:wtL ex+tokW q'<=tokW l.tail:=by
        split at h3
        ·obtain⟨rfl,rfl⟩:=ok_inj h3;simp only[wtL];omega
        ·obtain⟨y,q3,h7,h8⟩:=PR.then_ok h3;have:=iE _ _ _ _ h7;obtain⟨rfl,rfl⟩:=ok_inj h8;simp only[wtL];omega
       obtain⟨rfl,rfl⟩:=ok_inj h6;simp only[St.wt,wtS,List.length_nil];omega
      ·obtain⟨nm,q,h1,h2⟩:=PR.then_ok h;obtain⟨s,q',h3,h4⟩:=PR.then_ok h2;obtain⟨a,q'',h5,h6⟩:=PR.then_ok h4;have:=nameL_w h1;have:=wantL_w h5;have he:s.wt+tokW q'<=2+nm.length+tokW q:=by
        split at h3
        ·obtain⟨y,q3,h7,h8⟩:=PR.then_ok h3;have:=iN _ _ _ _ h7;obtain⟨rfl,rfl⟩:=ok_inj h8;simp only[St.wt,wtL,wtS,List.length_nil];omega
        ·split at h3
         ·rename_i hk;have:=isL_w hk;obtain⟨y,q3,h7,h8⟩:=PR.then_ok h3;obtain⟨_,q4,h9,h10⟩:=PR.then_ok h8;obtain⟨_,q5,h11,h12⟩:=PR.then_ok h10;obtain⟨z,q6,h13,h14⟩:=PR.then_ok h12;have:=iE _ _ _ _ h7;have:=wantL_w h9;have:=wantL_w h11;have:=iE _ _ _ _ h13;obtain⟨rfl,rfl⟩:=ok_inj h14;simp only[St.wt,wtL,wtS];omega
         ·obtain⟨_,q4,h9,h10⟩:=PR.then_ok h3;obtain⟨z,q6,h13,h14⟩:=PR.then_ok h10;have:=wantL_w h9;have:=iE _ _ _ _ h13;obtain⟨rfl,rfl⟩:=ok_inj h14;simp only[St.wt,wtL,wtS];omega
       obtain⟨rfl,rfl⟩:=ok_inj h6;omega
def Fc.wt (f:Fc):Nat:=f.nm.length+(f.ps.map fun s=>s.length+1).sum+wtS f.body
def pgW (p:Pg):Nat:=(p.vs.map fun v=>v.nm.length+1).sum+(p.fs.map fun f=>f.wt+1).sum
theorem var_w {l r:List Tok} {v:Vr} (h:pVar l= .ok (v,r)):v.nm.length+1+tokW r<=tokW l/\0<=v.sz/\v.sz<=2000:=by
 unfold pVar at h;obtain⟨nm,q,h1,h2⟩:=PR.then_ok h;obtain⟨sz,q',h3,h4⟩:=PR.then_ok h2;obtain⟨a,q'',h5,h6⟩:=PR.then_ok h4;have:=nameL_w h1;have:=wantL_w h5;have he:tokW q'<=tokW q/\0<=sz/\sz<=2000:=by
  split at h3
  ·rename_i hk;have:=isL_w hk;split at h3
   ·rename_i hk2;have:=tokW_tail (l:=q.tail) (by rw[hk2];decide);split at h3
    ·cases h3
    ·rename_i hk3;obtain⟨_,q3,h7,h8⟩:=PR.then_ok h3;have:=wantL_w h7;obtain⟨rfl,rfl⟩:=ok_inj h8;omega
   ·cases h3
  ·obtain⟨rfl,rfl⟩:=ok_inj h3;exact⟨Nat.le_refl _,by decide,by decide⟩
 obtain⟨rfl,rfl⟩:=ok_inj h6;refine⟨?_,he.2⟩;change nm.length+1+_<=_;omega
theorem names1_w: ∀(f:Nat) acc l x r,pNames1 f acc l= .ok (x,r)->(x.map fun s=>s.length+1).sum+tokW r<=(acc.map fun s:List UInt8=>s.length+1).sum+tokW l
 |0,acc,l,x,r,h=>by cases h
 |f+1,acc,l,x,r,h=>by
  rw[pNames1]at h;obtain⟨a,q,h1,h2⟩:=PR.then_ok h;have:=nameL_w h1;split at h2
  ·rename_i hk;have:=isL_w hk;obtain⟨rfl,rfl⟩:=ok_inj h2;simp;omega
  ·obtain⟨a',q',h3,h4⟩:=PR.then_ok h2;have:=wantL_w h3;have:=names1_w f _ _ _ _ h4;simp at this;omega
theorem names_w {f:Nat} {l r:List Tok} {x:List (List UInt8)} (h:pNames f l= .ok (x,r)):(x.map fun s=>s.length+1).sum+tokW r<=tokW l:=by
 unfold pNames at h;split at h
 ·rename_i hk;have:=isL_w hk;obtain⟨rfl,rfl⟩:=ok_inj h;simp;omega
 ·have:=names1_w _ _ _ _ _ h;simpa using this
theorem func_w {f:Nat} {l r:List Tok} {x:Fc} (h:pFunc f l= .ok (x,r)):x.wt+1+tokW r<=tokW l:=by
 unfold pFunc at h;obtain⟨nm,q,h1,h2⟩:=PR.then_ok h;obtain⟨_,q1,h3,h4⟩:=PR.then_ok h2;obtain⟨ps,q2,h5,h6⟩:=PR.then_ok h4;obtain⟨b,q3,h7,h8⟩:=PR.then_ok h6;have:=nameL_w h1;have:=wantL_w h3;have:=names_w h5;have:=(stmt_w f).1 _ _ _ h7;obtain⟨rfl,rfl⟩:=ok_inj h8;change nm.length+(ps.map fun s=>s.length+1).sum+wtS b+1+_<=_;omega
theorem prog_w: ∀(f:Nat) (p:Pg) (l:List Tok) (x:Pg) (r:List Tok),pProg f p l= .ok (x,r)->pgW x<=pgW p+tokW l/\((∀v,v∈p.vs->0<=v.sz/\v.sz<=2000)-> ∀v,v∈x.vs->0<=v.sz/\v.sz<=2000)
 |0,p,l,x,r,h=>by cases h
 |f+1,p,l,x,r,h=>by
  rw[pProg]at h;split at h
  ·obtain⟨rfl,rfl⟩:=ok_inj h;exact⟨by omega,fun h=>h⟩
  ·split at h
   ·rename_i hk;have:=isL_w hk;obtain⟨v,q,h1,h2⟩:=PR.then_ok h;have h3:=var_w h1;have h4:=prog_w f _ _ _ _ h2;refine⟨?_,fun hp=>h4.2 fun u hu=> ?_⟩
    ·have:=h4.1;simp only[pgW,List.map_append,List.sum_append,List.map_cons,List.map_nil,List.sum_cons,List.sum_nil]at this⊢;omega
    ·rcases List.mem_append.1 hu with hu|hu
     ·exact hp u hu
     ·rw[List.mem_singleton]at hu;subst hu;exact h3.2
   ·obtain⟨_,q,h1,h2⟩:=PR.then_ok h;obtain⟨c,q',h3,h4⟩:=PR.then_ok h2;have:=wantL_w h1;have:=func_w h3;have h5:=prog_w f _ _ _ _ h4;refine⟨?_,h5.2⟩;have:=h5.1;simp only[pgW,List.map_append,List.sum_append,List.map_cons,List.map_nil,List.sum_cons,List.sum_nil]at this⊢;omega
theorem pgW_body (p:Pg):(p.fs.map fun f=>wtS f.body).sum<=pgW p:=by
 have:=sum_le (fun f:Fc=>wtS f.body) (fun f=>f.wt+1) p.fs (fun f _=>by unfold Fc.wt;omega);unfold pgW;omega
theorem le_sum {α:Type} (f:α->Nat): ∀(l:List α) (x:α),x∈l->f x<=(l.map f).sum
 |y::r,x,h=>by
  rw[List.map_cons,List.sum_cons];rcases List.mem_cons.1 h with rfl|h
  ·omega
  ·have:=le_sum f r x h;omega
end Go.Proofs.YtddomeddabfinaaGreatDoor
namespace Go.Proofs.YtddomeddabfinaaGreatDoor
open Go.Proofs.Tryz
open Go.RowKit
structure VQ (px:Nat) (w0:World) (P:Nat->Prop) (vv fv:Value) (p:Pg) (W:World):Prop where
 box:Blk W px 34 #[vv,fv]
 rv:RdV W P vv p.vs
 rf:RdF W P fv p.fs
 ext:Ext w0 W
theorem VQ.ex {px:Nat} {w0 W W':World} {P:Nat->Prop} {vv fv:Value} {p:Pg} (h:VQ px w0 P vv fv p W) (hE:Ext W W'):VQ px w0 P vv fv p W':=
 ⟨h.box.ext hE,h.rv.keep (.of_ext hE) (fun _ hb _=>hb),h.rf.keep (.of_ext hE) (fun _ hb _=>hb),h.ext.trans hE⟩
def okSt (s:St):Bool:=decide (s.dep<=20)&&s.ok
theorem allB_take_false {α:Type} (f:α->Bool) (l:List α) (j:Nat) (h:j<l.length) (hf:f l[j]=false):l.all f=false:=by
 cases hh:l.all f with
 |false=>rfl
 |true=>rw[List.all_eq_true]at hh;have:=hh _ (List.getElem_mem h);rw[hf]at this;cases this
theorem allB_take_succ {α:Type} (f:α->Bool) (l:List α) (j:Nat) (h:j<l.length) (h1:(l.take j).all f=true) (h2:f l[j]=true):(l.take (j+1)).all f=true:=by
 rw[List.take_succ_eq_append_getElem h,List.all_append,h1];simp[h2]
theorem valid_any (p:Pg) (hvn: ∀v,v∈p.vs->v.nm.length<=1073741824) (P:Nat->Prop) (w:World) (A B:Option Addr) (n c m d:Nat) (hfn: ∀f,f∈p.fs->f.nm.length<=1073741824/\(∀y,y∈f.ps->y.length<=1073741824)/\ ∀s,s∈f.body->s.wt<=1073741824) (hsrc:p.vs.all okV=true->p.fs.all okF=true->p.vs.length<=20->p.fs.length<=20->(srcP p).length<=1000000000) (hV:RdV w P (.slice A n c) p.vs) (hF:RdF w P (.slice B m d) p.fs) (hT:TabW w w.heap.size):
  Calls prog 35 #[.agg #[.slice A n c, .slice B m d]] w fun e w'=>e= .returned (.bool (okPg p))/\Ext w w':=by
 have hnv:n=p.vs.length/\n<=maxLen:=by
  obtain⟨A',c',hv,h⟩:=hV;injection hv with _ hn _;refine⟨hn,?_⟩;rcases h with h|⟨h1,h2,_⟩
  ·rw[hn,h];exact Nat.zero_le _
  ·omega
 have hnf:m=p.fs.length/\m<=maxLen:=by
  obtain⟨A',c',hv,h⟩:=hF;injection hv with _ hn _;refine⟨hn,?_⟩;rcases h with h|⟨h1,h2,_⟩
  ·rw[hn,h];exact Nat.zero_le _
  ·omega
 obtain⟨hnv,hnm⟩:=hnv;obtain⟨hnf,hnn⟩:=hnf;unfold maxLen at hnm hnn;have HNV:=hide hnv;have HNF:=hide hnf;have HVN:=hide hvn;have HFN0:=hide hfn;have HSRC:=hide hsrc;have HTAB:=hide hT;generalize hR:okPg p=R;have HR:=hide hR;have hEb:=Ext.alloc w (.cells #[.slice A n c, .slice B m d] 34);have HC0:=hide (show VQ w.heap.size w P (.slice A n c) (.slice B m d) p (w.alloc (.cells #[.slice A n c, .slice B m d] 34))from⟨Blk.new w _ _,hV.keep (.of_ext hEb) (fun _ hb _=>hb),hF.keep (.of_ext hEb) (fun _ hb _=>hb),hEb⟩);have hbc:=HC0.out.box.cell;clear hnv hnf hvn hfn hsrc hR hEb hV hF hT;go_enter func35,ntmps35;go_wp2_with fail
 go_loopw [12] (fun vi wr=> ∃j:Nat,vi= .int .i64 (j:Int)/\j<=n/\Hid ((p.vs.take j).all okV=true)/\Hid (VQ w.heap.size w P (.slice A n c) (.slice B m d) p wr)) (fun vi _=>n-(intOf vi).toNat)
 case atStart=>exact⟨0,rfl,Nat.zero_le _,hide (by simp),HC0⟩
 case round=>
  clear HC0 hbc;obtain⟨j,rfl,hj,HA,HCr⟩:=hrel;by_cases hlt:j<n
  ·have hlt':(j:Int)<n:=by omega
   have hjl:j<p.vs.length:=by have:=HNV.out;omega
   obtain⟨A',c',hv,hh⟩:=HCr.out.rv;injection hv with hA hn' hc';rcases hh with hh|⟨h1,h2,b9,o9,hA2,hP9,hb9,hcl⟩
   ·rw[hh]at hjl;simp at hjl
   obtain⟨e0,e1⟩:=hcl j hjl;have hA3:A=some ⟨b9,o9,none⟩:=hA.trans hA2;subst hA3;clear hcl hA hA2 hn' hc' h1 h2 hP9;have hvl:=HVN.out _ (List.getElem_mem hjl);have HBAD:=hide (fun h:okV p.vs[j]=false=>show R=false by rw[<-HR.out,okPg,allB_take_false okV p.vs j hjl h];rfl);have HGOOD:=hide (fun h:okV p.vs[j]=true=>allB_take_succ okV p.vs j hjl HA.out h);have HOKV:=hide (show okV p.vs[j]=(isNm p.vs[j].nm&&decide (0<=p.vs[j].sz)&&decide (p.vs[j].sz<=2000))from rfl);generalize okV p.vs[j]=ov at*;generalize p.vs[j].nm=vn at*;generalize p.vs[j].sz=vz at*;have HI:=hide (isname_any vn hvl);generalize isNm vn=bn at*;have HC1:=hide (HCr.out.ex (Ext.alloc wr (.cells #[.string (str vn), .int .i64 vz] 85)));have hyc:=(Blk.new wr 85 #[.string (str vn), .int .i64 vz]).cell;by_cases hok:bn=true/\0<=vz/\vz<=2000
   ·obtain⟨rfl,hz0,hz1⟩:=hok;have HT:=hide (HGOOD.out (by rw[HOKV.out];simp[hz0,hz1]));have hz2: ¬vz<0:=by omega
    have hz3: ¬2000<vz:=by omega
    go_wp2_with (go_at_call 66;refine(HI.out _).mono ?_;rintro e w1 ⟨rfl,rfl⟩);go_roundw
    case rel=>exact⟨j+1,by go_num,by omega,HT,HC1⟩
    case measure=>simp[intOf];omega
   ·have HFN:=hide (HBAD.out (by
     rw[HOKV.out]
     cases bn with
     |false=>rfl
     |true=>
      by_cases h0:0<=vz
      ·have h1: ¬vz<=2000:=fun h=>hok ⟨rfl,h0,h⟩;simp[h1]
      ·simp[h0]))
    have HZ:=hide HC1.out.ext
    cases bn with
    |false=>
     clear hok;go_wp2_with (go_at_call 66;refine(HI.out _).mono ?_;rintro e w1 ⟨rfl,rfl⟩);go_ret;exact⟨by rw[HFN.out];rfl,HZ.out⟩
    |true=>
     by_cases hz0:vz<0
     ·clear hok;go_wp2_with (go_at_call 66;refine(HI.out _).mono ?_;rintro e w1 ⟨rfl,rfl⟩);go_ret;exact⟨by rw[HFN.out];rfl,HZ.out⟩
     ·have hz1:2000<vz:=by
       by_cases h:2000<vz
       ·exact h
       ·exact absurd ⟨rfl,by omega,by omega⟩ hok
      clear hok;go_wp2_with (go_at_call 66;refine(HI.out _).mono ?_;rintro e w1 ⟨rfl,rfl⟩);go_ret;exact⟨by rw[HFN.out];rfl,HZ.out⟩
  ·have hlt': ¬(j:Int)<n:=by omega
   have hjn:j=n:=by omega
   have HQ:=hide (show p.vs.all okV=true by have:=HA.out;rwa [hjn,HNV.out,List.take_length]at this);have hbc:=HCr.out.box.cell;go_wp2_with fail;clear hlt hlt' hjn hj HA
   go_loopw [34] (fun vi wr=> ∃j:Nat,vi= .int .i64 (j:Int)/\j<=m/\Hid ((p.fs.take j).all okF=true)/\Hid (VQ w.heap.size w P (.slice A n c) (.slice B m d) p wr)) (fun vi _=>m-(intOf vi).toNat)
   case atStart=>exact⟨0,rfl,Nat.zero_le _,hide (by simp),HCr⟩
   case round=>
    clear HCr hbc;obtain⟨j,rfl,hj,HA,HCr⟩:=hrel;by_cases hlt:j<m
    ·have hlt':(j:Int)<m:=by omega
     have hjl:j<p.fs.length:=by have:=HNF.out;omega
     obtain⟨A',c',hv,hh⟩:=HCr.out.rf;injection hv with hA hn' hc';rcases hh with hh|⟨h1,h2,b9,o9,hA2,hP9,hb9,pv,bv,hcl⟩
     ·rw[hh]at hjl;simp at hjl
     obtain⟨e0,e1,e2,hrn,hrs⟩:=hcl j hjl;have hA3:B=some ⟨b9,o9,none⟩:=hA.trans hA2;subst hA3;clear hcl hA hA2 hn' hc' h1 h2 hP9;obtain⟨hfl,hfp,hfw⟩:=HFN0.out _ (List.getElem_mem hjl);have HBAD:=hide (fun h:okF p.fs[j]=false=>show R=false by rw[<-HR.out,okPg,allB_take_false okF p.fs j hjl h];simp);have HGOOD:=hide (fun h:okF p.fs[j]=true=>allB_take_succ okF p.fs j hjl HA.out h);have HOKF:=hide (show okF p.fs[j]=(isNm p.fs[j].nm&&decide (p.fs[j].ps.length<=4)&&p.fs[j].ps.all isNm&&p.fs[j].body.all okSt)from rfl);generalize okF p.fs[j]=ov at*;generalize p.fs[j].nm=fn at*;generalize p.fs[j].ps=fps at*;generalize p.fs[j].body=fb at*;generalize pv j=pvj at*;generalize bv j=bvj at*;obtain⟨Ap,cp,rfl,hcap⟩:=id hrn;obtain⟨Ab,cbb,rfl,hbl⟩:=hrs.form;have hbl:fb.length<=maxLen:=by
      rcases hbl with h|⟨h1,h2,_⟩
      ·rw[h];exact Nat.zero_le _
      ·omega
     unfold maxLen at hbl;have HI:=hide (isname_any fn hfl);generalize isNm fn=bn at*;have hEA:=Ext.alloc wr (.cells #[.string (str fn), .slice Ap fps.length cp, .slice Ab fb.length cbb] 59);have HC1:=hide (HCr.out.ex hEA);have HYB:=hide (Blk.new wr 59 #[.string (str fn), .slice Ap fps.length cp, .slice Ab fb.length cbb]);have hyc:=HYB.out.cell;have HRn:=hide (hrn.keep (.of_ext hEA) (fun _ hb _=>hb));have HRs:=hide (hrs.keep (.of_ext hEA) (fun _ hb _=>hb));have HCON:=hide (fun(W:World) (h:RdN W P (.slice Ap fps.length cp) fps) (h4:fps.length<=1073741824)=>conN_any (fun y=> !isNm y) fps P W Ap fps.length cp h h4 (fun y hy w' _=>valid1_any y (hfp y hy) w'));clear hEA hrn hrs hcap
     cases bn with
     |false=>
      have HFN:=hide (HBAD.out (by rw[HOKF.out];simp));have HZ:=hide HC1.out.ext;go_wp2_with (go_at_call 66;refine(HI.out _).mono ?_;rintro e w1 ⟨rfl,rfl⟩);go_ret;exact⟨by rw[HFN.out];rfl,HZ.out⟩
     |true=>
      by_cases h4:4<fps.length
      ·have HFN:=hide (HBAD.out (by rw[HOKF.out];simp[show ¬fps.length<=4 from by omega]));have HZ:=hide HC1.out.ext;have h4i:(4:Int)<fps.length:=by omega
       go_wp2_with (go_at_call 66;refine(HI.out _).mono ?_;rintro e w1 ⟨rfl,rfl⟩);go_ret;exact⟨by rw[HFN.out];rfl,HZ.out⟩
      ·have h4i: ¬(4:Int)<fps.length:=by omega
       have HCO:=hide (HCON.out _ HRn.out (by omega));have HAL:=hide (show fps.any (fun y=> !isNm y)= !fps.all isNm from by rw[List.not_all_eq_any_not]);rw[HAL.out]at HCO;clear HAL HCON
       cases hal:fps.all isNm with
       |false=>
        rw[hal]at HCO;have HFN:=hide (HBAD.out (by rw[HOKF.out,hal];simp));clear hal;go_wp2_with (first|(go_at_call 66;refine(HI.out _).mono ?_;rintro e w1 ⟨rfl,rfl⟩)|(go_at_call 67;refine HCO.out.mono ?_;rintro e w3 ⟨rfl,hE⟩;have HZ:=hide (HC1.out.ex hE).ext;clear hE));go_ret;exact⟨by rw[HFN.out];rfl,HZ.out⟩
       |true=>
        rw[hal]at HCO;have HT0:=hide (show ov=fb.all okSt from by rw[HOKF.out,hal];simp[show fps.length<=4 from by omega]);clear hal;go_wp2_with (first|(go_at_call 66;refine(HI.out _).mono ?_;rintro e w1 ⟨rfl,rfl⟩)|(go_at_call 67;refine HCO.out.mono ?_;rintro e w3 ⟨rfl,hE⟩;have HC2:=hide (HC1.out.ex hE);have HYB2:=hide (HYB.out.ext hE);clear hyc;have hyc:=HYB2.out.cell;have HRw:=hide (HRs.out.keep (.of_ext hE) (fun _ hb _=>hb));clear hE HC1));clear hyc
        go_loopw [56] (fun vk wr=> ∃k:Nat,vk= .int .i64 (k:Int)/\k<=fb.length/\Hid ((fb.take k).all okSt=true)/\Hid (VQ w.heap.size w P (.slice A n c) (.slice (some ⟨b9,o9,none⟩) m d) p wr)/\Hid (RdS wr P (.slice Ab fb.length cbb) fb)) (fun vk _=>fb.length-(intOf vk).toNat)
        case atStart=>exact⟨0,rfl,Nat.zero_le _,hide (by simp),HC2,HRw⟩
        case round=>
         clear HC2 HRw HYB2 HYB HRs HRn HCO HCr;obtain⟨k,rfl,hk,HAk,HCq,HRq⟩:=hrel;by_cases hkl:k<fb.length
         ·have hkl':(k:Int)<fb.length:=by omega
          obtain⟨bs,os,eu,ev,ez,rfl,hbs,hPs,q0,q1,q2,q3,q4,hre,hrb,hrl⟩:=HRq.out.at_ k hkl;have hw:=hfw _ (List.getElem_mem hkl);have HBk:=hide (fun h:okSt fb[k]=false=>HBAD.out (by rw[HT0.out,allB_take_false okSt fb k hkl h]));have HGk:=hide (fun h:okSt fb[k]=true=>allB_take_succ okSt fb k hkl HAk.out h);have HOk:=hide (show okSt fb[k]=(decide (fb[k].dep<=20)&&fb[k].ok)from rfl);generalize okSt fb[k]=os1 at*;generalize fb[k]=y at*;obtain⟨Ey,ey,rfl,_⟩:=hre.form;obtain⟨By,by_,rfl,_⟩:=hrb.form;obtain⟨Cy,cy,rfl,_⟩:=hrl.form;have hEA:=Ext.alloc wr (.cells #[.int .i64 y.k, .string (str y.nm), .slice Ey y.ex.length ey, .slice By y.body.length by_, .slice Cy y.els.length cy] 72);have HC3:=hide (HCq.out.ex hEA);have HR3:=hide (HRq.out.keep (.of_ext hEA) (fun _ hb _=>hb) (Q:=P));have HYS:=hide (Blk.new wr 72 #[.int .i64 y.k, .string (str y.nm), .slice Ey y.ex.length ey, .slice By y.body.length by_, .slice Cy y.els.length cy]);have hys:=HYS.out.cell;have HS3:=hide (And.intro (hre.keep (.of_ext hEA) (fun _ hb _=>hb) (Q:=P)) (And.intro (hrb.keep (.of_ext hEA) (fun _ hb _=>hb) (Q:=P)) (hrl.keep (.of_ext hEA) (fun _ hb _=>hb) (Q:=P))));have HD:=hide (fun W h1 h2 h3=>sdep_any y.wt y (Nat.le_refl _) hw P W Ey By Cy y.ex.length ey y.body.length by_ y.els.length cy h1 h2 h3);have HVd:=hide (fun W h1 h2 h3=>svalid_any y.wt y (Nat.le_refl _) hw P W Ey By Cy y.ex.length ey y.body.length by_ y.els.length cy h1 h2 h3);clear hre hrb hrl hEA hw;generalize y.dep=dd at*;generalize y.ok=ok1 at*;by_cases hd:dd<=20
          ·have hdi: ¬(20:Int)<dd:=by omega
           cases ok1 with
           |true=>
            have HTk:=hide (HGk.out (by rw[HOk.out];simp[hd]));go_wp2_with (first|(go_at_call 69;refine(HD.out _ HS3.out.1 HS3.out.2.1 HS3.out.2.2).mono ?_;rintro e w4 ⟨rfl,hE⟩;have HC4:=hide (HC3.out.ex hE);have HR4:=hide (HR3.out.keep (.of_ext hE) (fun _ hb _=>hb) (Q:=P));have HYS2:=hide (HYS.out.ext hE);clear hys;have hys:=HYS2.out.cell;have HS4:=hide (And.intro (HS3.out.1.keep (.of_ext hE) (fun _ hb _=>hb) (Q:=P)) (And.intro (HS3.out.2.1.keep (.of_ext hE) (fun _ hb _=>hb) (Q:=P)) (HS3.out.2.2.keep (.of_ext hE) (fun _ hb _=>hb) (Q:=P))));clear hE HC3)|(go_at_call 70;refine(HVd.out _ HS4.out.1 HS4.out.2.1 HS4.out.2.2).mono ?_;rintro e w5 ⟨rfl,hE⟩;have HC5:=hide (HC4.out.ex hE);have HR5:=hide (HR4.out.keep (.of_ext hE) (fun _ hb _=>hb) (Q:=P));clear hE HC4));go_roundw
            case rel=>exact⟨k+1,by go_num,by omega,HTk,HC5,HR5⟩
            case measure=>simp[intOf];omega
           |false=>
            have HFN:=hide (HBk.out (by rw[HOk.out];simp));go_wp2_with (first|(go_at_call 69;refine(HD.out _ HS3.out.1 HS3.out.2.1 HS3.out.2.2).mono ?_;rintro e w4 ⟨rfl,hE⟩;have HC4:=hide (HC3.out.ex hE);have HR4:=hide (HR3.out.keep (.of_ext hE) (fun _ hb _=>hb) (Q:=P));have HYS2:=hide (HYS.out.ext hE);clear hys;have hys:=HYS2.out.cell;have HS4:=hide (And.intro (HS3.out.1.keep (.of_ext hE) (fun _ hb _=>hb) (Q:=P)) (And.intro (HS3.out.2.1.keep (.of_ext hE) (fun _ hb _=>hb) (Q:=P)) (HS3.out.2.2.keep (.of_ext hE) (fun _ hb _=>hb) (Q:=P))));clear hE HC3)|(go_at_call 70;refine(HVd.out _ HS4.out.1 HS4.out.2.1 HS4.out.2.2).mono ?_;rintro e w5 ⟨rfl,hE⟩;have HZ:=hide (HC4.out.ex hE).ext;clear hE HC4));go_ret;exact⟨by rw[HFN.out];rfl,HZ.out⟩
          ·have hdi:(20:Int)<dd:=by omega
           have HFN:=hide (HBk.out (by rw[HOk.out];simp[hd]));go_wp2_with (go_at_call 69;refine(HD.out _ HS3.out.1 HS3.out.2.1 HS3.out.2.2).mono ?_;rintro e w4 ⟨rfl,hE⟩;have HZ:=hide (HC3.out.ex hE).ext;clear hE HC3);go_ret;exact⟨by rw[HFN.out];rfl,HZ.out⟩
         ·have hkl': ¬(k:Int)<fb.length:=by omega
          have hkn:k=fb.length:=by omega
          have HT:=hide (HGOOD.out (by have:=HAk.out;rw[hkn,List.take_length]at this;rw[HT0.out];exact this));go_wp2_with fail;go_roundw
          case rel=>exact⟨j+1,by go_num,by omega,HT,HCq⟩
          case measure=>simp[intOf];omega
    ·have hlt': ¬(j:Int)<m:=by omega
     have hjn:j=m:=by omega
     have HQF:=hide (show p.fs.all okF=true by have:=HA.out;rwa [hjn,HNF.out,List.take_length]at this);have HRR:=hide (show R=(decide (n<=20)&&decide (m<=20)&&decide ((srcP p).length<=4000)) by rw[<-HR.out,okPg,HQ.out,HQF.out,<-HNV.out,<-HNF.out];simp);have hbc:=HCr.out.box.cell;clear hj hjn HA HR;by_cases h20:n<=20
     ·have h20i:(n:Int)<=20:=by omega
      by_cases hm20:m<=20
      ·have hm20i:(m:Int)<=20:=by omega
       have HSO:=hide (source_any p (fun f hf=>okF_body (List.all_eq_true.1 HQF.out f hf)) (fun v hv=>by have:=List.all_eq_true.1 HQ.out v hv;unfold okV at this;simp only[Bool.and_eq_true,decide_eq_true_eq]at this;omega) P _ A B n c m d HCr.out.rv HCr.out.rf ⟨(HTAB.out.fb (FB.of_ext HCr.out.ext (Nat.le_refl _))).1,Nat.lt_of_lt_of_le HTAB.out.2 HCr.out.ext.size⟩ (HSRC.out HQ.out HQF.out (by have:=HNV.out;omega) (by have:=HNF.out;omega)));generalize srcP p=S at*;have hsz:(str S).size=S.length:=str_size S;by_cases hs:S.length<=4000
       ·have hsi:(S.length:Int)<=4000:=by omega
        go_wp2_with (go_at_call 57;refine HSO.out.mono ?_;rintro e w9 ⟨rfl,hE⟩;have HZ:=hide (HCr.out.ex hE).ext;clear hE);go_ret;exact⟨by rw[HRR.out];simp[h20,hm20,hs,slot],HZ.out⟩
       ·have hsi: ¬(S.length:Int)<=4000:=by omega
        go_wp2_with (go_at_call 57;refine HSO.out.mono ?_;rintro e w9 ⟨rfl,hE⟩;have HZ:=hide (HCr.out.ex hE).ext;clear hE);go_ret;exact⟨by rw[HRR.out];simp[h20,hm20,hs,slot];(try omega),HZ.out⟩
      ·have hm20i: ¬(m:Int)<=20:=by omega
       have HZ:=hide HCr.out.ext;go_wp2_with fail;go_ret;exact⟨by rw[HRR.out];simp[h20,hm20,slot],HZ.out⟩
     ·have h20i: ¬(n:Int)<=20:=by omega
      have HZ:=hide HCr.out.ext;go_wp2_with fail;go_ret;exact⟨by rw[HRR.out];simp[h20,slot],HZ.out⟩
end Go.Proofs.YtddomeddabfinaaGreatDoor
namespace Go.Proofs.YtddomeddabfinaaGreatDoor
open Go.Proofs.Tryz
open Go.RowKit
theorem litF_text: ∀(f:Nat) (m:List UInt8) (t:List UInt8) (n:Nat),litF f m=some (t,n)->t.length+1<=n
 |0,m,t,n,h=>by cases h
 |f+1,[],t,n,h=>by cases h
 |f+1,c::r,t,n,h=>by
  simp only[litF]at h;split at h
  ·cases h;simp
  ·split at h
   ·cases h
   ·obtain⟨⟨t',n'⟩,h1,h2⟩:=Option.map_eq_some_iff.1 h
    cases h2;have:=litF_text f _ t' n' h1;show(_::t').length+1<=(elemL (c::r)).2+n';rw[List.length_cons];omega
theorem tokT_text {c:UInt8} {r:List UInt8} {k:Int} {t:List UInt8} {v:Int} {n:Nat} (h:tokT (c::r)= .ok ((k,t,v),n)):t.length<=n:=by
 simp only[tokT]at h;split at h
 ·unfold wordT at h;split at h
  ·cases h;rw[List.length_take];omega
  ·split at h
   ·cases h
   ·cases h;rw[List.length_take];omega
 ·split at h
  ·unfold numT at h;split at h
   ·cases h
   ·split at h
    ·cases h
    ·cases h;simp
  ·split at h
   ·unfold charT at h;split at h
    ·cases h
    ·cases h;simp
   ·split at h
    ·unfold textT at h;split at h
     ·cases h
     ·rename_i t' n' hl;split at h
      ·cases h
      ·cases h;have:=litF_text _ _ _ _ hl;omega
    ·unfold markT at h;split at h
     ·cases h;rw[List.length_take];omega
     ·split at h
      ·cases h;rw[List.length_take];omega
      ·cases h
theorem toksF_w: ∀(f:Nat) (m:List UInt8) (a:Nat) (ts:List Tok),toksF f m a= .ok ts->tokW ts<=3*m.length
 |0,m,a,ts,h=>by cases h;simp[tokW]
 |f+1,m,a,ts,h=>by
  simp only[toksF]at h;split at h
  ·cases h;simp[tokW]
  ·rename_i c r hd;split at h
   ·cases h
   ·rename_i k t v n ht;have hn:=tokT_len ht;have hx:=tokT_text ht;split at h
    ·cases h
    ·rename_i us hu
     cases h;have:=toksF_w f _ _ us hu;have hl:(c::r).length<=m.length:=by rw[<-hd,List.length_drop];omega
     rw[List.length_drop]at this;simp only[tokW,List.length_cons]at this hl hn⊢;omega
theorem toksF_length': ∀(f:Nat) (m:List UInt8) (a:Nat) (ts:List Tok),toksF f m a= .ok ts->ts.length<=m.length
 |0,m,a,ts,h=>by cases h;simp
 |f+1,m,a,ts,h=>by
  simp only[toksF]at h;split at h
  ·cases h;simp
  ·rename_i c r hd;split at h
   ·cases h
   ·rename_i k t v n ht;have hn:=tokT_len ht;split at h
    ·cases h
    ·rename_i us hu
     cases h;have:=toksF_length' f _ _ us hu;have hl:(c::r).length<=m.length:=by rw[<-hd,List.length_drop];omega
     rw[List.length_drop]at this;simp only[List.length_cons]at this hl hn⊢;omega
theorem toksR_w (l:List UInt8):(toksR l).1.length<=4000/\tokW (toksR l).1<=12000:=by
 unfold toksR;split
 ·simp[tokW]
 ·split
  ·rename_i h _ ts ht;have:=toksF_length' _ _ _ _ ht;have:=toksF_w _ _ _ _ ht;show ts.length<=4000/\tokW ts<=12000;omega
  ·simp[tokW]
def noPg:Pg:=⟨[],[]⟩
def parT (n:Nat) (ts:List Tok):Pg×Int×Int:=match pProg (4*ts.length+8) noPg ts with
 | .ok (p,_)=>if okPg p then(p,0,0)else(noPg,0,6)
 | .error (q,e)=>(noPg,atT n q,e)
def parL (s:List UInt8):Pg×Int×Int:=if(toksR s).2.2=0 then parT s.length (toksR s).1 else(noPg,(toksR s).2.1,(toksR s).2.2)
theorem okPg_len {p:Pg} (hw:pgW p<=6000000) (hv:p.vs.all okV=true) (hf:p.fs.all okF=true) (h1:p.vs.length<=20) (h2:p.fs.length<=20):(srcP p).length<=1000000000:=by
 have:=srcP_len hv hf h1 h2;have:=pgW_body p;omega
theorem pgW_v {p:Pg} {v:Vr} (h:v∈p.vs):v.nm.length<=pgW p:=by
 have:=le_sum (fun v:Vr=>v.nm.length+1) p.vs v h;unfold pgW;omega
theorem pgW_f {p:Pg} {f:Fc} (h:f∈p.fs):f.wt<=pgW p:=by
 have:=le_sum (fun f:Fc=>f.wt+1) p.fs f h;unfold pgW;omega
theorem pgW_n {f:Fc}:f.nm.length<=f.wt:=by unfold Fc.wt;omega
theorem pgW_p {f:Fc} {y:List UInt8} (h:y∈f.ps):y.length<=f.wt:=by
 have:=le_sum (fun s:List UInt8=>s.length+1) f.ps y h;unfold Fc.wt;omega
theorem pgW_s {f:Fc} {s:St} (h:s∈f.body):s.wt<=f.wt:=by
 have:=wtS_mem h;unfold Fc.wt;omega
theorem valid_w (p:Pg) (hw:pgW p<=6000000) (P:Nat->Prop) (w:World) (A B:Option Addr) (n c m d:Nat) (hV:RdV w P (.slice A n c) p.vs) (hF:RdF w P (.slice B m d) p.fs) (hT:TabW w w.heap.size):
  Calls prog 35 #[.agg #[.slice A n c, .slice B m d]] w fun e w'=>e= .returned (.bool (okPg p))/\Ext w w':=
 valid_any p (fun v hv=>by have:=pgW_v hv;omega) P w A B n c m d
  (fun f hf=>⟨by have:=pgW_f hf;have:=pgW_n (f:=f);omega,fun y hy=>by have:=pgW_f hf;have:=pgW_p hy;omega,fun s hs=>by have:=pgW_f hf;have:=pgW_s hs;omega⟩)
  (fun h1 h2 h3 h4=>okPg_len hw h1 h2 h3 h4) hV hF hT
end Go.Proofs.YtddomeddabfinaaGreatDoor
namespace Go.Proofs.YtddomeddabfinaaGreatDoor
open Go.Proofs.Tryz
section
variable (fn:List UInt8->Fc)
mutual
def sfE:Ex->Bool
 | .mk k op nm tx v a=>
  if k=1\/k=3 then true
  else if k=4\/k=6 then decide (1<=a.length)&&sfL a
  else if k=5 then(match bltn nm with
   |some (c,ls)=>decide (a.length=ls.length)&&(decide (c≠9)||a.all (fun y=>y.k !=2))&&sfA ls a
   |none=>decide ((fn nm).ps.length<=a.length)&&sfL a)
  else if k=7 then decide (2<=a.length)&&sfL a
  else false
def sfL:List Ex->Bool
 | []=>true
 |y::r=>sfE y&&sfL r
def sfA:List UInt8->List Ex->Bool
 | _,[]=>true
 |ls,y::r=>(ls.headD 0 !=105||sfE y)&&sfA ls.tail r
end
mutual
def sfS:St->Bool
 | .mk k nm ex b e=>(if k=5 then decide (1<=ex.length)else if k=3 then decide (2<=ex.length)else decide (1<=k/\k<=7))&&sfL fn ex&&(sfSs b&&sfSs e)
def sfSs:List St->Bool
 | []=>true
 |s::r=>sfS s&&sfSs r
end
end
theorem cr_then {α β:Type} {x:Except Er α} {k:α->Except Er β} {b:β} (h:CR.then x k= .ok b): ∃a,x= .ok a/\k a= .ok b:=by
 cases x with
 |error e=>cases h
 |ok a=>exact⟨a,rfl,h⟩
theorem sfL_all {fn:List UInt8->Fc}: ∀l,sfL fn l=l.all (sfE fn)
 | []=>rfl
 |x::r=>by simp[sfL,sfL_all r]
theorem sfSs_all {fn:List UInt8->Fc}: ∀l,sfSs fn l=l.all (sfS fn)
 | []=>rfl
 |x::r=>by simp[sfSs,sfSs_all r]
theorem bi_9: ∀x∈biT,x.2.1=9->x.2.2=[105,97,105]:=by decide
theorem bltn_9 {s:List UInt8} {c:Int} {ls:List UInt8} (h:bltn s=some (c,ls)) (h9:c=9):ls=[105,97,105]:=by
 unfold bltn at h;rw[Option.map_eq_some_iff]at h;obtain⟨x,hx,h⟩:=h;have:=bi_9 x (List.mem_of_find?_eq_some hx);rw[h]at this;exact this h9
theorem ckE_k2 {g:Gl} {lo:Ls} {x:Ex} (h:ckE g lo x= .ok ()):x.k≠2:=by
 obtain⟨k,op,nm,tx,v,a⟩:=x;intro e;simp only[Ex.k]at e;subst e;rw[ckE,if_neg (by decide),if_neg (by decide),if_pos rfl]at h
 cases h
theorem ck_read2 {g:Gl} {lo:Ls} {nm:List UInt8} {c:Int}: ∀a:List Ex,a.length=3->ckA g lo nm (some (c,[105,97,105])) 0 a= .ok ()-> ∀y∈a,y.k≠2
 | [x,y,z],_,h=>by
  rw[ckA]at h;obtain⟨_,h1,h⟩:=cr_then h;rw[ckA]at h;obtain⟨_,h2,h⟩:=cr_then h;rw[ckA]at h;obtain⟨_,h3,_⟩:=cr_then h;rw[if_pos (by rfl)]at h1 h3;rw[if_neg (by simp[intA])]at h2;have q2:y.k≠2:=by
   intro e;rw[if_pos (by simp[badA,letA,e])]at h2
   cases h2
  intro u hu;simp only[List.mem_cons,List.not_mem_nil,or_false]at hu;rcases hu with rfl|rfl|rfl
  ·exact ckE_k2 h1
  ·exact q2
  ·exact ckE_k2 h3
section
variable {g:Gl} {lo:Ls} {fn:List UInt8->Fc} (hfn: ∀s n,g.fn s=some n->(fn s).ps.length=n)
include hfn
mutual
theorem safe_E: ∀x:Ex,x.ok=true->ckE g lo x= .ok ()->sfE fn x=true
 | .mk k op nm tx v a,h,hc=>by
  rw[Ex.ok,Bool.and_eq_true]at h;rw[ckE]at hc;rw[sfE];by_cases h3:k=3
  ·rw[if_pos (.inr h3)]
  rw[if_neg h3]at hc;by_cases h1:k=1
  ·rw[if_pos (.inl h1)]
  rw[if_neg (by omega)];by_cases h4:k=4
  ·subst h4;rw[if_pos rfl]at hc;obtain⟨_,_,hc⟩:=cr_then hc;rw[if_pos (.inl rfl),Bool.and_eq_true];have hl:=h.1;rw[if_neg (by decide),if_neg (by decide),if_neg (by decide),if_pos rfl,Bool.and_eq_true]at hl;exact⟨decide_eq_true (by have:=eq_of_beq hl.2;omega),safe_L a h.2 hc⟩
  rw[if_neg h4]at hc;by_cases h2:k=2
  ·rw[if_pos h2]at hc;cases hc
  rw[if_neg h2]at hc;by_cases h5:k=5
  ·subst h5;rw[if_pos rfl]at hc;rw[if_neg (by decide),if_pos rfl];unfold arity at hc
   cases hb:bltn nm with
   |some b=>
    obtain⟨c,ls⟩:=b;rw[hb]at hc;simp only at hc⊢;split at hc
    ·rename_i hl;rw[Bool.and_eq_true,Bool.and_eq_true,Bool.or_eq_true];refine⟨⟨decide_eq_true hl.symm,?_⟩,?_⟩
     ·by_cases h9:c=9
      ·right;have hls:=bltn_9 hb h9;subst hls;exact List.all_eq_true.2 fun y hy=>by simpa using ck_read2 a (by simpa using hl.symm) hc y hy
      ·left;exact decide_eq_true h9
     ·have:=safe_A nm c ls a h.2 0 (by omega) hc;simpa using this
    ·cases hc
   |none=>
    rw[hb]at hc;simp only at hc⊢;split at hc
    ·cases hc
    ·rename_i n hn;split at hc
     ·rename_i hl;rw[Bool.and_eq_true];refine⟨decide_eq_true (by rw[hfn _ _ hn];omega),?_⟩;exact safe_N nm a h.2 0 hc
     ·cases hc
  rw[if_neg h5]at hc;by_cases h67:k=6\/k=7
  ·rw[if_pos h67]at hc;have hs:=safe_L a h.2 hc;have hl:=h.1;rw[if_neg h1,if_neg h2,if_neg h3,if_neg h4,if_neg h5]at hl;rcases h67 with rfl|rfl
   ·rw[if_pos rfl,Bool.and_eq_true]at hl;rw[if_pos (.inr rfl),Bool.and_eq_true];exact⟨decide_eq_true (by have:=eq_of_beq hl.2;omega),hs⟩
   ·rw[if_neg (by decide),if_pos rfl,Bool.and_eq_true]at hl;rw[if_neg (by decide),if_neg (by decide),if_pos rfl,Bool.and_eq_true];exact⟨decide_eq_true (by have:=eq_of_beq hl.2;omega),hs⟩
  ·have hl:=h.1;rw[if_neg h1,if_neg h2,if_neg h3,if_neg h4,if_neg h5,if_neg (by omega),if_neg (by omega)]at hl
   cases hl
theorem safe_L: ∀l:List Ex,okL l=true->ckL g lo l= .ok ()->sfL fn l=true
 | [],_,_=>rfl
 |x::r,h,hc=>by
  rw[okL,Bool.and_eq_true]at h;rw[ckL]at hc;obtain⟨_,h1,h2⟩:=cr_then hc;rw[sfL,Bool.and_eq_true];exact⟨safe_E x h.1 h1,safe_L r h.2 h2⟩
theorem safe_A (nm:List UInt8) (c:Int) (ls:List UInt8): ∀l:List Ex,okL l=true-> ∀i,i+l.length<=ls.length->ckA g lo nm (some (c,ls)) i l= .ok ()->sfA fn (ls.drop i) l=true
 | [],_,_,_,_=>by cases h:ls.drop _<;>rfl
 |x::r,h,i,hi,hc=>by
  rw[okL,Bool.and_eq_true]at h;rw[ckA]at hc;obtain⟨_,h1,h2⟩:=cr_then hc;simp only[List.length_cons]at hi;have h3:=safe_A nm c ls r h.2 (i+1) (by omega) h2;rw[sfA,Bool.and_eq_true,List.tail_drop];refine⟨?_,h3⟩;rw[List.drop_eq_getElem_cons (by omega),List.headD_cons];by_cases hh:ls[i]=105
  ·have:intA (some (c,ls)) i=true:=by
    simp only[intA];rw[Bool.or_eq_true];right;rw[List.getD_eq_getElem?_getD,List.getElem?_eq_getElem (by omega)];simp[hh]
   rw[if_pos this]at h1;rw[safe_E x h.1 h1,Bool.or_true]
  ·rw[Bool.or_eq_true];left;simp[hh]
theorem safe_N (nm:List UInt8): ∀l:List Ex,okL l=true-> ∀i,ckA g lo nm none i l= .ok ()->sfL fn l=true
 | [],_,_,_=>rfl
 |x::r,h,i,hc=>by
  rw[okL,Bool.and_eq_true]at h;rw[ckA]at hc;obtain⟨_,h1,h2⟩:=cr_then hc;rw[show intA none i=true from rfl,if_pos rfl]at h1;rw[sfL,Bool.and_eq_true];exact⟨safe_E x h.1 h1,safe_N nm r h.2 (i+1) h2⟩
end
omit hfn in
theorem ckSt_ex {g:Gl} {lo lo':Ls} {k:Int} {nm:List UInt8} {ex:List Ex} {b e:List St} (h:ckSt g lo (.mk k nm ex b e)= .ok lo'):ckL g lo ex= .ok ()/\ ∃l1 l2,ckSs g l1 b= .ok l2/\ckSs g l2 e= .ok lo':=by
 rw[ckSt]at h;obtain⟨_,_,h⟩:=cr_then h;obtain⟨_,h1,h⟩:=cr_then h;obtain⟨l1,_,h⟩:=cr_then h;obtain⟨l2,h2,h⟩:=cr_then h;exact⟨h1,l1,l2,h2,h⟩
mutual
theorem safe_S: ∀(x:St) (lo lo':Ls),x.ok=true->ckSt g lo x= .ok lo'->sfS fn x=true
 | .mk k nm ex b e,lo,lo',h,hc=>by
  obtain⟨h1,l1,l2,h2,h3⟩:=ckSt_ex hc;rw[St.ok,Bool.and_eq_true,Bool.and_eq_true,Bool.and_eq_true]at h;rw[sfS,Bool.and_eq_true,Bool.and_eq_true,Bool.and_eq_true];refine⟨⟨?_,safe_L hfn ex h.1.2 h1⟩,safe_Ss b _ _ h.2.1 h2,safe_Ss e _ _ h.2.2 h3⟩;have hk:=h.1.1;by_cases h5:k=5
  ·subst h5;rw[if_neg (by decide),if_neg (by decide),if_neg (by decide),if_neg (by decide),if_pos rfl,Bool.and_eq_true,Bool.and_eq_true]at hk;rw[if_pos rfl];exact decide_eq_true (by have:=eq_of_beq hk.1.2;omega)
  rw[if_neg h5];by_cases h3:k=3
  ·subst h3;rw[if_neg (by decide),if_neg (by decide),if_pos rfl,Bool.and_eq_true,Bool.and_eq_true,Bool.and_eq_true]at hk;rw[if_pos rfl];exact decide_eq_true (by have:=eq_of_beq hk.1.1.2;omega)
  rw[if_neg h3];refine decide_eq_true ?_;by_cases h1:k=1
  ·omega
  by_cases h2:k=2
  ·omega
  by_cases h4:k=4
  ·omega
  by_cases h6:k=6
  ·omega
  by_cases h7:k=7
  ·omega
  rw[if_neg h1,if_neg h2,if_neg h3,if_neg h4,if_neg h5,if_neg h6,if_neg h7]at hk
  cases hk
theorem safe_Ss: ∀(l:List St) (lo lo':Ls),okS l=true->ckSs g lo l= .ok lo'->sfSs fn l=true
 | [],_,_,_,_=>rfl
 |x::r,lo,lo',h,hc=>by
  rw[okS,Bool.and_eq_true]at h;rw[ckSs]at hc;obtain⟨l1,h1,h2⟩:=cr_then hc;rw[sfSs,Bool.and_eq_true];exact⟨safe_S x _ _ h.1 h1,safe_Ss r _ _ h.2 h2⟩
end
end
theorem topV_fn: ∀(vs:List Vr) (g g':Gl),topV g vs= .ok g'->g'.fn=g.fn
 | [],g,g',h=>by cases h;rfl
 |v::r,g,g',h=>by
  rw[topV]at h;split at h
  ·cases h
  ·rw[topV_fn r _ _ h];unfold Gl.addV;split<;>rfl
theorem topF_fn: ∀(fs:List Fc) (g g':Gl),topF g fs= .ok g'-> ∀s,g'.fn s=match fs.find? (fun f=>decide (s=f.nm))with|some f=>some f.ps.length|none=>g.fn s
 | [],g,g',h,s=>by cases h;rfl
 |f::r,g,g',h,s=>by
  rw[topF]at h;split at h
  ·cases h
  ·rename_i hk;rw[topF_fn r _ _ h s,List.find?_cons];by_cases hs:s=f.nm
   ·rw[decide_eq_true hs];simp only;have hn:r.find? (fun f=>decide (s=f.nm))=none:=by
     cases hr:r.find? (fun f=>decide (s=f.nm))with
     |none=>rfl
     |some f2=>exact absurd h (by
       have hm:=List.mem_of_find?_eq_some hr;have he:s=f2.nm:=by have:=List.find?_some hr;simpa using this
       exact topF_dup r (g.addF f) g' f2 hm (by simp[Gl.addF,<-he,hs]))
    rw[hn];simp[Gl.addF,hs]
   ·rw[decide_eq_false hs];simp only;split
    ·rfl
    ·simp[Gl.addF,hs]
where topF_dup: ∀(fs:List Fc) (g g':Gl) (f:Fc),f∈fs->(g.fn f.nm).isSome=true->topF g fs≠ .ok g'
 |f2::r,g,g',f,hm,hs,h=>by
  rw[topF]at h;split at h
  ·cases h
  ·rename_i hk;rcases List.mem_cons.1 hm with rfl|hm
   ·apply hk;unfold Gl.known;rw[hs];simp
   ·exact topF_dup r _ g' f hm (by unfold Gl.addF;simp only;split;rfl;exact hs) h
theorem fn0_find: ∀(fs:List Fc) (s:List UInt8),fn0 fs s=((fs.find? (fun f=>decide (s=f.nm))).getD ⟨[],[],[]⟩)
 | [],s=>rfl
 |f::r,s=>by
  rw[fn0,List.find?_cons];split
  ·rename_i h;rw[decide_eq_true h];rfl
  ·rename_i h;rw[decide_eq_false h];exact fn0_find r s
theorem tops_fn {p:Pg} {g:Gl} (h:tops p= .ok g): ∀s,g.fn s=(p.fs.find? (fun f=>decide (s=f.nm))).map (·.ps.length):=by
 unfold tops at h;obtain⟨g1,h1,h⟩:=cr_then h;obtain⟨g2,h2,h⟩:=cr_then h;have:g2=g:=by
  split at h
  ·cases h
  ·split at h
   ·cases h
   ·cases h;rfl
 subst this;intro s;rw[topF_fn _ _ _ h2 s,topV_fn _ _ _ h1]
 cases p.fs.find? _<;>rfl
theorem tops_main {p:Pg} {g:Gl} (h:tops p= .ok g):(fn0 p.fs tyMain).ps=[]/\ ∃f∈p.fs,fn0 p.fs tyMain=f:=by
 have hf:=tops_fn h tyMain;unfold tops at h;obtain⟨g1,h1,h⟩:=cr_then h;obtain⟨g2,h2,h⟩:=cr_then h;have:g2=g/\g2.fn tyMain=some 0:=by
  split at h
  ·cases h
  ·rename_i n hn;split at h
   ·cases h
   ·cases h;exact⟨rfl,by rw[hn,show n=0 by omega]⟩
 obtain⟨rfl,h0⟩:=this;rw[h0]at hf
 cases hx:p.fs.find? (fun f=>decide (tyMain=f.nm))with
 |none=>rw[hx]at hf;cases hf
 |some f=>
  rw[hx]at hf;have hl:f.ps.length=0:=by simpa using hf.symm
  refine⟨?_,f,List.mem_of_find?_eq_some hx,?_⟩
  ·rw[fn0_find,hx];exact List.eq_nil_of_length_eq_zero hl
  ·rw[fn0_find,hx];rfl
theorem ckFs_mem {g:Gl}: ∀(fs:List Fc) (f:Fc),f∈fs->ckFs g fs= .ok ()-> ∃lo lo',ckSs g lo f.body= .ok lo'
 |f2::r,f,hm,h=>by
  rw[ckFs]at h;obtain⟨lo,_,h⟩:=cr_then h;obtain⟨lo',h1,h⟩:=cr_then h;rcases List.mem_cons.1 hm with rfl|hm
  ·exact⟨lo,lo',h1⟩
  ·exact ckFs_mem r f hm h
theorem run_safe {p:Pg} (hv:okPg p=true) (h:ckAll p= .ok ()):(fn0 p.fs tyMain).ps=[]/\ ∀s,sfSs (fn0 p.fs) (fn0 p.fs s).body=true:=by
 unfold ckAll at h;obtain⟨g,h1,h⟩:=cr_then h;obtain⟨_,h2,h⟩:=cr_then h;refine⟨(tops_main h1).1,fun s=> ?_⟩;rw[fn0_find p.fs s]
 cases hx:p.fs.find? (fun f=>decide (s=f.nm))with
 |none=>rfl
 |some f=>
  have hm:=List.mem_of_find?_eq_some hx;obtain⟨lo,lo',h3⟩:=ckFs_mem _ _ hm h2;unfold okPg at hv;simp only[Bool.and_eq_true]at hv;refine safe_Ss (fun s n hn=> ?_) f.body lo lo' (okF_body (List.all_eq_true.1 hv.1.1.1.2 f hm)) h3;rw[tops_fn h1]at hn;rw[fn0_find]
  cases hy:p.fs.find? (fun f=>decide (s=f.nm))with
  |none=>rw[hy]at hn;cases hn
  |some f3=>rw[hy]at hn;simpa using hn
end Go.Proofs.YtddomeddabfinaaGreatDoor
namespace Go.Proofs.YtddomeddabfinaaGreatDoor
open Go.Proofs.Tryz
structure ClosedR (R:Rs) (Q:Ms->Prop):Prop where
 step: ∀s,Q s->Q s.step
 used: ∀s,Q s->s.used<R.length->Q {s with used:=s.used+1}
 setI: ∀s nm v,Q s->Q (s.setI nm v)
 setA: ∀s nm v,Q s->Q (s.setA nm v)
 stk: ∀s k,Q s->Q {s with stk:=k}
def Okr (Q:Ms->Prop) {α:Type} (r:ER α):Prop:=match r with
 | .ok (_,s)=>Q s
 | .error o=> ∃s,Q s/\o.used=s.used
theorem Okr.then {Q:Ms->Prop} {α β:Type} {r:ER α} {k:α->Ms->ER β} (h:Okr Q r) (hk: ∀a s,Q s->Okr Q (k a s)):Okr Q (r.then k):=by
 cases r with
 |error o=>exact h
 |ok p=>exact hk _ _ h
theorem Okr.err {Q:Ms->Prop} {α:Type} {s:Ms} {o:Oc} (h:Q s) (hu:o.used=s.used):Okr Q (.error o:ER α):=⟨s,h,hu⟩
section
variable {R:Rs} {Q:Ms->Prop} (hQ:ClosedR R Q)
include hQ
theorem sys_ok {s:Ms} {c a b d:Int} {l:List UInt8} (h:Q s):Okr Q (sysL R s c a b d l):=by
 unfold sysL;split
 ·exact .err h rfl
 ·rename_i r hr;exact hQ.used s h (List.getElem?_eq_some_iff.1 hr).1
omit hQ in
theorem args_ok {E:Ms->Ex->ER Int} (hE: ∀s x,Q s->Okr Q (E s x)): ∀(ls:List UInt8) (ys:List Ex) (vs:List Int) (la:Int) (d:Dt) (s:Ms),Q s->Okr Q (bArgs E ls ys vs la d s)
 |c::ls,y::ys,vs,la,d,s,h=>by
  rw[bArgs];split
  ·exact(hE s y h).then fun v s h=>args_ok hE ls ys _ _ _ s h
  ·split
   ·exact args_ok hE ls ys _ _ _ s h
   ·exact args_ok hE ls ys _ _ _ s h
 | [],_,vs,la,d,s,h=>h
 | _::_,[],vs,la,d,s,h=>h
theorem put_ok {s:Ms} {n:Nat} {r:List UInt8} (h:Q s): ∀d:Dt,Q (d.put s n r)
 | .no=>h
 | .txt _=>h
 | .arr _=>hQ.setA _ _ _ h
theorem blt_ok {E:Ms->Ex->ER Int} (hE: ∀s x,Q s->Okr Q (E s x)) (c:Int) (ls:List UInt8) (a:List Ex) (s:Ms) (h:Q s):Okr Q (bltC R E s c ls a):=by
 unfold bltC bltE;refine(args_ok hE ls a [] 0 .no s h).then fun p s h=> ?_;split
 ·exact(sys_ok hQ h).then fun r s h=>h
 ·split
  ·exact .err h rfl
  ·split
   ·exact(sys_ok hQ h).then fun r s h=>h
   ·exact(sys_ok hQ h).then fun r s h=>put_ok hQ h _
omit hQ in
theorem evs_ok {E:Ms->Ex->ER Int} (hE: ∀s x,Q s->Okr Q (E s x)): ∀(ys:List Ex) (vs:List Int) (s:Ms),Q s->Okr Q (evs E vs s ys)
 | [],vs,s,h=>h
 |y::r,vs,s,h=>(hE s y h).then fun v s h=>evs_ok hE r _ s h
omit hQ in
theorem ssL_ok {S:Ms->Lo->St->SRes} (hS: ∀s l x,Q s->Okr Q (S s l x)): ∀(ys:List St) (l:Lo) (s:Ms),Q s->Okr Q (ssL S s l ys)
 | [],l,s,h=>h
 |y::r,l,s,h=>by
  rw[ssL];refine(hS s l y h).then fun p s h=> ?_;split
  ·exact h
  ·exact ssL_ok hS r _ s h
theorem cal_ok {S:Ms->Lo->St->SRes} (hS: ∀s l x,Q s->Okr Q (S s l x)) (f:Fc) (vs:List Int) (s:Ms) (h:Q s):Okr Q (callF S f vs s):=by
 unfold callF;split
 ·exact .err h rfl
 ·exact(ssL_ok hS f.body _ _ (hQ.stk _ _ h)).then fun p s h=>hQ.stk _ _ h
omit hQ in
theorem bin_ok (op:List UInt8) (a b:Int) (s:Ms) (h:Q s):Okr Q (binL op a b s):=by
 unfold binL;repeat' split
 all_goals first|exact h|exact .err h rfl
theorem ev_ok {C:Cx} (hR:C.R=R): ∀n,(∀s l x,Q s->Okr Q (ev C n s l x))/\(∀s l x,Q s->Okr Q (st C n s l x))/\(∀s l c b,Q s->Okr Q (wh C n s l c b))
 |0=>⟨fun s l x h=> .err h rfl,fun s l x h=> .err h rfl,fun s l c b h=> .err h rfl⟩
 |n+1=>by
  obtain⟨h1,h2,h3⟩:=ev_ok hR n;refine⟨fun s l x h=> ?_,fun s l x h=> ?_,fun s l c b h=> ?_⟩
  ·have h':=hQ.step s h;rw[ev];split
   ·exact .err h rfl
   split
   ·exact h'
   split
   ·exact h'
   split
   ·refine(h1 _ l _ h').then fun i s h=> ?_;split
    ·exact h
    ·exact .err h rfl
   split
   ·split
    ·rw[hR];exact blt_ok hQ (fun s x h=>h1 s l x h) _ _ _ _ h'
    ·exact(evs_ok (fun s x h=>h1 s l x h) _ _ _ h').then fun vs s h=>cal_ok hQ (fun s l x h=>h2 s l x h) _ _ _ h
   split
   ·refine(h1 _ l _ h').then fun i s h=> ?_;split<;>exact h
   ·refine(h1 _ l _ h').then fun i s h=> ?_;split
    ·exact h
    split
    ·exact h
    refine(h1 _ l _ h).then fun j s h=> ?_;split
    ·exact h
    ·exact bin_ok _ _ _ _ h
  ·have h':=hQ.step s h;rw[st];split
   ·exact .err h rfl
   split
   ·exact h3 _ _ _ _ h'
   refine Okr.then (by split;exact h';exact h1 _ _ _ h') fun v s h=> ?_;split
   ·exact h
   split
   ·split
    ·exact h
    ·exact hQ.setI _ _ _ h
   split
   ·refine(h1 _ l _ h).then fun u s h=> ?_;split
    ·exact hQ.setA _ _ _ h
    ·exact .err h rfl
   split
   ·exact ssL_ok (fun s l x h=>h2 s l x h) _ _ _ h
   split<;>exact h
  ·rw[wh];refine(h1 _ l _ h).then fun v s h=> ?_;split
   ·exact h
   refine(ssL_ok (fun s l x h=>h2 s l x h) _ _ _ h).then fun p s h=> ?_;split
   ·exact h
   ·exact h3 _ _ _ _ h
end
theorem closed_left (R:Rs) (m:Nat):ClosedR R (fun s=>s.left<=m):=⟨fun s h=>by show s.left-1<=m;omega,fun s h _=>h,fun s _ _ h=>h,fun s _ _ h=>h,fun s _ h=>h⟩
theorem ev_left {C:Cx} {n:Nat} {s s':Ms} {l:Lo} {x:Ex} {v:Int} (h:ev C n s l x= .ok (v,s')):s'.left<=s.left:=by
 have:=(ev_ok (closed_left C.R s.left) rfl n).1 s l x (Nat.le_refl _);rw[h]at this;exact this
theorem st_left {C:Cx} {n:Nat} {s s':Ms} {l:Lo} {x:St} {v:Option Int×Lo} (h:st C n s l x= .ok (v,s')):s'.left<=s.left:=by
 have:=(ev_ok (closed_left C.R s.left) rfl n).2.1 s l x (Nat.le_refl _);rw[h]at this;exact this
end Go.Proofs.YtddomeddabfinaaGreatDoor
