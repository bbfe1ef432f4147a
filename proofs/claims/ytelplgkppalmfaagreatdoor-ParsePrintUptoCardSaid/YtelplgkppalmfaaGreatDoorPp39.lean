/-
  Parts of the proof: RtF RtG RtH.
-/
import Derived.Test.YtelplgkppalmfaaGreatDoorPp38
set_option maxRecDepth 100000
set_option maxHeartbeats 8000000
set_option linter.unusedVariables false
set_option linter.unusedSimpArgs false
namespace Go.Proofs.YtelplgkppalmfaaGreatDoor
open Go.Proofs.Tryz
theorem prim_exp {t:List K3} {x:Ex} (h:RdP t x) {n p:Int} {l:List Tok} {ks:List K3} {F:Nat} (hi:Is l (t++ks)) (hs:Stop p ks) (hF:4*t.length+5<=F): ∃r,Is r ks/\pExpr F n l=pLoop (F-1) n x r:=by
 obtain⟨F,rfl⟩: ∃G,F=G+1:=⟨F-1,by omega⟩
 obtain⟨r,h1,h2⟩:=h l ks F p hi hs (by omega);exact⟨r,h1,by rw[pExpr,h2];rfl⟩
theorem want_is {l:List Tok} {c:UInt8} {ks:List K3} (h:Is l (kM c::ks)):wantL [c] l= .ok ((),l.tail)/\Is l.tail ks:=by
 have e:isL [c] l=true:=by rw[is_isL h];simp
 exact⟨by unfold wantL;rw[e,if_pos rfl],(is_cons h).2.2.2⟩
theorem no_hd {k:Int} {t u v:List UInt8} (h:((k==5||k==2)&&(t==u||t==v))=false):((k==5||k==2)&&t==u)=false/\((k==5||k==2)&&t==v)=false:=by
 revert h
 cases (k==5||k==2)<;>cases (t==u)<;>cases (t==v)<;>simp
structure Rd (x:Ex):Prop where
 rx:RdX x
 rp:x.k≠7->RdP (tkE x) x
 rh: ∃c r,tkE x=c::r/\((c.1==5||c.1==2)&&(c.2.1==[41]||c.2.1==[59]))=false
 rq:1<=x.prec
theorem args_back: ∀(a:List Ex),a≠ []->(∀x,x∈a->Rd x)-> ∀acc l ks F,Is l (joinK (tkEs a)++kM 41::ks)->4*(joinK (tkEs a)).length+12<=F-> ∃r,Is r ks/\pArgs1 F acc l= .ok (acc++a,r)
 | [],h,_,_,_,_,_,_,_=>absurd rfl h
 | [x],_,hx,acc,l,ks,F,hi,hF=>by
  obtain⟨F,rfl⟩: ∃G,F=G+1:=⟨F-1,by omega⟩
  have hi:Is l (tkE x++kM 41::ks):=by simpa[tkEs,joinK]using hi
  have hF:4*(tkE x).length+12<=F+1:=by simpa[tkEs,joinK]using hF
  obtain⟨r,h1,h2⟩:=rdx_ok (hx x (by simp)).rx (n:=1) (q:=0) (F:=F) hi (hx x (by simp)).rq (stop_kM (by simp) (Int.le_refl _)) (by omega) (by omega);obtain⟨h3,h4⟩:=want_is h1;have e:isL sRp r=true:=by rw[is_isL h1];rfl
  refine⟨r.tail,h4,?_⟩;rw[pArgs1,h2];show(if isL sRp r then _ else _)=_;rw[e,if_pos rfl]
 |x::y::r,_,hx,acc,l,ks,F,hi,hF=>by
  obtain⟨F,rfl⟩: ∃G,F=G+1:=⟨F-1,by omega⟩
  have ej:joinK (tkEs (x::y::r))=tkE x++kM 44::joinK (tkEs (y::r)):=by simp[tkEs,joinK]
  rw[ej]at hi hF;rw[List.append_assoc,List.cons_append]at hi;simp only[List.length_append,List.length_cons]at hF;obtain⟨q,h1,h2⟩:=rdx_ok (hx x (by simp)).rx (n:=1) (q:=0) (F:=F) hi (hx x (by simp)).rq (stop_kM (by simp) (Int.le_refl _)) (by omega) (by omega);obtain⟨h3,h4⟩:=want_is h1;have e:isL sRp q=false:=by rw[is_isL h1];rfl
  obtain⟨r2,g1,g2⟩:=args_back (y::r) (by simp) (fun z hz=>hx z (List.mem_cons_of_mem _ hz)) (acc++[x]) q.tail ks F h4 (by omega);refine⟨r2,g1,?_⟩;rw[pArgs1,h2];show(if isL sRp q then _ else(wantL sCm q).then _)=_;rw[e,if_neg (by simp),show wantL sCm q= .ok ((),q.tail)from h3];show pArgs1 F (acc++[x]) q.tail=_;rw[g2,List.append_assoc];rfl
theorem rd_all: ∀(m:Nat) (x:Ex),x.wt<=m->x.ok=true->Rd x
 |0,x,hm,_=>absurd hm (by have:=x.wt_eq;omega)
 |m+1, .mk k op nm tx v a,hm,h=>by
  have hw:=(Ex.mk k op nm tx v a).wt_eq;simp only[Ex.op,Ex.nm,Ex.tx,Ex.args]at hw;rw[Ex.ok,Bool.and_eq_true]at h;obtain⟨h1,h2⟩:=h;rw[okL_all]at h2;have ih: ∀y,y∈a->Rd y:=fun y hy=>rd_all m y (by have:=wtL_mem hy;omega) (List.all_eq_true.1 h2 y hy);have mkp: ∀(x:Ex),RdP (tkE x) x->(∃c r,tkE x=c::r/\((c.1==5||c.1==2)&&(c.2.1==[41]||c.2.1==[59]))=false)->1<=x.prec->Rd x:=fun x h1 h2 h3=>⟨rdx_prim h1 (by obtain⟨c,r,e,_⟩:=h2;rw[e];simp),fun _=>h1,h2,h3⟩
  by_cases k1:k=1
  ·subst k1;rw[if_pos rfl]at h1;simp only[Bool.and_eq_true,beq_iff_eq]at h1;obtain⟨⟨_,⟨rfl,rfl⟩,rfl⟩,ha⟩:=h1;obtain rfl:=List.eq_nil_of_length_eq_zero ha;refine mkp _ (fun l ks F p hi hs hF=> ?_) ⟨_,_,rfl,rfl⟩ (by simp[Ex.prec,Ex.k]);obtain⟨F,rfl⟩: ∃G,F=G+1:=⟨F-1,by omega⟩
   obtain⟨q1,q2,q3,q4⟩:=is_cons (show Is l ((3,[],v)::ks)from hi);exact⟨l.tail,q4,by rw[pPrim,if_pos q1,q3]⟩
  rw[if_neg k1]at h1;by_cases k2:k=2
  ·subst k2;rw[if_pos rfl]at h1;simp only[Bool.and_eq_true,beq_iff_eq]at h1;obtain⟨⟨_,⟨rfl,rfl⟩,rfl⟩,ha⟩:=h1;obtain rfl:=List.eq_nil_of_length_eq_zero ha;refine mkp _ (fun l ks F p hi hs hF=> ?_) ⟨_,_,rfl,rfl⟩ (by simp[Ex.prec,Ex.k]);obtain⟨F,rfl⟩: ∃G,F=G+1:=⟨F-1,by omega⟩
   obtain⟨q1,q2,q3,q4⟩:=is_cons (show Is l ((4,tx,0)::ks)from hi);exact⟨l.tail,q4,by rw[pPrim,if_neg (by rw[q1];decide),if_pos q1,q2]⟩
  rw[if_neg k2]at h1;by_cases k3:k=3
  ·subst k3;rw[if_pos rfl]at h1;simp only[Bool.and_eq_true,beq_iff_eq]at h1;obtain⟨⟨_,⟨rfl,rfl⟩,rfl⟩,ha⟩:=h1;obtain rfl:=List.eq_nil_of_length_eq_zero ha;refine mkp _ (fun l ks F p hi hs hF=> ?_) ⟨_,_,rfl,rfl⟩ (by simp[Ex.prec,Ex.k]);have hi:Is l ((1,nm,0)::ks):=hi;have hF:8<=F:=by simpa[tkE,tkShape]using hF
   obtain⟨F,rfl⟩: ∃G,F=G+1+1:=⟨F-2,by omega⟩
   obtain⟨q1,q2,q3,q4⟩:=is_cons hi;obtain⟨t,w,r,rfl,s1,s2,_⟩:=hs;have e1:isL sLs l.tail=false:=by rw[is_isL q4];exact beq_eq_false_iff_ne.2 s1
   have e2:isL sLp l.tail=false:=by rw[is_isL q4];exact beq_eq_false_iff_ne.2 s2
   exact⟨l.tail,q4,by rw[pPrim,if_neg (by rw[q1];decide),if_neg (by rw[q1];decide),if_pos q1,q2,pNamed,e1,e2,if_neg (by simp),if_neg (by simp)]⟩
  rw[if_neg k3]at h1;by_cases k4:k=4
  ·subst k4;rw[if_pos rfl]at h1;simp only[Bool.and_eq_true,beq_iff_eq]at h1;obtain⟨⟨_,⟨rfl,rfl⟩,rfl⟩,ha⟩:=h1;obtain⟨z,rfl⟩:=List.length_eq_one_iff.1 ha;have hz:=ih z (by simp);have et:tkE (.mk 4 [] nm [] 0 [z])=(1,nm,0)::kM 91::(tkE z++[kM 93]):=rfl;refine mkp _ (fun l ks F p hi hs hF=> ?_) ⟨_,_,et,rfl⟩ (by simp[Ex.prec,Ex.k]);rw[et]at hi hF;simp only[List.cons_append,List.append_assoc,List.nil_append,List.length_cons,List.length_append,List.length_nil]at hi hF;obtain⟨F,rfl⟩: ∃G,F=G+1+1:=⟨F-2,by omega⟩
   obtain⟨q1,q2,q3,q4⟩:=is_cons hi;have e1:isL sLs l.tail=true:=by rw[is_isL q4];rfl
   obtain⟨_,_,_,q5⟩:=is_cons q4;obtain⟨r,g1,g2⟩:=rdx_ok hz.rx (n:=1) (q:=0) (F:=F) q5 hz.rq (stop_kM (by simp) (Int.le_refl _)) (by omega) (by omega);obtain⟨g3,g4⟩:=want_is g1;refine⟨r.tail,g4,?_⟩;rw[pPrim,if_neg (by rw[q1];decide),if_neg (by rw[q1];decide),if_pos q1,q2,pNamed,e1,if_pos rfl,g2];show(wantL sRs r).then _=_;rw[show wantL sRs r= .ok ((),r.tail)from g3];rfl
  rw[if_neg k4]at h1;by_cases k5:k=5
  ·subst k5;rw[if_pos rfl]at h1;simp only[Bool.and_eq_true,beq_iff_eq]at h1;obtain⟨_,⟨rfl,rfl⟩,rfl⟩:=h1;have et:tkE (.mk 5 [] nm [] 0 a)=(1,nm,0)::kM 40::(joinK (tkEs a)++[kM 41]):=rfl;refine mkp _ (fun l ks F p hi hs hF=> ?_) ⟨_,_,et,rfl⟩ (by simp[Ex.prec,Ex.k]);rw[et]at hi hF;simp only[List.cons_append,List.append_assoc,List.nil_append,List.length_cons,List.length_append,List.length_nil]at hi hF;obtain⟨F,rfl⟩: ∃G,F=G+1+1+1:=⟨F-3,by omega⟩
   obtain⟨q1,q2,q3,q4⟩:=is_cons hi;have e1:isL sLs l.tail=false:=by rw[is_isL q4];rfl
   have e2:isL sLp l.tail=true:=by rw[is_isL q4];rfl
   obtain⟨_,_,_,q5⟩:=is_cons q4;have fin: ∃r,Is r ks/\pArgs (F+1) l.tail.tail= .ok (a,r):=by
    cases a with
    |nil=>
     have q6:Is l.tail.tail (kM 41::ks):=q5;have e3:isL sRp l.tail.tail=true:=by rw[is_isL q6];rfl
     exact⟨_,(is_cons q6).2.2.2,by rw[pArgs,e3,if_pos rfl]⟩
    |cons x r=>
     have e3:isL sRp l.tail.tail=false:=by
      obtain⟨c,q,ec,hc⟩:=(ih x (by simp)).rh;have q6:Is l.tail.tail (c::(q++(r.flatMap fun y=>kM 44::tkE y)++kM 41::ks)):=by
       have:joinK (tkEs (x::r))++kM 41::ks=c::(q++(r.flatMap fun y=>kM 44::tkE y)++kM 41::ks):=by
        simp only[tkEs,joinK,ec,tkEs_map,List.flatMap_map,List.cons_append,List.append_assoc]
       rw[<-this];exact q5
      obtain⟨ck,ct,cv⟩:=c;obtain⟨d1,d2,_,_⟩:=is_cons q6;unfold isL;rw[d1,d2];exact(no_hd hc).1
     obtain⟨r2,g1,g2⟩:=args_back (x::r) (by simp) ih [] _ ks F q5 (by omega);exact⟨r2,g1,by rw[pArgs,e3,if_neg (by simp),g2];rfl⟩
   obtain⟨r,g1,g2⟩:=fin;refine⟨r,g1,?_⟩;rw[pPrim,if_neg (by rw[q1];decide),if_neg (by rw[q1];decide),if_pos q1,q2,pNamed,e1,if_neg (by simp),e2,if_pos rfl,g2];rfl
  rw[if_neg k5]at h1
  -- what stands in parentheses where its level is too low
  have inner: ∀(z:Ex) (b:Bool),Rd z->(b=false->z.k≠7)->RdP (tkPar b (tkE z)) z:=fun z b hz hb=>by
   cases b with
   |true=>exact rdp_paren hz.rx hz.rq
   |false=>exact hz.rp (hb rfl)
  by_cases k6:k=6
  ·subst k6;rw[if_pos rfl]at h1;simp only[Bool.and_eq_true,Bool.or_eq_true,beq_iff_eq]at h1;obtain⟨⟨ho,⟨rfl,rfl⟩,rfl⟩,ha⟩:=h1;obtain⟨z,rfl⟩:=List.length_eq_one_iff.1 ha;have hz:=ih z (by simp)
   have hin:=inner z (decide (z.prec<7)) hz (fun hb h7=>by
    have: ¬z.prec<7:=of_decide_eq_false hb;have hl:=lev_le z.op;unfold Ex.prec at this;rw[if_pos h7]at this
    omega)
   have et:tkE (.mk 6 op [] [] 0 [z])=(5,op,0)::tkPar (decide (z.prec<7)) (tkE z):=rfl;generalize decide (z.prec<7)=b at*;refine mkp _ (fun l ks F p hi hs hF=> ?_) ⟨_,_,et,by rcases ho with rfl|rfl<;>rfl⟩ (by simp[Ex.prec,Ex.k]);rw[et]at hi hF;simp only[List.cons_append,List.length_cons]at hi hF;obtain⟨F,rfl⟩: ∃G,F=G+1:=⟨F-1,by omega⟩
   obtain⟨q1,q2,q3,q4⟩:=is_cons hi;obtain⟨r,g1,g2⟩:=hin l.tail ks F p q4 hs (by omega);have e1:(isL sMi l||isL sNo l)=true:=by rw[is_isL hi,is_isL hi];rcases ho with rfl|rfl<;>rfl
   refine⟨r,g1,?_⟩;rw[pPrim,if_neg (by rw[q1];decide),if_neg (by rw[q1];decide),if_neg (by rw[q1];decide),e1,if_pos rfl,g2,q2];rfl
  rw[if_neg k6]at h1;by_cases k7:k=7
  ·subst k7;rw[if_pos rfl]at h1;simp only[Bool.and_eq_true,beq_iff_eq,decide_eq_true_eq]at h1;obtain⟨⟨ho,⟨rfl,rfl⟩,rfl⟩,ha⟩:=h1;obtain⟨z,u,rfl⟩: ∃y z,a=[y,z]:=by
    match a,ha with
    | [y,z],_=>exact⟨y,z,rfl⟩
   have hz:=ih z (by simp);have hu:=ih u (by simp);have et:tkE (.mk 7 op [] [] 0 [z,u])=tkPar (decide (z.prec<lev op)) (tkE z)++(5,op,0)::tkPar (decide (u.prec<=lev op)) (tkE u):=rfl;have ep:(Ex.mk 7 op [] [] 0 [z,u]).prec=lev op:=rfl;have hop:op≠ [91]/\op≠ [40]:=⟨fun e=>by subst e;exact absurd ho (by decide),fun e=>by subst e;exact absurd ho (by decide)⟩
   refine⟨fun n l ks F hi hn hs hF=> ?_,fun h=>absurd rfl h,?_,by rw[ep];omega⟩
   ·rw[ep]at hn hs;rw[et]at hi hF⊢;simp only[List.append_assoc,List.cons_append,List.length_append,List.length_cons]at hi hF⊢;have s1: ∃r c,Is r ((5,op,0)::(tkPar (decide (u.prec<=lev op)) (tkE u)++ks))/\1<=c/\c<=(tkPar (decide (z.prec<lev op)) (tkE z)).length/\pExpr F n l=pLoop (F-c) n z r:=by
     by_cases hw:z.prec<lev op
     ·rw[decide_eq_true hw]at hi hF⊢;obtain⟨r,g1,g2⟩:=prim_exp (n:=n) (F:=F) (rdp_paren hz.rx hz.rq) hi (p:=lev op) ⟨op,0,_,rfl,hop.1,hop.2,Int.le_refl _⟩ (by omega);exact⟨r,1,g1,Nat.le_refl _,by simp[tkPar],g2⟩
     ·rw[decide_eq_false hw]at hi hF⊢;exact hz.rx n l _ F hi (by omega) ⟨op,0,_,rfl,hop.1,hop.2,by omega⟩ (by have e:(tkPar false (tkE z)).length=(tkE z).length:=rfl;omega)
    obtain⟨r,c,g1,g2,g3,g4⟩:=s1;obtain⟨G,hG⟩: ∃G,F-c=G+1:=⟨F-c-1,by omega⟩
    obtain⟨q1,q2,_,q4⟩:=is_cons g1;have s2: ∃r2,Is r2 ks/\pExpr G (lev op+1) r.tail= .ok (u,r2):=by
     by_cases hw:u.prec<=lev op
     ·rw[decide_eq_true hw]at q4 hF;obtain⟨r2,m1,m2⟩:=prim_exp (n:=lev op+1) (F:=G) (rdp_paren hu.rx hu.rq) q4 hs (by omega);exact⟨r2,m1,by rw[m2];exact loop_stop m1 hs (by omega) (by omega)⟩
     ·rw[decide_eq_false hw]at q4 hF;exact rdx_ok hu.rx q4 (by omega) hs (by omega) (by have e:(tkPar false (tkE u)).length=(tkE u).length:=rfl;omega)
    obtain⟨r2,m1,m2⟩:=s2;refine⟨r2,c+1,m1,by omega,by omega,?_⟩;rw[g4,hG,pLoop,if_pos ⟨q1,by rw[q2];exact hn⟩,q2,m2,show F-(c+1)=G from by omega];rfl
   ·rw[et];by_cases hw:z.prec<lev op
    ·rw[decide_eq_true hw];exact⟨_,_,rfl,rfl⟩
    ·rw[decide_eq_false hw];obtain⟨c,q,ec,hc⟩:=hz.rh;exact⟨c,q++(5,op,0)::tkPar (decide (u.prec<=lev op)) (tkE u),by rw[show tkPar false (tkE z)=tkE z from rfl,ec];rfl,hc⟩
  ·rw[if_neg k7]at h1
   cases h1
theorem rd_any {x:Ex} (h:x.ok=true):Rd x:=rd_all _ x (Nat.le_refl _) h
end Go.Proofs.YtelplgkppalmfaaGreatDoor
namespace Go.Proofs.YtelplgkppalmfaaGreatDoor
open Go.Proofs.Tryz
theorem is_isK {l:List Tok} {v:Int} {t:List UInt8} {ks:List K3} (h:Is l ((2,t,v)::ks)) (s:List UInt8):isL s l=(t==s):=by
 obtain⟨h1,h2,_,_⟩:=is_cons h;unfold isL;rw[h1,h2];rfl
theorem is_isN {l:List Tok} {v:Int} {t:List UInt8} {ks:List K3} (h:Is l ((1,t,v)::ks)) (s:List UInt8):isL s l=false:=by
 obtain⟨h1,h2,_,_⟩:=is_cons h;unfold isL;rw[h1];rfl
theorem name_is {l:List Tok} {v:Int} {t:List UInt8} {ks:List K3} (h:Is l ((1,t,v)::ks)):nameL l= .ok (t,l.tail)/\Is l.tail ks:=by
 obtain⟨h1,h2,_,h4⟩:=is_cons h;exact⟨by unfold nameL;rw[if_pos h1,h2],h4⟩
def NoElse (ks:List K3):Prop:= ∀l,Is l ks->isL wElse l=false
def HdS (ks:List K3):Prop:= ∃c r,ks=c::r/\((c.1==5||c.1==2)&&(c.2.1==[125]||c.2.1==wElse))=false
theorem hdS_else {t ks:List K3} (h:HdS t):NoElse (t++ks):=fun l hl=>by
 obtain⟨⟨k,s,v⟩,r,rfl,hc⟩:=h;obtain⟨h1,h2,_,_⟩:=is_cons hl;unfold isL;rw[h1,h2];exact(no_hd hc).2
theorem hdS_end {t ks:List K3} (h:HdS t) {l:List Tok} (hl:Is l (t++ks)):isL sRb l=false:=by
 obtain⟨⟨k,s,v⟩,r,rfl,hc⟩:=h;obtain⟨h1,h2,_,_⟩:=is_cons hl;unfold isL;rw[h1,h2];exact(no_hd hc).1
theorem Rd.no59 {z:Ex} (h:Rd z) {l:List Tok} {ks:List K3} (hl:Is l (tkE z++ks)):isL sSc l=false:=by
 obtain⟨⟨k,s,v⟩,r,e,hc⟩:=h.rh;rw[e]at hl;obtain⟨h1,h2,_,_⟩:=is_cons hl;unfold isL;rw[h1,h2];exact(no_hd hc).2
structure RdT (x:St):Prop where
 rs: ∀l ks F,Is l (tkSt x++ks)->NoElse ks->4*(tkSt x).length+8<=F-> ∃r,Is r ks/\pStmt F l= .ok (x,r)
 ri:x.k=4-> ∃t,tkSt x=kW wIf::t/\ ∀l ks F,Is l (t++ks)->NoElse ks->4*t.length+8<=F-> ∃r,Is r ks/\pIf F l= .ok (x,r)
 rh:HdS (tkSt x)
theorem blk1_back: ∀(a:List St),(∀x,x∈a->RdT x)-> ∀acc l ks F,Is l ((tkSs a).flatten++kM 125::ks)->4*(tkSs a).flatten.length+12<=F-> ∃r,Is r ks/\pBlock1 F acc l= .ok (acc++a,r)
 | [],_,acc,l,ks,F,hi,hF=>by
  obtain⟨F,rfl⟩: ∃G,F=G+1:=⟨F-1,by omega⟩
  have hi:Is l (kM 125::ks):=hi;have e:isL sRb l=true:=by rw[is_isL hi];rfl
  exact⟨l.tail,(is_cons hi).2.2.2,by rw[pBlock1,e,if_pos rfl,List.append_nil]⟩
 |x::a,hx,acc,l,ks,F,hi,hF=>by
  obtain⟨F,rfl⟩: ∃G,F=G+1:=⟨F-1,by omega⟩
  have hX:=hx x (by simp);have ej:(tkSs (x::a)).flatten=tkSt x++(tkSs a).flatten:=by simp[tkSs]
  rw[ej]at hi hF;rw[List.append_assoc]at hi;rw[List.length_append]at hF;have hl1:1<=(tkSt x).length:=by obtain⟨c,r,e,_⟩:=hX.rh;rw[e];simp
  have hne:NoElse ((tkSs a).flatten++kM 125::ks):=by
   cases a with
   |nil=>exact fun l hl=>by rw[is_isL (show Is l (kM 125::ks)from hl)];rfl
   |cons y r=>
    have:(tkSs (y::r)).flatten++kM 125::ks=tkSt y++((tkSs r).flatten++kM 125::ks):=by simp[tkSs]
    rw[this];exact hdS_else (hx y (by simp)).rh
  obtain⟨r,h1,h2⟩:=hX.rs l _ F hi hne (by omega);obtain⟨r2,g1,g2⟩:=blk1_back a (fun z hz=>hx z (List.mem_cons_of_mem _ hz)) (acc++[x]) r ks F h1 (by omega);refine⟨r2,g1,?_⟩;rw[pBlock1,hdS_end hX.rh hi,if_neg (by simp),h2];show pBlock1 F (acc++[x]) r=_;rw[g2,List.append_assoc];rfl
theorem blk_back {a:List St} (h: ∀x,x∈a->RdT x) {l:List Tok} {ks:List K3} {F:Nat} (hi:Is l (tkBl (tkSs a)++ks)) (hF:4*(tkBl (tkSs a)).length+8<=F): ∃r,Is r ks/\pBlock F l= .ok (a,r):=by
 obtain⟨F,rfl⟩: ∃G,F=G+1:=⟨F-1,by omega⟩
 have hi:Is l (kM 123::((tkSs a).flatten++kM 125::ks)):=by
  have:tkBl (tkSs a)++ks=kM 123::((tkSs a).flatten++kM 125::ks):=by simp[tkBl]
  rw[<-this];exact hi
 have hF:4*((tkSs a).flatten.length+2)+8<=F+1:=by simpa[tkBl]using hF
 obtain⟨h1,h2⟩:=want_is hi;obtain⟨r,g1,g2⟩:=blk1_back a h [] l.tail ks F h2 (by omega);refine⟨r,g1,?_⟩;rw[pBlock,show wantL sLb l= .ok ((),l.tail)from h1];exact g2
theorem kw_var {l:List Tok} {ks:List K3} {w:List UInt8} (h:Is l (kW w::ks)):isL sIf l=(w==sIf)/\isL sWhile l=(w==sWhile)/\isL sVar l=(w==sVar)/\isL sReturn l=(w==sReturn)/\Is l.tail ks:=
 ⟨is_isK h _,is_isK h _,is_isK h _,is_isK h _,(is_cons h).2.2.2⟩
theorem rdT_all: ∀(m:Nat) (x:St),x.wt<=m->x.ok=true->RdT x
 |0,x,hm,_=>absurd hm (by have:=x.wt_eq;omega)
 |m+1, .mk k nm es bd el,hm,h=>by
  have hw:=(St.mk k nm es bd el).wt_eq;simp only[St.nm,St.ex,St.body,St.els]at hw;rw[St.ok,Bool.and_eq_true,Bool.and_eq_true,Bool.and_eq_true]at h;obtain⟨⟨h1,h2⟩,h3,h4⟩:=h;rw[okL_all]at h2;rw[okS_all]at h3 h4;have he: ∀y,y∈es->Rd y:=fun y hy=>rd_any (List.all_eq_true.1 h2 y hy);have hB: ∀y,y∈bd->RdT y:=fun y hy=>rdT_all m y (by have:=wtS_mem hy;omega) (List.all_eq_true.1 h3 y hy);have hL: ∀y,y∈el->RdT y:=fun y hy=>rdT_all m y (by have:=wtS_mem hy;omega) (List.all_eq_true.1 h4 y hy)
  -- an expression behind which a mark follows
  have ex: ∀(z:Ex),z∈es-> ∀(c:UInt8) l ks F,c∈ [41,93,44,59,123]->Is l (tkE z++kM c::ks)->4*(tkE z).length+8<=F-> ∃r,Is r (kM c::ks)/\pExpr F 1 l= .ok (z,r):=fun z hz c l ks F hc hi hF=>
   rdx_ok (he z hz).rx (n:=1) (q:=0) hi (he z hz).rq (stop_kM hc (Int.le_refl _)) (by omega) hF
  by_cases k1:k=1
  ·subst k1;rw[if_pos rfl]at h1;simp only[Bool.and_eq_true,decide_eq_true_eq,beq_iff_eq]at h1;obtain⟨⟨⟨hn,hl⟩,hb0⟩,he0⟩:=h1;obtain rfl:=List.eq_nil_of_length_eq_zero hb0;obtain rfl:=List.eq_nil_of_length_eq_zero he0
   match es,he,hl,ex with
   | [],he,hl,ex=>
    have et:tkSt (.mk 1 nm [] [] [])=[kW wVar,(1,nm,0),kM 59]:=rfl;refine⟨fun l ks F hi hne hF=> ?_,fun h=>absurd h (by decide: ¬(1:Int)=4),⟨_,_,et,rfl⟩⟩;rw[et]at hi hF;simp only[List.cons_append,List.nil_append,List.length_cons,List.length_nil]at hi hF;obtain⟨F,rfl⟩: ∃G,F=G+1:=⟨F-1,by omega⟩
    obtain⟨e1,e2,e3,_,q1⟩:=kw_var hi;obtain⟨n1,n2⟩:=name_is q1;obtain⟨w1,w2⟩:=want_is n2;have e5:isL sEq l.tail.tail=false:=by rw[is_isL n2];rfl
    refine⟨_,w2,?_⟩;rw[pStmt,e1,e2,e3,if_neg (by decide),if_neg (by decide),if_pos (by decide),n1];show((if isL sEq l.tail.tail then _ else _:PR (List Ex))).then _=_;rw[e5,if_neg (by simp)];show(wantL sSc l.tail.tail).then _=_;rw[show wantL sSc l.tail.tail= .ok ((),l.tail.tail.tail)from w1];rfl
   | [z],he,hl,ex=>
    have et:tkSt (.mk 1 nm [z] [] [])=kW wVar::(1,nm,0)::kM 61::(tkE z++[kM 59]):=rfl;refine⟨fun l ks F hi hne hF=> ?_,fun h=>absurd h (by decide: ¬(1:Int)=4),⟨_,_,et,rfl⟩⟩;rw[et]at hi hF;simp only[List.cons_append,List.append_assoc,List.nil_append,List.length_append,List.length_cons,List.length_nil]at hi hF;obtain⟨F,rfl⟩: ∃G,F=G+1:=⟨F-1,by omega⟩
    obtain⟨e1,e2,e3,_,q1⟩:=kw_var hi;obtain⟨n1,n2⟩:=name_is q1;obtain⟨_,v2⟩:=want_is n2;have e5:isL sEq l.tail.tail=true:=by rw[is_isL n2];rfl
    obtain⟨r,g1,g2⟩:=ex z (by simp) 59 _ _ F (by decide) v2 (by omega);obtain⟨w1,w2⟩:=want_is g1;refine⟨_,w2,?_⟩;rw[pStmt,e1,e2,e3,if_neg (by decide),if_neg (by decide),if_pos (by decide),n1];show((if isL sEq l.tail.tail then _ else _:PR (List Ex))).then _=_;rw[e5,if_pos rfl,g2];show(wantL sSc r).then _=_;rw[show wantL sSc r= .ok ((),r.tail)from w1];rfl
   |a::b::r,he,hl,ex=>exact absurd hl (by simp)
  rw[if_neg k1]at h1;by_cases k2:k=2
  ·subst k2;rw[if_pos rfl]at h1;simp only[Bool.and_eq_true,beq_iff_eq]at h1;obtain⟨⟨⟨hn,hl⟩,hb0⟩,he0⟩:=h1;obtain rfl:=List.eq_nil_of_length_eq_zero hb0;obtain rfl:=List.eq_nil_of_length_eq_zero he0;obtain⟨z,rfl⟩:=List.length_eq_one_iff.1 hl;have et:tkSt (.mk 2 nm [z] [] [])=(1,nm,0)::kM 61::(tkE z++[kM 59]):=rfl;refine⟨fun l ks F hi hne hF=> ?_,fun h=>absurd h (by decide: ¬(2:Int)=4),⟨_,_,et,rfl⟩⟩;rw[et]at hi hF;simp only[List.cons_append,List.append_assoc,List.nil_append,List.length_append,List.length_cons,List.length_nil]at hi hF;obtain⟨F,rfl⟩: ∃G,F=G+1:=⟨F-1,by omega⟩
   obtain⟨n1,n2⟩:=name_is hi;obtain⟨v1,v2⟩:=want_is n2;have e5:isL sLp l.tail=false:=by rw[is_isL n2];rfl
   have e6:isL sLs l.tail=false:=by rw[is_isL n2];rfl
   obtain⟨r,g1,g2⟩:=ex z (by simp) 59 _ _ F (by decide) v2 (by omega);obtain⟨w1,w2⟩:=want_is g1;refine⟨_,w2,?_⟩;rw[pStmt,is_isN hi,is_isN hi,is_isN hi,is_isN hi,if_neg (by simp),if_neg (by simp),if_neg (by simp),if_neg (by simp),n1];show((if isL sLp l.tail then _ else if isL sLs l.tail then _ else _:PR St)).then _=_;rw[e5,e6,if_neg (by simp),if_neg (by simp),show wantL sEq l.tail= .ok ((),l.tail.tail)from v1];show((pExpr F 1 l.tail.tail).then _:PR St).then _=_;rw[g2];show(wantL sSc r).then _=_;rw[show wantL sSc r= .ok ((),r.tail)from w1];rfl
  rw[if_neg k2]at h1;by_cases k3:k=3
  ·subst k3;rw[if_pos rfl]at h1;simp only[Bool.and_eq_true,beq_iff_eq]at h1;obtain⟨⟨⟨hn,hl⟩,hb0⟩,he0⟩:=h1;obtain rfl:=List.eq_nil_of_length_eq_zero hb0;obtain rfl:=List.eq_nil_of_length_eq_zero he0;obtain⟨z,u,rfl⟩: ∃y z,es=[y,z]:=by
    match es,hl with
    | [y,z],_=>exact⟨y,z,rfl⟩
   have et:tkSt (.mk 3 nm [z,u] [] [])=(1,nm,0)::kM 91::(tkE z++kM 93::kM 61::(tkE u++[kM 59])):=rfl;refine⟨fun l ks F hi hne hF=> ?_,fun h=>absurd h (by decide: ¬(3:Int)=4),⟨_,_,et,rfl⟩⟩;rw[et]at hi hF;simp only[List.cons_append,List.append_assoc,List.nil_append,List.length_append,List.length_cons,List.length_nil]at hi hF;obtain⟨F,rfl⟩: ∃G,F=G+1:=⟨F-1,by omega⟩
   obtain⟨n1,n2⟩:=name_is hi;obtain⟨_,v2⟩:=want_is n2;have e5:isL sLp l.tail=false:=by rw[is_isL n2];rfl
   have e6:isL sLs l.tail=true:=by rw[is_isL n2];rfl
   obtain⟨r,g1,g2⟩:=ex z (by simp) 93 _ _ F (by decide) v2 (by omega);obtain⟨a1,a2⟩:=want_is g1;obtain⟨b1,b2⟩:=want_is a2;obtain⟨q,m1,m2⟩:=ex u (by simp) 59 _ _ F (by decide) b2 (by omega);obtain⟨w1,w2⟩:=want_is m1;refine⟨_,w2,?_⟩;rw[pStmt,is_isN hi,is_isN hi,is_isN hi,is_isN hi,if_neg (by simp),if_neg (by simp),if_neg (by simp),if_neg (by simp),n1];show((if isL sLp l.tail then _ else if isL sLs l.tail then _ else _:PR St)).then _=_;rw[e5,e6,if_neg (by simp),if_pos rfl,g2];show((wantL sRs r).then _:PR St).then _=_;rw[show wantL sRs r= .ok ((),r.tail)from a1];show((wantL sEq r.tail).then _:PR St).then _=_;rw[show wantL sEq r.tail= .ok ((),r.tail.tail)from b1];show((pExpr F 1 r.tail.tail).then _:PR St).then _=_;rw[m2];show(wantL sSc q).then _=_;rw[show wantL sSc q= .ok ((),q.tail)from w1];rfl
  rw[if_neg k3]at h1;by_cases k4:k=4
  ·subst k4;rw[if_pos rfl]at h1;simp only[Bool.and_eq_true,beq_iff_eq]at h1;obtain⟨rfl,hl⟩:=h1;obtain⟨z,rfl⟩:=List.length_eq_one_iff.1 hl;have et:tkSt (.mk 4 [] [z] bd el)=kW wIf::(tkE z++(tkBl (tkSs bd)++(if chainB el then kW wElse::(tkSs el).headD []else if tkSs el=[]then[]else kW wElse::tkBl (tkSs el)))):=rfl;have key: ∀l ks F,Is l ((tkE z++(tkBl (tkSs bd)++(if chainB el then kW wElse::(tkSs el).headD []else if tkSs el=[]then[]else kW wElse::tkBl (tkSs el))))++ks)->NoElse ks->
     4*(tkE z++(tkBl (tkSs bd)++(if chainB el then kW wElse::(tkSs el).headD []else if tkSs el=[]then[]else kW wElse::tkBl (tkSs el)))).length+8<=F-> ∃r,Is r ks/\pIf F l= .ok (.mk 4 [] [z] bd el,r):=fun l ks F hi hne hF=>by
    simp only[List.append_assoc,List.length_append]at hi hF;have hb2:(tkBl (tkSs bd)).length=(tkSs bd).flatten.length+2:=by simp[tkBl]
    have hz1:1<=(tkE z).length:=by obtain⟨c,r,e,_⟩:=(he z (by simp)).rh;rw[e];simp
    obtain⟨F,rfl⟩: ∃G,F=G+1:=⟨F-1,by omega⟩
    have hi':Is l (tkE z++kM 123::((tkSs bd).flatten++kM 125::((if chainB el then kW wElse::(tkSs el).headD []else if tkSs el=[]then[]else kW wElse::tkBl (tkSs el))++ks))):=by
     simpa[tkBl]using hi
    obtain⟨r,g1,g2⟩:=ex z (by simp) 123 _ _ F (by decide) hi' (by omega);have g1:Is r (tkBl (tkSs bd)++((if chainB el then kW wElse::(tkSs el).headD []else if tkSs el=[]then[]else kW wElse::tkBl (tkSs el))++ks)):=by
     simpa[tkBl]using g1
    obtain⟨q,m1,m2⟩:=blk_back hB (F:=F) g1 (by omega);have fin: ∃r,Is r ks/\(if isL sElse q then(if isL sIf q.tail then(pIf F q.tail.tail).then fun s r=> .ok (.mk 4 [] [z] bd [s],r)else(pBlock F q.tail).then fun c r=> .ok (.mk 4 [] [z] bd c,r))else .ok (.mk 4 [] [z] bd [],q):PR St)= .ok (.mk 4 [] [z] bd el,r):=by
     clear g1 g2 m2 hi hi'
     match el,hL,m1,hF with
     | [],hL,m1,hF=>exact⟨q,m1,by rw[show isL sElse q=false from hne q m1,if_neg (by simp)]⟩
     |u::t,hL,m1,hF=>
      cases hc:chainB (u::t)with
      |true=>
       rw[hc,if_pos rfl]at m1 hF;unfold chainB at hc;simp only[Bool.and_eq_true,beq_iff_eq]at hc;obtain⟨hc1,hc2⟩:=hc;obtain rfl:t=[]:=by simpa using hc1
       have hk4:u.k=4:=by simpa using hc2
       obtain⟨ti,t1,t2⟩:=(hL u (by simp)).ri hk4;have m1:Is q (kW wElse::kW wIf::(ti++ks)):=by
        have:(kW wElse::(tkSs [u]).headD [])++ks=kW wElse::kW wIf::(ti++ks):=by simp[tkSs,t1]
        rw[<-this];exact m1
       have hF:4*ti.length+8<=F:=by
        have:(kW wElse::(tkSs [u]).headD []).length=ti.length+2:=by simp[tkSs,t1]
        omega
       have e1:isL sElse q=true:=by rw[is_isK m1];rfl
       have m2:=(is_cons m1).2.2.2;have e2:isL sIf q.tail=true:=by rw[is_isK m2];rfl
       obtain⟨r2,s1,s2⟩:=t2 q.tail.tail ks F (is_cons m2).2.2.2 hne hF;exact⟨r2,s1,by rw[e1,e2,if_pos rfl,if_pos rfl,s2];rfl⟩
      |false=>
       have hn0: ¬tkSs (u::t)=[]:=by simp[tkSs]
       rw[hc,if_neg (by simp),if_neg hn0]at m1 hF;have m1:Is q (kW wElse::(tkBl (tkSs (u::t))++ks)):=m1;simp only[List.length_cons]at hF;have e1:isL sElse q=true:=by rw[is_isK m1];rfl
       have m2:=(is_cons m1).2.2.2;have m3:Is q.tail (kM 123::((tkSs (u::t)).flatten++kM 125::ks)):=by simpa[tkBl]using m2
       have e2:isL sIf q.tail=false:=by rw[is_isL m3];rfl
       obtain⟨r2,s1,s2⟩:=blk_back hL (F:=F) m2 (by omega);exact⟨r2,s1,by rw[e1,e2,if_pos rfl,if_neg (by simp),s2];rfl⟩
    obtain⟨r2,f1,f2⟩:=fin;refine⟨r2,f1,?_⟩;rw[pIf,g2];show(pBlock F r).then _=_;rw[m2];exact f2
   refine⟨fun l ks F hi hne hF=> ?_,fun _=>⟨_,et,key⟩,⟨_,_,et,rfl⟩⟩;rw[et]at hi hF;rw[List.length_cons]at hF;obtain⟨F,rfl⟩: ∃G,F=G+1:=⟨F-1,by omega⟩
   obtain⟨e1,_,_,_,q1⟩:=kw_var hi;obtain⟨r,g1,g2⟩:=key l.tail ks F q1 hne (by omega);exact⟨r,g1,by rw[pStmt,e1,if_pos (by decide),g2]⟩
  rw[if_neg k4]at h1;by_cases k5:k=5
  ·subst k5;rw[if_pos rfl]at h1;simp only[Bool.and_eq_true,beq_iff_eq]at h1;obtain⟨⟨rfl,hl⟩,he0⟩:=h1;obtain rfl:=List.eq_nil_of_length_eq_zero he0;obtain⟨z,rfl⟩:=List.length_eq_one_iff.1 hl;have et:tkSt (.mk 5 [] [z] bd [])=kW wWhile::(tkE z++tkBl (tkSs bd)):=rfl;refine⟨fun l ks F hi hne hF=> ?_,fun h=>absurd h (by decide: ¬(5:Int)=4),⟨_,_,et,rfl⟩⟩;rw[et]at hi hF;simp only[List.cons_append,List.append_assoc,List.length_append,List.length_cons]at hi hF;obtain⟨F,rfl⟩: ∃G,F=G+1:=⟨F-1,by omega⟩
   obtain⟨e1,e2,_,_,q1⟩:=kw_var hi;have q1:Is l.tail (tkE z++kM 123::((tkSs bd).flatten++kM 125::ks)):=by simpa[tkBl]using q1
   obtain⟨r,g1,g2⟩:=ex z (by simp) 123 _ _ F (by decide) q1 (by omega);have g1:Is r (tkBl (tkSs bd)++ks):=by simpa[tkBl]using g1
   obtain⟨q,m1,m2⟩:=blk_back hB (F:=F) g1 (by omega);refine⟨q,m1,?_⟩;rw[pStmt,e1,e2,if_neg (by decide),if_pos (by decide),g2];show(pBlock F r).then _=_;rw[m2];rfl
  rw[if_neg k5]at h1;by_cases k6:k=6
  ·subst k6;rw[if_pos rfl]at h1;simp only[Bool.and_eq_true,decide_eq_true_eq,beq_iff_eq]at h1;obtain⟨⟨⟨rfl,hl⟩,hb0⟩,he0⟩:=h1;obtain rfl:=List.eq_nil_of_length_eq_zero hb0;obtain rfl:=List.eq_nil_of_length_eq_zero he0
   match es,he,hl,ex with
   | [],he,hl,ex=>
    have et:tkSt (.mk 6 [] [] [] [])=[kW wReturn,kM 59]:=rfl;refine⟨fun l ks F hi hne hF=> ?_,fun h=>absurd h (by decide: ¬(6:Int)=4),⟨_,_,et,rfl⟩⟩;rw[et]at hi hF;simp only[List.cons_append,List.nil_append,List.length_cons,List.length_nil]at hi hF;obtain⟨F,rfl⟩: ∃G,F=G+1:=⟨F-1,by omega⟩
    obtain⟨e1,e2,e3,e4,q1⟩:=kw_var hi;obtain⟨w1,w2⟩:=want_is q1;have e5:isL sSc l.tail=true:=by rw[is_isL q1];rfl
    refine⟨_,w2,?_⟩;rw[pStmt,e1,e2,e3,e4,if_neg (by decide),if_neg (by decide),if_neg (by decide),if_pos (by decide),e5,if_pos rfl];show(wantL sSc l.tail).then _=_;rw[show wantL sSc l.tail= .ok ((),l.tail.tail)from w1];rfl
   | [z],he,hl,ex=>
    have et:tkSt (.mk 6 [] [z] [] [])=kW wReturn::(tkE z++[kM 59]):=rfl;refine⟨fun l ks F hi hne hF=> ?_,fun h=>absurd h (by decide: ¬(6:Int)=4),⟨_,_,et,rfl⟩⟩;rw[et]at hi hF;simp only[List.cons_append,List.append_assoc,List.nil_append,List.length_append,List.length_cons,List.length_nil]at hi hF;obtain⟨F,rfl⟩: ∃G,F=G+1:=⟨F-1,by omega⟩
    obtain⟨e1,e2,e3,e4,q1⟩:=kw_var hi;have e5:isL sSc l.tail=false:=(he z (by simp)).no59 q1;obtain⟨r,g1,g2⟩:=ex z (by simp) 59 _ _ F (by decide) q1 (by omega);obtain⟨w1,w2⟩:=want_is g1;refine⟨_,w2,?_⟩;rw[pStmt,e1,e2,e3,e4,if_neg (by decide),if_neg (by decide),if_neg (by decide),if_pos (by decide),e5,if_neg (by simp),g2];show(wantL sSc r).then _=_;rw[show wantL sSc r= .ok ((),r.tail)from w1];rfl
   |a::b::r,he,hl,ex=>exact absurd hl (by simp)
  rw[if_neg k6]at h1;by_cases k7:k=7
  ·subst k7;rw[if_pos rfl]at h1;simp only[Bool.and_eq_true,beq_iff_eq]at h1;obtain⟨⟨⟨⟨rfl,hl⟩,hz5⟩,hb0⟩,he0⟩:=h1;obtain rfl:=List.eq_nil_of_length_eq_zero hb0;obtain rfl:=List.eq_nil_of_length_eq_zero he0;obtain⟨z,rfl⟩:=List.length_eq_one_iff.1 hl;have hz5:z.k=5:=by simpa using hz5
   obtain⟨zk,zo,zn,zt,zv,za⟩:=z;have hz5:zk=5:=hz5;subst hz5;have ez:tkE (.mk 5 zo zn zt zv za)=(1,zn,0)::kM 40::(joinK (tkEs za)++[kM 41]):=rfl;have et:tkSt (.mk 7 [] [.mk 5 zo zn zt zv za] [] [])=tkE (.mk 5 zo zn zt zv za)++[kM 59]:=rfl;refine⟨fun l ks F hi hne hF=> ?_,fun h=>absurd h (by decide: ¬(7:Int)=4),⟨_,_,by rw[et,ez];rfl,rfl⟩⟩;rw[et]at hi hF;simp only[List.append_assoc,List.cons_append,List.nil_append,List.length_append,List.length_cons,List.length_nil]at hi hF;obtain⟨r,g1,g2⟩:=(he (.mk 5 zo zn zt zv za) (by simp)).rp (by decide: ¬(5:Int)=7) l (kM 59::ks) F 0 hi (stop_kM (by simp) (Int.le_refl _)) (by omega);obtain⟨F,rfl⟩: ∃G,F=G+1:=⟨F-1,by omega⟩
   have hi2:Is l ((1,zn,0)::kM 40::(joinK (tkEs za)++kM 41::kM 59::ks)):=by
    have:tkE (.mk 5 zo zn zt zv za)++kM 59::ks=(1,zn,0)::kM 40::(joinK (tkEs za)++kM 41::kM 59::ks):=by rw[ez];simp
    rw[<-this];exact hi
   obtain⟨q1,q2,q3,q4⟩:=is_cons hi2;obtain⟨n1,n2⟩:=name_is hi2;have e5:isL sLp l.tail=true:=by rw[is_isL n2];rfl
   rw[pPrim,if_neg (by rw[q1];decide),if_neg (by rw[q1];decide),if_pos q1,q2]at g2;obtain⟨w1,w2⟩:=want_is g1;refine⟨_,w2,?_⟩;rw[pStmt,is_isN hi2,is_isN hi2,is_isN hi2,is_isN hi2,if_neg (by simp),if_neg (by simp),if_neg (by simp),if_neg (by simp),n1];show((if isL sLp l.tail then _ else if isL sLs l.tail then _ else _:PR St)).then _=_;rw[e5,if_pos rfl,g2];show(wantL sSc r).then _=_;rw[show wantL sSc r= .ok ((),r.tail)from w1];rfl
  ·rw[if_neg k7]at h1
   cases h1
theorem rdT_any {x:St} (h:x.ok=true):RdT x:=rdT_all _ x (Nat.le_refl _) h
end Go.Proofs.YtelplgkppalmfaaGreatDoor
namespace Go.Proofs.YtelplgkppalmfaaGreatDoor
open Go.Proofs.Tryz
theorem var_back {v:Vr} (h:okV v=true) {l:List Tok} {ks:List K3} (hi:Is l (tkV v++ks)):isL sVar l=true/\ ∃r,Is r ks/\pVar l.tail= .ok (v,r):=by
 unfold okV at h;simp only[Bool.and_eq_true,decide_eq_true_eq]at h;obtain⟨⟨_,h1⟩,h2⟩:=h;obtain⟨nm,sz⟩:=v;have h1:0<=sz:=h1;have h2:sz<=2000:=h2;have hi0:Is l (kW wVar::(1,nm,0)::((if 0<sz then[kM 91,(3,[],sz),kM 93]else[])++kM 59::ks)):=by
  have:tkV ⟨nm,sz⟩++ks=kW wVar::(1,nm,0)::((if 0<sz then[kM 91,(3,[],sz),kM 93]else[])++kM 59::ks):=by simp[tkV]
  rw[<-this];exact hi
 obtain⟨_,_,e3,_,q1⟩:=kw_var hi0;obtain⟨n1,n2⟩:=name_is q1;refine⟨e3,?_⟩;by_cases hs:0<sz
 ·rw[if_pos hs]at n2;have n2:Is l.tail.tail (kM 91::(3,[],sz)::kM 93::kM 59::ks):=n2;have e5:isL sLs l.tail.tail=true:=by rw[is_isL n2];rfl
  have n3:=(is_cons n2).2.2.2;obtain⟨a1,_,a3,a4⟩:=is_cons n3;obtain⟨b1,b2⟩:=want_is a4;obtain⟨w1,w2⟩:=want_is b2;refine⟨_,w2,?_⟩;unfold pVar;rw[n1];show((if isL sLs l.tail.tail then _ else _:PR Int)).then _=_;rw[e5,if_pos rfl,if_pos a1,a3,if_neg (by omega),show wantL sRs l.tail.tail.tail.tail= .ok ((),l.tail.tail.tail.tail.tail)from b1];show(wantL sSc l.tail.tail.tail.tail.tail).then _=_;rw[show wantL sSc l.tail.tail.tail.tail.tail= .ok ((),l.tail.tail.tail.tail.tail.tail)from w1];rfl
 ·rw[if_neg hs]at n2;obtain rfl:sz=0:=by omega
  have n2:Is l.tail.tail (kM 59::ks):=n2;have e5:isL sLs l.tail.tail=false:=by rw[is_isL n2];rfl
  obtain⟨w1,w2⟩:=want_is n2;refine⟨_,w2,?_⟩;unfold pVar;rw[n1];show((if isL sLs l.tail.tail then _ else _:PR Int)).then _=_;rw[e5,if_neg (by simp)];show(wantL sSc l.tail.tail).then _=_;rw[show wantL sSc l.tail.tail= .ok ((),l.tail.tail.tail)from w1];rfl
theorem names_back: ∀(a:List (List UInt8)),a≠ []-> ∀acc l ks F,Is l (joinN a++kM 41::ks)->(joinN a).length+1<=F-> ∃r,Is r ks/\pNames1 F acc l= .ok (acc++a,r)
 | [],h,_,_,_,_,_,_=>absurd rfl h
 | [x],_,acc,l,ks,F,hi,hF=>by
  obtain⟨F,rfl⟩: ∃G,F=G+1:=⟨F-1,by omega⟩
  have hi:Is l ((1,x,0)::kM 41::ks):=hi;obtain⟨n1,n2⟩:=name_is hi;have e:isL sRp l.tail=true:=by rw[is_isL n2];rfl
  refine⟨_,(is_cons n2).2.2.2,?_⟩;rw[pNames1,n1];show(if isL sRp l.tail then _ else _)=_;rw[e,if_pos rfl]
 |x::y::r,_,acc,l,ks,F,hi,hF=>by
  obtain⟨F,rfl⟩: ∃G,F=G+1:=⟨F-1,by omega⟩
  have ej:joinN (x::y::r)=(1,x,0)::kM 44::joinN (y::r):=by simp[joinN]
  rw[ej]at hi hF;simp only[List.length_cons]at hF;obtain⟨n1,n2⟩:=name_is hi;have e:isL sRp l.tail=false:=by rw[is_isL (show Is l.tail (kM 44::(joinN (y::r)++kM 41::ks))from n2)];rfl
  obtain⟨w1,w2⟩:=want_is (show Is l.tail (kM 44::(joinN (y::r)++kM 41::ks))from n2);obtain⟨r2,g1,g2⟩:=names_back (y::r) (by simp) (acc++[x]) l.tail.tail ks F w2 (by omega);refine⟨r2,g1,?_⟩;rw[pNames1,n1];show(if isL sRp l.tail then _ else(wantL sCm l.tail).then _)=_;rw[e,if_neg (by simp),show wantL sCm l.tail= .ok ((),l.tail.tail)from w1];show pNames1 F (acc++[x]) l.tail.tail=_;rw[g2,List.append_assoc];rfl
theorem func_back {f:Fc} (h:okF f=true) {l:List Tok} {ks:List K3} {F:Nat} (hi:Is l (tkF f++ks)) (hF:4*(tkF f).length<=F):isL sVar l=false/\wantL sFunc l= .ok ((),l.tail)/\ ∃r,Is r ks/\pFunc F l.tail= .ok (f,r):=by
 have hb:=okF_body h;rw[okS_all]at hb;obtain⟨nm,ps,body⟩:=f;have hB: ∀y,y∈body->RdT y:=fun y hy=>rdT_any (List.all_eq_true.1 hb y hy);have hi0:Is l (kW wFunc::(1,nm,0)::kM 40::(joinN ps++kM 41::(tkBl (tkSs body)++ks))):=by
  have:tkF ⟨nm,ps,body⟩++ks=kW wFunc::(1,nm,0)::kM 40::(joinN ps++kM 41::(tkBl (tkSs body)++ks)):=by simp[tkF]
  rw[<-this];exact hi
 have hF:4*((joinN ps).length+(tkBl (tkSs body)).length+4)<=F:=by
  have:(tkF ⟨nm,ps,body⟩).length=(joinN ps).length+(tkBl (tkSs body)).length+4:=by simp[tkF];omega
  omega
 obtain⟨_,_,e3,_,q1⟩:=kw_var hi0;have e4:isL sFunc l=true:=by rw[is_isK hi0];rfl
 obtain⟨n1,n2⟩:=name_is q1;obtain⟨w1,w2⟩:=want_is n2;refine⟨e3,by unfold wantL;rw[e4,if_pos rfl],?_⟩;have hn: ∃r,Is r (tkBl (tkSs body)++ks)/\pNames F l.tail.tail.tail= .ok (ps,r):=by
  cases ps with
  |nil=>
   have w2:Is l.tail.tail.tail (kM 41::(tkBl (tkSs body)++ks)):=w2;have e:isL sRp l.tail.tail.tail=true:=by rw[is_isL w2];rfl
   exact⟨_,(is_cons w2).2.2.2,by unfold pNames;rw[e,if_pos rfl]⟩
  |cons x r=>
   have e:isL sRp l.tail.tail.tail=false:=is_isN (show Is l.tail.tail.tail ((1,x,0)::_)from w2) _;obtain⟨r2,g1,g2⟩:=names_back (x::r) (by simp) [] _ _ F w2 (by omega);exact⟨r2,g1,by unfold pNames;rw[e,if_neg (by simp),g2];rfl⟩
 obtain⟨r,g1,g2⟩:=hn;obtain⟨q,m1,m2⟩:=blk_back hB (F:=F) g1 (by omega);refine⟨q,m1,?_⟩;unfold pFunc;rw[n1];show((wantL sLp l.tail.tail).then _:PR Fc)=_;rw[show wantL sLp l.tail.tail= .ok ((),l.tail.tail.tail)from w1];show((pNames F l.tail.tail.tail).then _:PR Fc)=_;rw[g2];show((pBlock F r).then _:PR Fc)=_;rw[m2];rfl
theorem funcs_back: ∀(fs:List Fc),fs.all okF=true-> ∀(p:Pg) l F,Is l (fs.flatMap tkF)->4*(fs.flatMap tkF).length+4<=F->pProg F p l= .ok (⟨p.vs,p.fs++fs⟩,[])
 | [],_,p,l,F,hi,hF=>by
  obtain⟨F,rfl⟩: ∃G,F=G+1:=⟨F-1,by omega⟩
  obtain rfl:l=[]:=by cases l with|nil=>rfl|cons a r=>cases hi
  rw[pProg,if_pos rfl,List.append_nil]
 |f::fs,h,p,l,F,hi,hF=>by
  simp only[List.all_cons,Bool.and_eq_true]at h;obtain⟨F,rfl⟩: ∃G,F=G+1:=⟨F-1,by omega⟩
  simp only[List.flatMap_cons,List.length_append]at hi hF;have hl1:1<=(tkF f).length:=by simp[tkF]
  obtain⟨e1,e2,r,g1,g2⟩:=func_back h.1 (F:=F) hi (by omega);have hl:l≠ []:=by
   intro e;subst e;unfold wantL at e2;rw[show isL sFunc []=false from rfl,if_neg (by simp)]at e2
   cases e2
  rw[pProg,if_neg hl,e1,if_neg (by simp),e2];show((pFunc F l.tail).then _:PR Pg)=_;rw[g2];show pProg F ⟨p.vs,p.fs++[f]⟩ r=_;rw[funcs_back fs h.2 ⟨p.vs,p.fs++[f]⟩ r F g1 (by omega),List.append_assoc];rfl
theorem prog_back: ∀(vs:List Vr),vs.all okV=true-> ∀(fs:List Fc),fs.all okF=true-> ∀(p:Pg) l F,p.fs=[]->Is l (vs.flatMap tkV++fs.flatMap tkF)->4*(vs.flatMap tkV++fs.flatMap tkF).length+4<=F->pProg F p l= .ok (⟨p.vs++vs,fs⟩,[])
 | [],_,fs,hf,p,l,F,hp,hi,hF=>by
  rw[funcs_back fs hf p l F hi hF,hp,List.append_nil,List.nil_append]
 |v::vs,h,fs,hf,p,l,F,hp,hi,hF=>by
  simp only[List.all_cons,Bool.and_eq_true]at h;obtain⟨F,rfl⟩: ∃G,F=G+1:=⟨F-1,by omega⟩
  simp only[List.flatMap_cons,List.append_assoc,List.length_append]at hi hF;have hl1:1<=(tkV v).length:=by simp[tkV]
  obtain⟨e1,r,g1,g2⟩:=var_back h.1 hi;rw[pProg,if_neg (isL_cons e1),e1,if_pos rfl,g2];show pProg F ⟨p.vs++[v],p.fs⟩ r=_;rw[prog_back vs h.2 fs hf ⟨p.vs++[v],p.fs⟩ r F hp g1 (by simp only[List.length_append];omega),List.append_assoc];rfl
theorem par_src {p:Pg} (h:okPg p=true):parL (srcP p)=(p,0,0):=by
 obtain⟨us,h1,h2⟩:=toks_src h;have hp:=h;unfold okPg at h;simp only[Bool.and_eq_true]at h;have hlen:us.length=(p.vs.flatMap tkV++p.fs.flatMap tkF).length:=by
  have:(us.map (fun t=>(t.k,t.t,t.v))).length=(tkP p).length:=by rw[h2]
  rw[List.length_map]at this;exact this
 have hb:=prog_back p.vs h.1.1.1.1 p.fs h.1.1.1.2 noPg us (4*us.length+8) rfl h2 (by omega);unfold parL;rw[h1,if_pos rfl];unfold parT;have hb:pProg (4*us.length+8) noPg us= .ok (p,[]):=hb;rw[hb];show(if okPg p then _ else _)=_;rw[hp,if_pos rfl]
end Go.Proofs.YtelplgkppalmfaaGreatDoor
