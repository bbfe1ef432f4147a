/-
  Parts of the proof: VrI VrW RtLexZ RtA RtB RtC RtD RtE RtF RtG RtH Ppr BlA BlB BlC BlD.
-/
import Derived.Test.YtelplgkppalmfaaGreatDoorPb33
import Derived.Test.YtelplgkppalmfaaGreatDoorPb28
import Derived.Test.YtelplgkppalmfaaGreatDoorPb26
import Derived.Test.YtelplgkppalmfaaGreatDoorPb31
set_option maxRecDepth 100000
set_option maxHeartbeats 8000000
set_option linter.unusedVariables false
set_option linter.unusedSimpArgs false
namespace Go.Proofs.YtelplgkppalmfaaGreatDoor
open Go.Proofs.Tryz
open Go.RowKit
end Go.Proofs.YtelplgkppalmfaaGreatDoor
namespace Go.Proofs.YtelplgkppalmfaaGreatDoor
open Go.Proofs.Tryz
open Go.RowKit
end Go.Proofs.YtelplgkppalmfaaGreatDoor
namespace Go.Proofs.YtelplgkppalmfaaGreatDoor
open Go.Proofs.Tryz
theorem elem_two (d v:UInt8) (y:List UInt8) (h:escV d=some v):elemL (92::d::y)=(v,2):=by
 have h1: ¬((92:UInt8).toNat<32\/126<(92:UInt8).toNat):=by decide
 simp only[elemL];rw[if_neg h1,if_neg (by simp),h]
theorem elem_escQ (c:UInt8) (h:okC c=true) (y:List UInt8):elemL (escQ c++y)=(c,(escQ c).length)/\(∃d r,escQ c++y=d::r/\d≠34):=by
 unfold escQ;by_cases h1:c=10
 ·subst h1;exact⟨elem_two 110 10 y (by decide),92,_,rfl,by decide⟩
 rw[if_neg h1];by_cases h2:c=9
 ·subst h2;exact⟨elem_two 116 9 y (by decide),92,_,rfl,by decide⟩
 rw[if_neg h2];by_cases h3:c=0
 ·subst h3;exact⟨elem_two 48 0 y (by decide),92,_,rfl,by decide⟩
 rw[if_neg h3];by_cases h4:c=92
 ·subst h4;exact⟨elem_two 92 92 y (by decide),92,_,rfl,by decide⟩
 rw[if_neg h4];by_cases h5:c=39
 ·subst h5;exact⟨elem_two 39 39 y (by decide),92,_,rfl,by decide⟩
 rw[if_neg h5];by_cases h6:c=34
 ·subst h6;exact⟨elem_two 34 34 y (by decide),92,_,rfl,by decide⟩
 rw[if_neg h6];refine⟨?_,c,y,rfl,h6⟩;have hk:32<=c.toNat/\c.toNat<=126:=by
  unfold okC at h;simp only[Bool.or_eq_true,decide_eq_true_eq,beq_iff_eq]at h;rcases h with((h|h)|h)|h
  ·exact h
  ·exact absurd h h1
  ·exact absurd h h2
  ·exact absurd h h3
 show elemL (c::y)=_;simp only[elemL];rw[if_neg (by omega),if_pos h4];rfl
theorem litL_quote (y:List UInt8): ∀l:List UInt8,l.all okC=true->litL (qescL l++34::y)=some (l,(qescL l).length+1)
 | [],_=>litL_end y
 |c::l,h=>by
  simp only[List.all_cons,Bool.and_eq_true]at h;obtain⟨h1,d,r,h2,h3⟩:=elem_escQ c h.1 (qescL l++34::y);have hl:=escQ_length c;have e:qescL (c::l)++34::y=d::r:=by rw[<-h2];simp[qescL]
  rw[h2]at h1;rw[e,litL_step h3 (by rw[h1];simp only;omega),h1,<-h2,List.drop_left,litL_quote y l h.2];simp only[Option.map_some,qescL,List.length_append,Nat.add_assoc]
theorem letB_34:letB 34=false:=by decide
theorem digB_34:digB 34=false:=by decide
theorem tokT_quote (l y:List UInt8) (h:l.all okC=true) (hl:l.length<=128):tokT (quoteL l++y)= .ok ((4,l,0),(quoteL l).length):=by
 have e:quoteL l++y=34::(qescL l++34::y):=by simp[quoteL]
 rw[e];simp only[tokT,letB_34,digB_34];rw[if_neg (by simp),if_neg (by simp),if_neg (by decide),if_pos trivial];unfold textT;rw[List.drop_succ_cons,List.drop_zero,litL_quote y l h];simp only;rw[if_neg (by omega)];simp[quoteL]
theorem skip_char {c:UInt8} {l:List UInt8} (h1:wsB c=false) (h2: ¬(c=47/\l.head? =some 47)):skipC false (c::l)=0:=by
 simp only[skipC];rw[if_neg (by simp[h1]),if_neg h2]
theorem dig_ofNat {d:Nat} (h:d<10):(UInt8.ofNat (48+d)).toNat=48+d:=by
 rw[UInt8.toNat_ofNat'];omega
theorem decL_spec: ∀(N n:Nat),n<N->(decL n).all digB=true/\decL n≠ []/\decV (decL n)=n/\(n≠0->(decL n).head? ≠some 48)/\(n<10->(decL n).length=1)
 |0,n,h=>by omega
 |N+1,n,h=>by
  rw[decL];by_cases hn:n<10
  ·rw[if_pos hn];have hd:=dig_ofNat hn;refine⟨?_,by simp,?_,?_,fun _=>rfl⟩
   ·simp[digB];omega
   ·simp[decV];omega
   ·intro h0 h1;simp only[List.head?_cons,Option.some.injEq]at h1;have:=congrArg UInt8.toNat h1;rw[hd]at this;have:48+n=48:=this;omega
  ·rw[if_neg hn];obtain⟨i1,i2,i3,i4,_⟩:=decL_spec N (n/10) (by omega);have hd:=dig_ofNat (Nat.mod_lt n (by omega:10>0));refine⟨?_,by simp,?_,?_,fun h=>by omega⟩
   ·rw[List.all_append,i1];simp[digB];omega
   ·unfold decV at i3⊢;rw[List.foldl_append,i3];simp only[List.foldl_cons,List.foldl_nil,hd];omega
   ·intro _;have:=i4 (by omega)
    cases hc:decL (n/10)with
    |nil=>exact absurd hc i2
    |cons c r=>rw[hc]at this;simpa using this
theorem decL_one (n:Nat) (h:1<(decL n).length):(decL n).head? ≠some 48:=by
 have hs:=decL_spec (n+1) n (by omega);by_cases h0:n<10
 ·have:=hs.2.2.2.2 h0;omega
 ·exact hs.2.2.2.1 (by omega)
theorem spanN_one {p:UInt8->Bool} {c:UInt8} {l:List UInt8} (h:p c=true):spanN p (c::l)=spanN p l+1:=by
 simp only[spanN];rw[if_pos h]
theorem kw_cases {l:List UInt8} (h:kwB l=true):l=[118,97,114]\/l=[102,117,110,99]\/l=[105,102]\/l=[101,108,115,101]\/l=[119,104,105,108,101]\/l=[114,101,116,117,114,110]:=by
 have:=List.contains_iff_mem.1 h;simpa[kws]using this
theorem dig_not_let {c:UInt8} (h:digB c=true):letB c=false/\c≠39/\c≠34/\wsB c=false/\c≠47:=by
 have key: ∀n:Fin 256,digB (UInt8.ofNat n.val)=true->letB (UInt8.ofNat n.val)=false/\UInt8.ofNat n.val≠39/\UInt8.ofNat n.val≠34/\wsB (UInt8.ofNat n.val)=false/\UInt8.ofNat n.val≠47:=by decide+kernel
 have:=key ⟨c.toNat,c.toNat_lt⟩;rw[UInt8.ofNat_toNat]at this;exact this h
theorem let_not {c:UInt8} (h:letB c=true):wsB c=false/\c≠47:=by
 have key: ∀n:Fin 256,letB (UInt8.ofNat n.val)=true->wsB (UInt8.ofNat n.val)=false/\UInt8.ofNat n.val≠47:=by decide+kernel
 have:=key ⟨c.toNat,c.toNat_lt⟩;rw[UInt8.ofNat_toNat]at this;exact this h
theorem two_cases {l:List UInt8} (h:two.contains l=true):l=[61,61]\/l=[33,61]\/l=[60,61]\/l=[62,61]\/l=[38,38]\/l=[124,124]:=by
 have:=List.contains_iff_mem.1 h;simpa[two]using this
theorem ones_cases {c:UInt8} (h:ones.contains c=true):c=40\/c=41\/c=123\/c=125\/c=91\/c=93\/c=44\/c=59\/c=61\/c=43\/c=45\/c=42\/c=47\/c=37\/c=60\/c=62\/c=33:=by
 have:=List.contains_iff_mem.1 h;simpa[ones]using this
end Go.Proofs.YtelplgkppalmfaaGreatDoor
namespace Go.Proofs.YtelplgkppalmfaaGreatDoor
open Go.Proofs.Tryz
abbrev K3:=Int×List UInt8×Int
def Lx (l:List UInt8) (ks:List K3):Prop:= ∀f a,l.length<f-> ∃us,toksF f l a= .ok us/\us.map (fun t=>(t.k,t.t,t.v))=ks
theorem lx_nil:Lx [] []:=fun f a _=>⟨[],by cases f<;>rfl,rfl⟩
theorem lx_ws {c:UInt8} {l:List UInt8} {ks:List K3} (hc:wsB c=true) (h:Lx l ks):Lx (c::l) ks:=fun f a hf=>by
 cases f with
 |zero=>simp at hf
 |succ f=>
  obtain⟨us,h1,h2⟩:=h (f+1) (a+1) (by simp only[List.length_cons]at hf;omega);refine⟨us,?_,h2⟩;rw[<-h1];have hs:skipC false (c::l)=skipC false l+1:=by simp[skipC,hc]
  simp only[toksF,hs,List.drop_succ_cons];rw[show a+(skipC false l+1)=a+1+skipC false l from by omega]
theorem lx_tok {m y:List UInt8} {k v:Int} {t:List UInt8} {ks:List K3} (ht:tokT (m++y)= .ok ((k,t,v),m.length)) (hm:m≠ []) (hs:skipC false (m++y)=0) (h:Lx y ks):Lx (m++y) ((k,t,v)::ks):=fun f a hf=>by
 cases f with
 |zero=>simp at hf
 |succ f=>
  have hl:0<m.length:=List.length_pos_iff.2 hm;obtain⟨us,h1,h2⟩:=h f (a+m.length) (by simp only[List.length_append]at hf;omega);obtain⟨c,r,hcr⟩: ∃c r,m++y=c::r:=by
   cases m with
   |nil=>exact absurd rfl hm
   |cons c r=>exact⟨c,r++y,rfl⟩
  refine⟨⟨k,t,v,(a:Nat)⟩::us,?_,by rw[List.map_cons,h2]⟩;have hd:(m++y).drop m.length=y:=List.drop_left;rw[hcr]at ht hs hd⊢;simp only[toksF,hs,List.drop_zero,ht,Nat.add_zero,hd,h1]
def Bd (y:List UInt8):Prop:= ∀c,y.head? =some c->prtB c=false
theorem bd_dig {c:UInt8} (h:prtB c=false):digB c=false/\letB c=false:=by
 unfold prtB at h;simp only[Bool.or_eq_false_iff]at h;exact⟨h.1.2,h.1.1⟩
theorem spanN_bd (p:UInt8->Bool) (y:List UInt8) (hs: ∀c,y.head? =some c->p c=false): ∀l:List UInt8,l.all p=true->spanN p (l++y)=l.length
 | [],_=>by
  cases y with
  |nil=>rfl
  |cons c r=>simp[spanN,hs c rfl]
 |c::l,h=>by
  simp only[List.all_cons,Bool.and_eq_true]at h;rw[List.cons_append,spanN_one h.1,spanN_bd p y hs l h.2];rfl
theorem lx_word {w y:List UInt8} {ks:List K3} (h1:w.all prtB=true) (h2:w.head?.any letB=true) (h3:kwB w=true\/w.length<=14) (hy:Bd y) (h:Lx y ks):Lx (w++y) ((if kwB w then 2 else 1,w,0)::ks):=by
 cases w with
 |nil=>cases h2
 |cons c r=>
  have hc:letB c=true:=h2;have hs:=spanN_bd prtB y hy (c::r) h1;obtain⟨q1,q2⟩:=let_not hc;refine lx_tok ?_ (by simp) (skip_char q1 (fun e=>q2 e.1)) h;rw[List.cons_append]at hs⊢;simp only[tokT];rw[if_pos hc];unfold wordT;rw[hs,<-List.cons_append,List.take_left]
  cases hk:kwB (c::r)with
  |true=>simp
  |false=>
   have: ¬14<(c::r).length:=by
    rcases h3 with h3|h3
    ·rw[hk]at h3;cases h3
    ·omega
   rw[if_neg (by simp),if_neg this];simp
theorem lx_num {n:Nat} {y:List UInt8} {ks:List K3} (hn:n<=2147483647) (hy:Bd y) (h:Lx y ks):Lx (decL n++y) ((3,[],(n:Int))::ks):=by
 obtain⟨h1,h2,h3,_,_⟩:=decL_spec (n+1) n (by omega);have hl:=decL_length 9 n (by omega);have ho:=decL_one n;generalize decL n=l at*
 cases l with
 |nil=>exact absurd rfl h2
 |cons c r=>
  have hs:=spanN_bd digB y (fun d hd=>(bd_dig (hy d hd)).1) (c::r) h1;simp only[List.all_cons,Bool.and_eq_true]at h1;obtain⟨q1,q2,q3,q4,q5⟩:=dig_not_let h1.1;refine lx_tok ?_ (by simp) (skip_char q4 (fun e=>q5 e.1)) h;rw[List.cons_append]at hs⊢;simp only[tokT];rw[if_neg (by simp[q1]),if_pos h1.1];unfold numT;rw[hs,<-List.cons_append,List.drop_left,List.take_left,h3,if_neg,if_neg]
  ·rintro(g|⟨g1,g2⟩|g)
   ·omega
   ·exact ho g1 g2
   ·omega
  ·cases y with
   |nil=>simp
   |cons d z=>simpa using hy d rfl
theorem lx_quote {t y:List UInt8} {ks:List K3} (ht:t.all okC=true) (hl:t.length<=128) (h:Lx y ks):Lx (quoteL t++y) ((4,t,0)::ks):=
 lx_tok (tokT_quote t y ht hl) (by simp[quoteL]) (by unfold quoteL;exact skip_char (by decide) (fun e=>absurd e.1 (by decide))) h
theorem lx_toks {l:List UInt8} {ks:List K3} (h:Lx l ks) (hl:l.length<=4000): ∃us,toksR l=(us,0,0)/\us.map (fun t=>(t.k,t.t,t.v))=ks:=by
 obtain⟨us,h1,h2⟩:=h (l.length+1) 0 (by omega);exact⟨us,by unfold toksR toks;rw[if_neg (by omega),h1],h2⟩
end Go.Proofs.YtelplgkppalmfaaGreatDoor
namespace Go.Proofs.YtelplgkppalmfaaGreatDoor
open Go.Proofs.Tryz
end Go.Proofs.YtelplgkppalmfaaGreatDoor
namespace Go.Proofs.YtelplgkppalmfaaGreatDoor
open Go.Proofs.Tryz
end Go.Proofs.YtelplgkppalmfaaGreatDoor
namespace Go.Proofs.YtelplgkppalmfaaGreatDoor
open Go.Proofs.Tryz
end Go.Proofs.YtelplgkppalmfaaGreatDoor
namespace Go.Proofs.YtelplgkppalmfaaGreatDoor
open Go.Proofs.Tryz
def Is (l:List Tok) (ks:List K3):Prop:=l.map (fun t=>(t.k,t.t,t.v))=ks
def Stop (p:Int) (ks:List K3):Prop:= ∃t v r,ks=(5,t,v)::r/\t≠ [91]/\t≠ [40]/\lev t<=p
end Go.Proofs.YtelplgkppalmfaaGreatDoor
namespace Go.Proofs.YtelplgkppalmfaaGreatDoor
open Go.Proofs.Tryz
end Go.Proofs.YtelplgkppalmfaaGreatDoor
namespace Go.Proofs.YtelplgkppalmfaaGreatDoor
open Go.Proofs.Tryz
end Go.Proofs.YtelplgkppalmfaaGreatDoor
namespace Go.Proofs.YtelplgkppalmfaaGreatDoor
open Go.Proofs.Tryz
end Go.Proofs.YtelplgkppalmfaaGreatDoor
namespace Go.Proofs.YtelplgkppalmfaaGreatDoor
open Go.Proofs.Tryz
open Go.RowKit
abbrev RdPg (p:Pg) (wx:World) (v:Value):Prop:= ∀A n c B m d,v= .agg #[.slice A n c, .slice B m d]->RdV wx (fun _=>True) (.slice A n c) p.vs/\RdF wx (fun _=>True) (.slice B m d) p.fs
theorem RdPg.ext {p:Pg} {w w':World} {v:Value} (h:RdPg p w v) (hx:Ext w w'):RdPg p w' v:=fun A n c B m d e=>⟨(h A n c B m d e).1.keep (.of_ext hx) (fun _ hb _=>hb),(h A n c B m d e).2.keep (.of_ext hx) (fun _ hb _=>hb)⟩
theorem rdPg_mk {p:Pg} {w:World} {A B:Option Addr} {n c m d:Nat} (h1:RdV w (fun _=>True) (.slice A n c) p.vs) (h2:RdF w (fun _=>True) (.slice B m d) p.fs):RdPg p w (.agg #[.slice A n c, .slice B m d]):=fun A n c B m d e=>by
 injection e with e;simp only[Array.mk.injEq,List.cons.injEq,Value.slice.injEq,and_true]at e;obtain⟨⟨rfl,rfl,rfl⟩,rfl,rfl,rfl⟩:=e;exact⟨h1,h2⟩
abbrev IsPg (v:Value):Prop:= ∃A n c B m d,v= .agg #[.slice A n c, .slice B m d]
end Go.Proofs.YtelplgkppalmfaaGreatDoor
namespace Go.Proofs.YtelplgkppalmfaaGreatDoor
open Go.Proofs.Tryz
def Sm (l m:List Tok):Prop:=l.map (fun t=>(t.k,t.t,t.v))=m.map (fun t=>(t.k,t.t,t.v))
theorem Sm.hd {l m:List Tok} (h:Sm l m):(hdT l).k=(hdT m).k/\(hdT l).t=(hdT m).t/\(hdT l).v=(hdT m).v/\Sm l.tail m.tail:=by
 cases l with
 |nil=>
  cases m with
  |nil=>exact⟨rfl,rfl,rfl,rfl⟩
  |cons b s=>cases h
 |cons a r=>
  cases m with
  |nil=>cases h
  |cons b s=>
   injection h with h1 h2;injection h1 with a1 a2;injection a2 with a2 a3;exact⟨a1,a2,a3,h2⟩
theorem Sm.tl {l m:List Tok} (h:Sm l m):Sm l.tail m.tail:=h.hd.2.2.2
theorem Sm.is {l m:List Tok} (h:Sm l m) (s:List UInt8):isL s l=isL s m:=by
 unfold isL;rw[h.hd.1,h.hd.2.1]
theorem Sm.nil {l m:List Tok} (h:Sm l m):(l=[])=(m=[]):=by
 cases l<;>cases m<;>first|rfl|cases h|(apply propext;exact⟨fun e=>(by cases e),fun e=>(by cases e)⟩)
def SmR {α:Type} (x y:PR α):Prop:=match x,y with
 | .ok (a,r), .ok (b,q)=>a=b/\Sm r q
 | .error (r,e), .error (q,f)=>Sm r q/\e=f
 | _,_=>False
theorem SmR.then {α β:Type} {x y:PR α} {k k':α->List Tok->PR β} (h:SmR x y) (hk: ∀a r q,Sm r q->SmR (k a r) (k' a q)):SmR (x.then k) (y.then k'):=by
 match x,y,h with
 | .ok (a,r), .ok (b,q),h=>obtain⟨rfl,h⟩:=h;exact hk a r q h
 | .error (r,e), .error (q,f),h=>exact h
theorem SmR.ok {α:Type} {a:α} {r q:List Tok} (h:Sm r q):SmR (.ok (a,r)) (.ok (a,q)):=⟨rfl,h⟩
theorem SmR.err {α:Type} {e:Int} {r q:List Tok} (h:Sm r q):SmR (.error (r,e):PR α) (.error (q,e)):=⟨h,rfl⟩
theorem sm_want {l m:List Tok} (h:Sm l m) (s:List UInt8):SmR (wantL s l) (wantL s m):=by
 unfold wantL;rw[h.is];split
 ·exact .ok h.tl
 ·exact .err h
theorem sm_name {l m:List Tok} (h:Sm l m):SmR (nameL l) (nameL m):=by
 unfold nameL;rw[h.hd.1,h.hd.2.1];split
 ·exact .ok h.tl
 ·exact .err h
theorem sm_expr: ∀(f:Nat),
  (∀n l m,Sm l m->SmR (pExpr f n l) (pExpr f n m))/\(∀n y l m,Sm l m->SmR (pLoop f n y l) (pLoop f n y m))/\
  (∀l m,Sm l m->SmR (pPrim f l) (pPrim f m))/\(∀nm l m,Sm l m->SmR (pNamed f nm l) (pNamed f nm m))/\
  (∀l m,Sm l m->SmR (pArgs f l) (pArgs f m))/\(∀acc l m,Sm l m->SmR (pArgs1 f acc l) (pArgs1 f acc m))
 |0=>by
  refine⟨?_,?_,?_,?_,?_,?_⟩;all_goals (intros;rename_i h;simp only[pExpr,pLoop,pPrim,pNamed,pArgs,pArgs1];exact .err h)
 |f+1=>by
  obtain⟨iE,iL,iP,iN,iA,iB⟩:=sm_expr f;refine⟨?_,?_,?_,?_,?_,?_⟩
  ·intro n l m h;rw[pExpr,pExpr];exact(iP _ _ h).then fun a r q hr=>iL _ _ _ _ hr
  ·intro n y l m h;rw[pLoop,pLoop,h.hd.1,h.hd.2.1];split
   ·exact(iE _ _ _ h.tl).then fun a r q hr=>iL _ _ _ _ hr
   ·exact .ok h
  ·intro l m h;rw[pPrim,pPrim,h.hd.1,h.hd.2.1,h.hd.2.2.1,h.is,h.is];split
   ·exact .ok h.tl
   split
   ·exact .ok h.tl
   split
   ·exact iN _ _ _ h.tl
   split
   ·exact(iP _ _ h.tl).then fun a r q hr=> .ok hr
   ·exact(sm_want h _).then fun _ r q hr=>(iE _ _ _ hr).then fun x r q hr=>(sm_want hr _).then fun _ r q hr=> .ok hr
  ·intro nm l m h;rw[pNamed,pNamed,h.is,h.is];split
   ·exact(iE _ _ _ h.tl).then fun x r q hr=>(sm_want hr _).then fun _ r q hr=> .ok hr
   split
   ·exact(iA _ _ h.tl).then fun x r q hr=> .ok hr
   ·exact .ok h
  ·intro l m h;rw[pArgs,pArgs,h.is];split
   ·exact .ok h.tl
   ·exact iB _ _ _ h
  ·intro acc l m h;rw[pArgs1,pArgs1];refine(iE _ _ _ h).then fun x r q hr=> ?_;rw[hr.is];split
   ·exact .ok hr.tl
   ·exact(sm_want hr _).then fun _ r q hr=>iB _ _ _ hr
theorem sm_stmt: ∀(f:Nat),
  (∀l m,Sm l m->SmR (pBlock f l) (pBlock f m))/\(∀acc l m,Sm l m->SmR (pBlock1 f acc l) (pBlock1 f acc m))/\
  (∀l m,Sm l m->SmR (pIf f l) (pIf f m))/\(∀l m,Sm l m->SmR (pStmt f l) (pStmt f m))
 |0=>by
  refine⟨?_,?_,?_,?_⟩;all_goals (intros;rename_i h;simp only[pBlock,pBlock1,pIf,pStmt];exact .err h)
 |f+1=>by
  obtain⟨iB,iC,iI,iS⟩:=sm_stmt f;obtain⟨iE,_,_,iN,_,_⟩:=sm_expr f;refine⟨?_,?_,?_,?_⟩
  ·intro l m h;rw[pBlock,pBlock];exact(sm_want h _).then fun _ r q hr=>iC _ _ _ hr
  ·intro acc l m h;rw[pBlock1,pBlock1,h.is];split
   ·exact .ok h.tl
   ·exact(iS _ _ h).then fun x r q hr=>iC _ _ _ hr
  ·intro l m h;rw[pIf,pIf];refine(iE _ _ _ h).then fun x r q hr=>(iB _ _ hr).then fun b r q hr=> ?_;rw[hr.is,hr.tl.is];split
   ·split
    ·exact(iI _ _ hr.tl.tl).then fun s r q hr=> .ok hr
    ·exact(iB _ _ hr.tl).then fun s r q hr=> .ok hr
   ·exact .ok hr
  ·intro l m h;rw[pStmt,pStmt,h.is,h.is,h.is,h.is,h.tl.is];split
   ·exact iI _ _ h.tl
   split
   ·exact(iE _ _ _ h.tl).then fun x r q hr=>(iB _ _ hr).then fun b r q hr=> .ok hr
   split
   ·refine(sm_name h.tl).then fun nm r q hr=>SmR.then ?_ fun ex r q hr=>(sm_want hr _).then fun _ r q hr=> .ok hr;rw[hr.is];split
    ·exact(iE _ _ _ hr.tl).then fun x r q hr=> .ok hr
    ·exact .ok hr
   split
   ·refine SmR.then ?_ fun ex r q hr=>(sm_want hr _).then fun _ r q hr=> .ok hr;split
    ·exact .ok h.tl
    ·exact(iE _ _ _ h.tl).then fun x r q hr=> .ok hr
   ·refine(sm_name h).then fun nm r q hr=>SmR.then ?_ fun s r q hr=>(sm_want hr _).then fun _ r q hr=> .ok hr;rw[hr.is,hr.is];split
    ·exact(iN _ _ _ hr).then fun x r q hr=> .ok hr
    split
    ·exact(iE _ _ _ hr.tl).then fun i r q hr=>(sm_want hr _).then fun _ r q hr=>(sm_want hr _).then fun _ r q hr=>(iE _ _ _ hr).then fun x r q hr=> .ok hr
    ·exact(sm_want hr _).then fun _ r q hr=>(iE _ _ _ hr).then fun x r q hr=> .ok hr
theorem sm_var {l m:List Tok} (h:Sm l m):SmR (pVar l) (pVar m):=by
 unfold pVar;refine(sm_name h).then fun nm r q hr=>SmR.then ?_ fun s r q hr=>(sm_want hr _).then fun _ r q hr=> .ok hr;rw[hr.is,hr.tl.hd.1,hr.tl.hd.2.2.1];split
 ·split
  ·split
   ·exact .err hr.tl
   ·exact(sm_want hr.tl.tl _).then fun _ r q hr=> .ok hr
  ·exact .err hr.tl
 ·exact .ok hr
theorem sm_names1: ∀(f:Nat) acc (l m:List Tok),Sm l m->SmR (pNames1 f acc l) (pNames1 f acc m)
 |0,acc,l,m,h=> .err h
 |f+1,acc,l,m,h=>by
  rw[pNames1,pNames1];refine(sm_name h).then fun x r q hr=> ?_;rw[hr.is];split
  ·exact .ok hr.tl
  ·exact(sm_want hr _).then fun _ r q hr=>sm_names1 f _ _ _ hr
theorem sm_func (f:Nat) {l m:List Tok} (h:Sm l m):SmR (pFunc f l) (pFunc f m):=by
 unfold pFunc;refine(sm_name h).then fun nm r q hr=>(sm_want hr _).then fun _ r q hr=>SmR.then ?_ fun ps r q hr=>((sm_stmt f).1 _ _ hr).then fun b r q hr=> .ok hr;unfold pNames;rw[hr.is];split
 ·exact .ok hr.tl
 ·exact sm_names1 f _ _ _ hr
theorem sm_prog: ∀(f:Nat) p (l m:List Tok),Sm l m->SmR (pProg f p l) (pProg f p m)
 |0,p,l,m,h=> .err h
 |f+1,p,l,m,h=>by
  rw[pProg,pProg,h.is];simp only[h.nil];split
  ·exact .ok rfl
  split
  ·exact(sm_var h.tl).then fun v r q hr=>sm_prog f _ _ _ hr
  ·exact(sm_want h _).then fun _ r q hr=>(sm_func f hr).then fun c r q hr=>sm_prog f _ _ _ hr
theorem sm_par {s t:List UInt8} {ts us:List Tok} {a b:Int} (hs:toksR s=(ts,a,0)) (ht:toksR t=(us,b,0)) (h:Sm ts us):(parL t).1=(parL s).1/\(parL t).2.2=(parL s).2.2:=by
 have hl:ts.length=us.length:=by
  have:=congrArg List.length h;rwa [List.length_map,List.length_map]at this
 have hp:=sm_prog (4*us.length+8) noPg ts us h;unfold parL;rw[hs,ht];simp only[if_true];unfold parT;rw[hl];revert hp
 cases pProg (4*us.length+8) noPg ts with
 |error e=>
  obtain⟨q,e⟩:=e
  cases pProg (4*us.length+8) noPg us with
  |error e'=>obtain⟨q',e'⟩:=e';exact fun hp=>⟨rfl,hp.2.symm⟩
  |ok e'=>exact fun hp=>hp.elim
 |ok e=>
  obtain⟨q,e⟩:=e
  cases pProg (4*us.length+8) noPg us with
  |error e'=>exact fun hp=>hp.elim
  |ok e'=>
   obtain⟨q',e'⟩:=e';intro hp;obtain⟨rfl,_⟩:=hp;show(if okPg q then _ else _:Pg×Int×Int).1=(if okPg q then _ else _:Pg×Int×Int).1/\ _;split<;>exact⟨rfl,rfl⟩
end Go.Proofs.YtelplgkppalmfaaGreatDoor
namespace Go.Proofs.YtelplgkppalmfaaGreatDoor
open Go.Proofs.Tryz
def writeT (t:Tok):List UInt8:=if t.k=3 then decL t.v.toNat else if t.k=4 then quoteL t.t else t.t
def wfT (t:Tok):Prop:=
 (t.k=1/\t.t.all prtB=true/\t.t.head?.any letB=true/\t.t.length<=14/\kwB t.t=false/\t.v=0)\/
 (t.k=2/\kwB t.t=true/\t.v=0)\/
 (t.k=3/\t.t=[]/\0<=t.v/\t.v<=2147483647)\/
 (t.k=4/\t.t.all okC=true/\t.t.length<=128/\t.v=0)\/
 (t.k=5/\t.v=0/\(two.contains t.t=true\/ ∃c,t.t=[c]/\ones.contains c=true))
theorem spanN_allB (p:UInt8->Bool): ∀l:List UInt8,(l.take (spanN p l)).all p=true
 | []=>rfl
 |c::l=>by
  simp only[spanN];split
  ·rename_i h;rw[List.take_succ_cons,List.all_cons,h,spanN_allB p l];rfl
  ·rfl
theorem escV_ok {c v:UInt8} (h:escV c=some v):okC v=true:=by
 unfold escV at h
 (repeat' split at h)<;>first|(cases h;decide)|cases h
theorem elem_ok {m:List UInt8} (h:(elemL m).2≠0):okC (elemL m).1=true:=by
 match m with
 | []=>exact absurd rfl h
 |c::r=>
  simp only[elemL]at h⊢;split
  ·rename_i q;rw[if_pos q]at h;exact absurd rfl h
  ·rename_i q;rw[if_neg q]at h;split
   ·simp[okC];left;left;left;omega
   ·rename_i q2;rw[if_neg q2]at h
    match r with
    | []=>exact absurd rfl h
    |d::s=>
     simp only at h⊢
     cases hv:escV d with
     |none=>rw[hv]at h;exact absurd rfl h
     |some v=>exact escV_ok hv
theorem litL_ok: ∀(N:Nat) (m t:List UInt8) (n:Nat),m.length<=N->litL m=some (t,n)->t.all okC=true
 |N,[],t,n,_,h=>by cases h
 |0,c::r,t,n,hN,_=>by simp at hN
 |N+1,c::r,t,n,hN,h=>by
  by_cases h34:c=34
  ·subst h34;rw[litL_end]at h;cases h;rfl
  ·by_cases h0:(elemL (c::r)).2=0
   ·rw[litL_bad h34 h0]at h;cases h
   ·rw[litL_step h34 h0]at h;obtain⟨⟨t',n'⟩,h1,h2⟩:=Option.map_eq_some_iff.1 h
    cases h2;have:=litL_ok N _ t' n' (by rw[List.length_drop];simp only[List.length_cons]at hN⊢;omega) h1;simp only[List.all_cons,elem_ok h0,this,Bool.and_self]
theorem tokT_wf {l:List UInt8} {k v:Int} {t:List UInt8} {n:Nat} (f:Int) (h:tokT l= .ok ((k,t,v),n)):wfT ⟨k,t,v,f⟩:=by
 cases l with
 |nil=>cases h
 |cons c r=>
  simp only[tokT]at h;split at h
  ·rename_i hc;have hp:prtB c=true:=by simp[prtB,hc]
   unfold wordT at h;split at h
   ·rename_i hk;cases h;exact .inr (.inl ⟨rfl,hk,rfl⟩)
   ·rename_i hk;split at h
    ·cases h
    ·rename_i h14
     cases h;refine .inl ⟨rfl,spanN_allB _ _,?_,?_,by simpa using hk,rfl⟩
     ·rw[spanN_one hp,List.take_succ_cons];exact hc
     ·rw[List.length_take];omega
  ·split at h
   ·unfold numT at h;split at h
    ·cases h
    ·split at h
     ·cases h
     ·rename_i hb
      cases h;exact .inr (.inr (.inl ⟨rfl,rfl,by simp only;omega,by simp only;omega⟩))
   ·split at h
    ·unfold charT at h;split at h
     ·cases h
     ·cases h;refine .inr (.inr (.inl ⟨rfl,rfl,by simp only;omega,?_⟩));have:=(elemL ((c::r).drop 1)).1.toNat_lt;simp only;omega
    ·split at h
     ·unfold textT at h;split at h
      ·cases h
      ·rename_i t' n' ht;split at h
       ·cases h
       ·cases h;exact .inr (.inr (.inr (.inl ⟨rfl,litL_ok _ _ _ _ (Nat.le_refl _) ht,by simp only;omega,rfl⟩)))
     ·unfold markT at h;split at h
      ·rename_i h2;cases h;exact .inr (.inr (.inr (.inr ⟨rfl,rfl, .inl h2⟩)))
      ·split at h
       ·rename_i h1;cases h;exact .inr (.inr (.inr (.inr ⟨rfl,rfl, .inr ⟨c,rfl,h1⟩⟩)))
       ·cases h
theorem toksF_wf: ∀(f:Nat) (m:List UInt8) (a:Nat) (ts:List Tok),toksF f m a= .ok ts-> ∀t∈ts,wfT t
 |0,m,a,ts,h=>by cases h;simp
 |f+1,m,a,ts,h=>by
  simp only[toksF]at h;split at h
  ·cases h;simp
  ·split at h
   ·cases h
   ·rename_i k t v n ht;split at h
    ·cases h
    ·rename_i us hu
     cases h;intro x hx;rcases List.mem_cons.1 hx with rfl|hx
     ·exact tokT_wf _ ht
     ·exact toksF_wf f _ _ us hu x hx
theorem kw_word {l:List UInt8} (h:kwB l=true):l.all prtB=true/\l.head?.any letB=true:=by
 rcases kw_cases h with rfl|rfl|rfl|rfl|rfl|rfl<;>decide
theorem quoteL_length (l:List UInt8):(quoteL l).length<=2*l.length+2:=by have:=qescL_length l;simp[quoteL];omega
theorem writeT_length {t:Tok} (h:wfT t):(writeT t).length<=300:=by
 obtain⟨k,t,v,f⟩:=t;rcases h with⟨rfl,h1,h2,h3,h4,rfl⟩|⟨rfl,h1,rfl⟩|⟨rfl,rfl,h1,h2⟩|⟨rfl,h1,h2,rfl⟩|⟨rfl,rfl,h1⟩
 ·show t.length<=300;simp only at h3;omega
 ·show t.length<=300;rcases kw_cases h1 with h|h|h|h|h|h<;>(simp only at h;subst h;decide)
 ·show(decL v.toNat).length<=300;simp only at h1 h2;have:=decL_length 9 v.toNat (by omega);omega
 ·show(quoteL t).length<=300;have:=quoteL_length t;simp only at h2;omega
 ·show t.length<=300;rcases h1 with h1|⟨c,h1,_⟩
  ·rcases two_cases h1 with h|h|h|h|h|h<;>(simp only at h;subst h;decide)
  ·simp only at h1;subst h1;simp
theorem ws_cases {c:UInt8} (h:wsB c=true):c=32\/c=9\/c=10\/c=13:=by
 unfold wsB at h;simp only[Bool.or_eq_true,beq_iff_eq]at h;rcases h with((h|h)|h)|h<;>simp[h]
theorem ws_bd {c:UInt8} (h:wsB c=true) (y:List UInt8):Bd (c::y):=fun d hd=>by
 injection hd with hd;subst hd;rcases ws_cases h with rfl|rfl|rfl|rfl<;>decide
theorem lx_write {t:Tok} (ht:wfT t) {c:UInt8} (hc:wsB c=true) {y:List UInt8} {ks:List K3} (h:Lx (c::y) ks):Lx (writeT t++c::y) ((t.k,t.t,t.v)::ks):=by
 obtain⟨k,t,v,f⟩:=t;have hb:=ws_bd hc y;rcases ht with⟨rfl,h1,h2,h3,h4,rfl⟩|⟨rfl,h1,rfl⟩|⟨rfl,rfl,h1,h2⟩|⟨rfl,h1,h2,rfl⟩|⟨rfl,rfl,h1⟩
 ·have:=lx_word h1 h2 (.inr h3) hb h;simp only at h4;rwa [h4]at this
 ·simp only at h1;obtain⟨w1,w2⟩:=kw_word h1;have:=lx_word w1 w2 (.inl h1) hb h;rwa [h1]at this
 ·simp only at h1 h2;obtain⟨n,rfl⟩:=Int.eq_ofNat_of_zero_le h1;have h3:(n:Int)<=2147483647:=h2;have h4:n<=2147483647:=by clear h2;omega
  exact lx_num h4 hb h
 ·exact lx_quote h1 h2 h
 ·simp only at h1;show Lx (t++c::y) ((5,t,0)::ks);rcases h1 with h1|⟨d,rfl,h1⟩
  ·rcases two_cases h1 with rfl|rfl|rfl|rfl|rfl|rfl<;>rcases ws_cases hc with rfl|rfl|rfl|rfl<;>exact lx_tok rfl (by simp) rfl h
  ·rcases ones_cases h1 with rfl|rfl|rfl|rfl|rfl|rfl|rfl|rfl|rfl|rfl|rfl|rfl|rfl|rfl|rfl|rfl|rfl<;>rcases ws_cases hc with rfl|rfl|rfl|rfl<;>exact lx_tok rfl (by simp) rfl h
def gapA:List (List UInt8):=[[32],[10],[9],[32,47,47,32,120,32,41,32,125,10],[13,10]]
def Gap (g:List UInt8):Prop:=g.length<=10/\(∃c r,g=c::r/\wsB c=true)/\ ∀y ks,Lx y ks->Lx (g++y) ks
theorem gap_sp:Gap [32]:=⟨by decide,⟨_,_,rfl,by decide⟩,fun y ks h=>lx_ws (by decide) h⟩
theorem lx_note {y:List UInt8} {ks:List K3} (h:Lx y ks):Lx (47::47::32::120::32::41::32::125::10::y) ks:=fun f a hf=>by
 cases f with
 |zero=>simp at hf
 |succ f=>
  obtain⟨us,h1,h2⟩:=h (f+1) (a+9) (by simp only[List.length_cons]at hf;omega);refine⟨us,?_,h2⟩;rw[<-h1];have hs:skipC false (47::47::32::120::32::41::32::125::10::y)=skipC false y+9:=by simp[skipC,wsB]
  simp only[toksF,hs,List.drop_succ_cons];rw[show a+(skipC false y+9)=a+9+skipC false y from by omega]
theorem gap_all {g:List UInt8} (h:g∈gapA):Gap g:=by
 simp only[gapA,List.mem_cons,List.not_mem_nil,or_false]at h;rcases h with rfl|rfl|rfl|rfl|rfl
 ·exact gap_sp
 ·exact⟨by decide,⟨_,_,rfl,by decide⟩,fun y ks h=>lx_ws (by decide) h⟩
 ·exact⟨by decide,⟨_,_,rfl,by decide⟩,fun y ks h=>lx_ws (by decide) h⟩
 ·exact⟨by decide,⟨_,_,rfl,by decide⟩,fun y ks h=>lx_ws (c:=32) (by decide) (lx_note h)⟩
 ·exact⟨by decide,⟨_,_,rfl,by decide⟩,fun y ks h=>lx_ws (c:=13) (by decide) (lx_ws (c:=10) (by decide) h)⟩
def wrG (g:Nat->List UInt8):Nat->List Tok->List UInt8
 | _,[]=>[]
 |i,t::r=>g i++(writeT t++wrG g (i+1) r)
theorem wrG_app (g:Nat->List UInt8): ∀(a b:List Tok) (i:Nat),wrG g i (a++b)=wrG g i a++wrG g (i+a.length) b
 | [],b,i=>rfl
 |t::r,b,i=>by
  simp only[List.cons_append,wrG,wrG_app g r b,List.append_assoc,List.length_cons];rw[show i+1+r.length=i+(r.length+1) by omega]
theorem wrG_take (g:Nat->List UInt8) {ts:List Tok} {j:Nat} (h:j<ts.length):wrG g 0 (ts.take (j+1))=wrG g 0 (ts.take j)++(g j++writeT ts[j]):=by
 rw[List.take_succ_eq_append_getElem h,wrG_app,List.length_take,Nat.zero_add,Nat.min_eq_left (by omega)];simp[wrG]
theorem wrG_length (g:Nat->List UInt8) (hg: ∀i,Gap (g i)): ∀(ts:List Tok) (i:Nat),(∀t∈ts,wfT t)->(wrG g i ts).length<=310*ts.length
 | [],i,_=>by simp[wrG]
 |t::r,i,h=>by
  have h1:=wrG_length g hg r (i+1) (fun x hx=>h x (List.mem_cons_of_mem _ hx));have h2:=writeT_length (h t (List.mem_cons_self ..));have h3:=(hg i).1;simp only[wrG,List.length_append,List.length_cons];omega
theorem lx_wrG (g:Nat->List UInt8) (hg: ∀i,Gap (g i)): ∀(ts:List Tok) (i:Nat),(∀t∈ts,wfT t)->(∃c r,wrG g i ts++[10]=c::r/\wsB c=true)/\Lx (wrG g i ts++[10]) (ts.map (fun t=>(t.k,t.t,t.v)))
 | [],i,_=>⟨⟨10,[],rfl,by decide⟩,lx_ws (c:=10) (by decide) lx_nil⟩
 |t::r,i,h=>by
  obtain⟨⟨c,q,e,hc⟩,h1⟩:=lx_wrG g hg r (i+1) (fun x hx=>h x (List.mem_cons_of_mem _ hx));have e2:wrG g i (t::r)++[10]=g i++(writeT t++c::q):=by rw[<-e];simp only[wrG,List.append_assoc]
  rw[e]at h1;rw[e2];refine⟨?_,(hg i).2.2 _ _ (lx_write (h t (List.mem_cons_self ..)) hc h1)⟩;obtain⟨d,s,ed,hd⟩:=(hg i).2.1;exact⟨d,s++(writeT t++c::q),by rw[ed];rfl,hd⟩
theorem blanks_par {s:List UInt8} {ts:List Tok} {a:Int} (hs:toksR s=(ts,a,0)) (g:Nat->List UInt8) (hg: ∀i,Gap (g i)) (hl:(wrG g 0 ts++[10]).length<=4000):
  (parL (wrG g 0 ts++[10])).1=(parL s).1/\(parL (wrG g 0 ts++[10])).2.2=(parL s).2.2:=by
 have hw: ∀t∈ts,wfT t:=by
  unfold toksR at hs;split at hs
  ·injection hs with h1 h2;injection h2 with h2 h3;exact absurd h3 (by decide)
  ·split at hs
   ·rename_i us hu;injection hs with h1 h2;subst h1;exact toksF_wf _ _ _ _ hu
   ·injection hs with h1 h2;subst h1;simp
 obtain⟨us,h1,h2⟩:=lx_toks (lx_wrG g hg ts 0 hw).2 hl;exact sm_par hs h1 h2.symm
end Go.Proofs.YtelplgkppalmfaaGreatDoor
namespace Go.Proofs.YtelplgkppalmfaaGreatDoor
open Go.Proofs.Tryz
open Go.RowKit
theorem rwrite_any (t:Tok) (ht:wfT t) (w:World):Calls prog 26 #[.agg #[.int .i64 t.k, .string (str t.t), .int .i64 t.v, .int .i64 t.f]] w fun e w'=>e= .returned (.string (str (writeT t)))/\Ext w w':=by
 obtain⟨k,t,v,f⟩:=t;simp only;by_cases h3:k=3
 ·subst h3;rcases ht with⟨h,_⟩|⟨h,_⟩|⟨_,h0,h1,h2⟩|⟨h,_⟩|⟨h,_⟩
  ·simp only at h;omega
  ·simp only at h;omega
  ·simp only at h0 h1 h2;obtain⟨n,rfl⟩:=Int.eq_ofNat_of_zero_le h1;have HR:=hide (show writeT ⟨3,t,(n:Int),f⟩=decL n from rfl);have HD:=hide (fun w=>rdigits_any 9 n w (by omega) (by omega));generalize decL n=x at*;clear h0 h1 h2;go_enter func26,ntmps26;go_wp2_with (go_at_call 56;refine(HD.out _).mono ?_;rintro e w' ⟨rfl,rfl⟩);go_ret;exact⟨by rw[HR.out];rfl,Ext.alloc w _⟩
  ·simp only at h;omega
  ·simp only at h;omega
 ·have hb3:(k==3)=false:=by simp[h3]
  by_cases h4:k=4
  ·subst h4;rcases ht with⟨h,_⟩|⟨h,_⟩|⟨h,_⟩|⟨_,h0,h1,h2⟩|⟨h,_⟩
   ·simp only at h;omega
   ·simp only at h;omega
   ·simp only at h;omega
   ·simp only at h0 h1 h2;have HR:=hide (show writeT ⟨4,t,v,f⟩=quoteL t from rfl);have HD:=hide (fun w=>rquote_any t (by omega) w);generalize quoteL t=x at*;clear h0 h1 h2 h3;go_enter func26,ntmps26;go_wp2_with (go_at_call 57;refine(HD.out _).mono ?_;rintro e w1 ⟨rfl,hE⟩;have HE:=hide ((Ext.alloc w _).trans hE);clear hE);go_ret;exact⟨by rw[HR.out];rfl,HE.out⟩
   ·simp only at h;omega
  ·have hb4:(k==4)=false:=by simp[h4]
   have HR:=hide (show writeT ⟨k,t,v,f⟩=t by unfold writeT;rw[if_neg h3,if_neg h4]);clear h3 h4 ht;go_enter func26,ntmps26;go_wp2_with fail;go_ret;exact⟨by rw[HR.out];rfl,Ext.alloc w _⟩
end Go.Proofs.YtelplgkppalmfaaGreatDoor
namespace Go.Proofs.YtelplgkppalmfaaGreatDoor
open Go.Proofs.Tryz
open Go.RowKit
def gapL (gs:List UInt8) (i:Nat):List UInt8:=if gs=[]then[32]else gapA.getD ((gs.getD (i%gs.length) 0).toNat%5) []
theorem gapA_mem {k:Nat} (h:k<5):gapA.getD k []∈gapA:=by
 rcases(by omega:k=0\/k=1\/k=2\/k=3\/k=4)with rfl|rfl|rfl|rfl|rfl<;>decide
theorem gapL_gap (gs:List UInt8) (i:Nat):Gap (gapL gs i):=by
 unfold gapL;split
 ·exact gap_sp
 ·exact gap_all (gapA_mem (Nat.mod_lt _ (by decide)))
def gapC:Array Value:= #[.string ⟨#[32]⟩, .string ⟨#[10]⟩, .string ⟨#[9]⟩, .string ⟨#[32,47,47,32,120,32,41,32,125,10]⟩, .string ⟨#[13,10]⟩]
theorem gapC_at {k:Nat} (h:k<5):gapC[k]? =some (.string (str (gapA.getD k []))):=by
 rcases(by omega:k=0\/k=1\/k=2\/k=3\/k=4)with rfl|rfl|rfl|rfl|rfl<;>rfl
theorem tmod_nat (a b:Nat):((a:Int).tmod (b:Int))=((a%b:Nat):Int):=by
 rw[Int.tmod_eq_emod_of_nonneg (by omega)];rfl
theorem tmod_5 (a:Nat):((a:Int).tmod 5)=((a%5:Nat):Int):=tmod_nat a 5
theorem bl_law (s gs:List UInt8) (A:Option Addr) (cap:Nat) (w:World) (hs:Sl w A cap gs) (hz:EZ w) (ht:TabW w w.heap.size):
  Calls prog 7 #[.string (str s), .slice A gs.length cap] w fun e w'=>e= .returned (.bool true)/\Ext w w':=by
 have hsz:(str s).size=s.length:=str_size s;have HAW:=hide (awake_any w hz ht);by_cases hl:(1000:Int)<s.length
 ·go_enter func7,ntmps7;go_wp2_with (go_at_call 9;refine HAW.out.mono ?_;rintro e w1 ⟨rfl,hE⟩;have HX:=hide hE;clear hE HAW);go_ret;exact⟨rfl,HX.out⟩
 by_cases hg:(40:Int)<gs.length
 ·go_enter func7,ntmps7;go_wp2_with (go_at_call 9;refine HAW.out.mono ?_;rintro e w1 ⟨rfl,hE⟩;have HX:=hide hE;clear hE HAW);go_ret;exact⟨rfl,HX.out⟩
 obtain⟨⟨ts,at_,er⟩,hR⟩: ∃R,toksR s=R:=⟨_,rfl⟩
 have HTK:=hide (show ∀W,Calls prog 25 #[.string (str s)] W (fun e w'=> ∃A c,e= .returned (.tuple #[.slice A ts.length c, .int .i64 at_, .int .i64 er])/\OwnT w' W.heap.size 62 (.slice A ts.length c) ts/\Ext W w')from
  fun W=>by
   have:=rtokens_any s (by omega) W;rw[hR]at this
   exact this.mono (fun e w' ⟨⟨A,c,h1,h2⟩,h3⟩=>⟨A,c,h1,h2,h3⟩))
 have HPa:=hide (fun(W:World) (h:Ext w W)=>parse_any s W (hz.ext h) (tabw_ext ht h));have HW:=hide (parL_w s);obtain⟨⟨p,a2,en⟩,hr⟩: ∃r,parL s=r:=⟨_,rfl⟩
 have hen0:er≠0->en≠0:=fun h=>by
  unfold parL at hr;rw[hR,if_neg h]at hr;injection hr with _ h2;injection h2 with _ h3;rw[<-h3];exact h
 rw[hr]at HPa HW;by_cases hen:en=0
 rotate_left
 ·have he1:(en !=0)=true:=by simpa using hen
  have he0:(en==0)=false:=beq_eq_false_iff_ne.2 hen;by_cases her:er=0
  ·subst her;clear hR hr hen hen0 HW hz ht hs;go_enter func7,ntmps7
   go_wp2_with (first
    |(go_at_call 9;refine HAW.out.mono ?_;rintro e w1 ⟨rfl,hE⟩;have HX:=hide hE;clear hE HAW)
    |(go_at_call 25;refine(HTK.out _).mono ?_;rintro e w2 ⟨A1,c1,rfl,hO,hE⟩;have HX2:=hide (HX.out.trans hE);clear hE hO HX HTK)
    |(go_at_call 10;refine(HPa.out _ HX2.out).mono ?_;rintro e w3 ⟨hE,B,m,d,B2,m2,d2,rfl,hV,hF⟩;have HX3:=hide ((HX2.out.trans hE).alloc' (.cells #[.slice B m d, .slice B2 m2 d2] 26));clear hE hV hF HPa HX2))
   go_ret;exact⟨rfl,HX3.out⟩
  ·have hr1:(er !=0)=true:=by simpa using her
   have hr0:(er==0)=false:=beq_eq_false_iff_ne.2 her;clear hR hr hen hen0 HW hz ht hs her;go_enter func7,ntmps7
   go_wp2_with (first
    |(go_at_call 9;refine HAW.out.mono ?_;rintro e w1 ⟨rfl,hE⟩;have HX:=hide hE;clear hE HAW)
    |(go_at_call 25;refine(HTK.out _).mono ?_;rintro e w2 ⟨A1,c1,rfl,hO,hE⟩;have HX2:=hide (HX.out.trans hE);clear hE hO HX HTK)
    |(go_at_call 10;refine(HPa.out _ HX2.out).mono ?_;rintro e w3 ⟨hE,B,m,d,B2,m2,d2,rfl,hV,hF⟩;have HX3:=hide ((HX2.out.trans hE).alloc' (.cells #[.slice B m d, .slice B2 m2 d2] 26));clear hE hV hF HPa HX2))
   go_ret;exact⟨rfl,HX3.out⟩
 subst hen;obtain rfl:er=0:=Classical.byContradiction fun h=>hen0 h rfl;have HW:=hide (show pgW p<=12000 from HW.out);have hwf: ∀t∈ts,wfT t:=by
  unfold toksR at hR;split at hR
  ·injection hR with h1 h2;injection h2 with h2 h3;exact absurd h3 (by decide)
  ·split at hR
   ·rename_i us hu;injection hR with h1 h2;subst h1;exact toksF_wf _ _ _ _ hu
   ·injection hR with h1 h2;subst h1;simp
 have htl:ts.length<=4000:=by have:=(toksR_w s).1;rw[hR]at this;exact this
 have HWF:=hide hwf;have HBP:=hide (fun(h:(wrG (gapL gs) 0 ts++[10]).length<=4000)=>blanks_par hR (gapL gs) (gapL_gap gs) h);rw[hr]at HBP;have HPb:=hide (fun(W:World) (h:Ext w W)=>parse_any (wrG (gapL gs) 0 ts++[10]) W (hz.ext h) (tabw_ext ht h));have HTh:=hide (fun(W:World) (A B:Option Addr) (n c m d:Nat) (h1:RdV W (fun _=>True) (.slice A n c) p.vs) (h2:RdF W (fun _=>True) (.slice B m d) p.fs)=>theirs_w (p:=p) (by have:=HW.out;omega) h1 h2)
 have HEq:=hide (show ∀(W:World) (A B A' B':Option Addr) (n c m d n' c' m' d':Nat),RdV W (fun _=>True) (.slice A n c) p.vs->RdF W (fun _=>True) (.slice B m d) p.fs->RdV W (fun _=>True) (.slice A' n' c') p.vs->RdF W (fun _=>True) (.slice B' m' d') p.fs->Calls prog 12 #[.agg #[.slice A n c, .slice B m d], .agg #[.slice A' n' c', .slice B' m' d']] W fun e w'=>e= .returned (.bool true)/\Ext W w' from
  fun W A B A' B' n c m d n' c' m' d' h1 h2 h3 h4=>by
   have:=requal_any p p _ W A B A' B' n c m d n' c' m' d' h1 h2 h3 h4
   rwa [eqPg_self]at this)
 have HS:=hide hs;obtain⟨n,hn⟩: ∃n,ts.length=n:=⟨_,rfl⟩
 rw[hn]at HTK htl;have HN:=hide hn;clear hR hr hen0 HW hwf hz ht hs hn;go_enter func7,ntmps7
 go_wp2_with (first
  |(go_at_call 9;refine HAW.out.mono ?_;rintro e w1 ⟨rfl,hE⟩;have HX:=hide hE;clear hE HAW)
  |(go_at_call 25;refine(HTK.out _).mono ?_;rintro e w2 ⟨A1,c1,rfl,hO,hE⟩;have HX2:=hide (HX.out.trans hE);have HK2:=hide hO;clear hE hO HX HTK)
  |(go_at_call 10;refine(HPa.out _ HX2.out).mono ?_;rintro e w3 ⟨hE,B,m,d,B2,m2,d2,rfl,hV,hF⟩;have hE3:=hE.alloc' (.cells #[.slice B m d, .slice B2 m2 d2] 26);have HB3:=hide (Blk.new w3 26 #[.slice B m d, .slice B2 m2 d2]);have HV3:=hide (hV.keep (.of_ext (Ext.alloc w3 (.cells #[.slice B m d, .slice B2 m2 d2] 26))) (Q:=fun _=>True) (fun _ _ _=>trivial));have HF3:=hide (hF.keep (.of_ext (Ext.alloc w3 (.cells #[.slice B m d, .slice B2 m2 d2] 26))) (Q:=fun _=>True) (fun _ _ _=>trivial));have HX3:=hide (HX2.out.trans hE3);have HK3:=hide ((HK2.out.tks.2).ext hE3);clear hE hE3 hV hF HPa HX2 HK2))
 have hE4:=Ext.alloc (w3.alloc (.cells #[.slice B m d, .slice B2 m2 d2] 26)) (.cells gapC 9);have hg4:=Blk.new (w3.alloc (.cells #[.slice B m d, .slice B2 m2 d2] 26)) 9 gapC;rw[World.size_alloc]at hg4;have HX4:=hide (HX3.out.trans hE4);have HK4:=hide (HK3.out.ext hE4);have HB4:=hide (HB3.out.ext hE4);have HV4:=hide (HV3.out.keep (.of_ext hE4) (Q:=fun _=>True) (fun _ hb _=>hb));have HF4:=hide (HF3.out.keep (.of_ext hE4) (Q:=fun _=>True) (fun _ hb _=>hb));have HG4:=hide hg4;have HS4:=hide (HS.out.ext HX4.out);clear hE4 hg4 HX3 HK3 HB3 HV3 HF3 HS;unfold gapC at*;generalize World.alloc (World.alloc w3 _) _=w4 at*
 go_loopw [12,13,14] (fun vt vi vg wr=> ∃j:Nat,vt= .string (str (wrG (gapL gs) 0 (ts.take j)))/\vi= .int .i64 (j:Int)/\j<=n/\Hid (Ext w4 wr)) (fun _ vi _ _=>n-(intOf vi).toNat)
 case atStart=>exact⟨0,rfl,rfl,Nat.zero_le _,hide (Ext.refl _)⟩
 case round=>
  obtain⟨j,rfl,rfl,hj,HXr⟩:=hrel;by_cases hlt:j<n
  ·have hlt':(j:Int)<n:=by omega
   have hltt:j<ts.length:=by have:=HN.out;omega
   obtain⟨b,off,rfl,hb,p0,p1,p2,p3⟩:=(HK4.out.ext HXr.out).at_ j hltt;have HW:=hide (wrG_take (gapL gs) hltt);have HWR:=hide (fun w=>rwrite_any ts[j] (HWF.out _ (List.getElem_mem hltt)) w);have hwt:=writeT_length (HWF.out _ (List.getElem_mem hltt));have hgl:=(gapL_gap gs j).1;have hwj:(wrG (gapL gs) 0 (ts.take j)).length<=310*n:=by
    have h1:=wrG_length (gapL gs) (gapL_gap gs) (ts.take j) 0 (fun t ht=>HWF.out t (List.mem_of_mem_take ht));have:(ts.take j).length<=n:=by rw[List.length_take];omega
    have:310*(ts.take j).length<=310*n:=Nat.mul_le_mul_left _ this;omega
   have HGJ:=hide (show gapL gs j=if gs=[]then[32]else gapA.getD ((gs.getD (j%gs.length) 0).toNat%5) []from rfl);generalize gapL gs j=x0 at*;generalize writeT ts[j]=x at*;generalize ts[j]=t at*;generalize wrG (gapL gs) 0 (ts.take j)=y at*;have hs0:(str x0).size=x0.length:=str_size x0;have hsx:(str x).size=x.length:=str_size x;have hsy:(str y).size=y.length:=str_size y;have hx1:str x0++str x=str (x0++x):=str_app x0 x;have hx2:str y++str (x0++x)=str (y++(x0++x)):=str_app y (x0++x);have hsz2:(str (x0++x)).size=x0.length+x.length:=by rw[str_size];simp
   have hc34:prog.cellsOf 62=4:=by kernel_rfl
   by_cases hg0:gs=[]
   ·have h32:(⟨#[32]⟩:ByteArray)=str x0:=by rw[show x0=[32]from HGJ.out.trans (if_pos hg0)];rfl
    have hm: ¬0<gs.length:=by rw[hg0];simp
    clear hg0 HGJ;go_wp2_with (go_at_call 26;refine(HWR.out _).mono ?_;rintro e w5 ⟨rfl,hE5⟩;have HE5:=hide (HXr.out.trans hE5);clear hE5);go_roundw
    case rel=>exact⟨j+1,by rw[HW.out],by go_num,by omega,HE5⟩
    case measure=>simp[intOf];omega
   ·have hm:0<gs.length:=List.length_pos_iff.2 hg0;have hk:j%gs.length<gs.length:=Nat.mod_lt _ hm;have htm:=tmod_nat j gs.length;obtain⟨v,hv⟩: ∃v:UInt8,gs.getD (j%gs.length) 0=v:=⟨_,rfl⟩
    have HGJ:=hide (show x0=gapA.getD (v.toNat%5) []from by rw[HGJ.out,if_neg hg0,hv]);have hv2:gs[j%gs.length]=v:=by rw[<-hv];simp[List.getD,hk]
    obtain⟨gb,go,rfl,hgb,hgc⟩: ∃b off,A=some ⟨b,off,none⟩/\b<wr.heap.size/\ ∀i,(h:i<gs.length)->wr.cell? ⟨b,off+i,none⟩=some (.int .u8 (gs[i].toNat:Int)):=(HS4.out.ext HXr.out).rd.resolve_left hg0;have hg1:=hgc _ hk;rw[hv2]at hg1;have hv255:=v.toNat_lt;have hgq:=((HG4.out.ext HXr.out).cell (v.toNat%5)).trans (gapC_at (Nat.mod_lt _ (by decide)));have h5:=tmod_5 v.toNat;rw[<-HGJ.out]at hgq;go_wp2_with (go_at_call 26;refine(HWR.out _).mono ?_;rintro e w5 ⟨rfl,hE5⟩;have HE5:=hide (HXr.out.trans hE5);clear hE5);go_roundw
    case rel=>exact⟨j+1,by rw[HW.out],by go_num,by omega,HE5⟩
    case measure=>simp[intOf];omega
  ·have hlt': ¬(j:Int)<n:=by omega
   have hv:wrG (gapL gs) 0 (ts.take j)=wrG (gapL gs) 0 ts:=by rw[List.take_of_length_le (by have:=HN.out;omega)]
   rw[hv];have hyl:=wrG_length (gapL gs) (gapL_gap gs) ts 0 HWF.out;have hyn:310*ts.length<=1240000:=by have:=HN.out;omega
   clear hv HWF HN HG4 HS4 HK4;generalize wrG (gapL gs) 0 ts=y at*;have hsy:(str y).size=y.length:=str_size y;have hs10:(⟨#[10]⟩:ByteArray).size=1:=rfl;have hx10:str y++(⟨#[10]⟩:ByteArray)=str (y++[10]):=str_app y [10];have HXq:=hide (HX4.out.trans HXr.out);have HBq:=hide (HB4.out.ext HXr.out);have HVq:=hide (HV4.out.keep (.of_ext HXr.out) (Q:=fun _=>True) (fun _ hb _=>hb));have HFq:=hide (HF4.out.keep (.of_ext HXr.out) (Q:=fun _=>True) (fun _ hb _=>hb));clear HXr HB4 HV4 HF4 HX4;have HBP:=hide (show(y++[10]).length<=4000->(parL (y++[10])).1=p/\(parL (y++[10])).2.2=0 from HBP.out);have hPB:=HPb.out _ HXq.out;obtain⟨⟨p2,a3,e3⟩,hr⟩: ∃r,parL (y++[10])=r:=⟨_,rfl⟩
   rw[hr]at hPB HBP;have HPB:=hide hPB;clear hPB HPb hr;go_wp2_with (go_at_call 10;refine HPB.out.mono ?_;rintro e w6 ⟨hE,B7,m7,d7,B8,m8,d8,rfl,hV,hF⟩;have HE6:=hide (Ext.alloc w6 (.cells #[.slice B7 m7 d7, .slice B8 m8 d8] 26));have HX6:=hide (HXq.out.trans (hE.trans HE6.out));have HA6:=hide (HBq.out.ext (hE.trans HE6.out));have HB6:=hide (Blk.new w6 26 #[.slice B7 m7 d7, .slice B8 m8 d8]);have HP6:=hide (HVq.out.keep (.of_ext (hE.trans HE6.out)) (Q:=fun _=>True) (fun _ _ _=>trivial));have HQ6:=hide (HFq.out.keep (.of_ext (hE.trans HE6.out)) (Q:=fun _=>True) (fun _ _ _=>trivial));have HV6:=hide (hV.keep (.of_ext HE6.out) (Q:=fun _=>True) (fun _ _ _=>trivial));have HF6:=hide (hF.keep (.of_ext HE6.out) (Q:=fun _=>True) (fun _ _ _=>trivial));clear hE hV hF HPB HXq HBq HVq HFq HE6);by_cases h4:(4000:Int)<=y.length
   ·refine wp_region_ext 14 12 [] mixed (by kernel_rfl) trivial ?_;repeat (first|(refine seq_skip (by rfl) ?_;simp only[pq0,pq1,pq2,pq3,pq4])|(refine sx ?_ (fun w1 hU=> ?_) ?_;rotate_left;(focus clear hU;go_simp<;>with_reducible rfl);simp only[pq0,pq1,pq2,pq3,pq4]))
    intro w8 hw8 hp;clear hp;simp only[List.drop_succ_cons,List.drop_zero];have HXZ:=hide (HX6.out.trans hw8.un);clear hw8;go_wp2_with fail;go_ret;exact⟨rfl,HXZ.out⟩
   ·obtain⟨h5,h6⟩:=HBP.out (by simp only[List.length_append,List.length_cons,List.length_nil];omega);have h5:p2=p:=h5;have h6:e3=0:=h6;subst h5 h6;refine wp_region_ext 14 12 [(8,IsPg,fun v wx=>RdPg p2 wx v),(10,IsPg,fun v wx=>RdPg p2 wx v),(11,fun v=>v= .bool true,fun _ _=>True)] mixed (by kernel_rfl)
     ⟨fun _ _ _ h hx=>h.ext hx,fun _ _ _ h hx=>h.ext hx,fun _ _ _ _ _=>trivial,trivial⟩ ?_
    repeat (first|(refine seq_skip (by rfl) ?_;simp only[pq0,pq1,pq2,pq3,pq4])|(refine sx ?_ (fun w1 hU=> ?_) ?_;rotate_left;(focus have f1:=(HA6.out.ext hU.un).cell;have f2:=(HB6.out.ext hU.un).cell;clear hU;go_simp<;>with_reducible rfl);simp only[pq0,pq1,pq2,pq3,pq4]))
    refine seq_opaque _ _ (by rfl) rfl ⟨_,none,0,0,none,0,0,rfl⟩ (by simp) (fun w6 hU hp K hK=> ?_) ?_
    ·have hc:=HTh.out w6 _ _ _ _ _ _ (HP6.out.keep (.of_ext hU.un) (fun _ hb _=>hb)) (HQ6.out.keep (.of_ext hU.un) (fun _ hb _=>hb));clear hp hU;go_simp;refine hc.mono ?_;rintro e w7 ⟨hE,A',n',c',B',m',d',rfl,h1,h2⟩;exact hK _ _ hE ⟨_,_,_,_,_,_,rfl⟩ (rdPg_mk h1 h2)
    rintro _ ⟨A9,n9,c9,B9,m9,d9,rfl⟩;simp only[pq0,pq1,pq2,pq3,pq4];repeat (first|(refine seq_skip (by rfl) ?_;simp only[pq0,pq1,pq2,pq3,pq4])|(refine sx ?_ (fun w1 hU=> ?_) ?_;rotate_left;(focus have f1:=(HA6.out.ext hU.un).cell;have f2:=(HB6.out.ext hU.un).cell;clear hU;go_simp<;>with_reducible rfl);simp only[pq0,pq1,pq2,pq3,pq4]))
    refine seq_opaque _ _ (by rfl) rfl ⟨_,none,0,0,none,0,0,rfl⟩ (by simp) (fun w6 hU hp K hK=> ?_) ?_
    ·have hc:=HTh.out w6 _ _ _ _ _ _ (HV6.out.keep (.of_ext hU.un) (fun _ hb _=>hb)) (HF6.out.keep (.of_ext hU.un) (fun _ hb _=>hb));clear hp hU;go_simp;refine hc.mono ?_;rintro e w7 ⟨hE,A',n',c',B',m',d',rfl,h1,h2⟩;exact hK _ _ hE ⟨_,_,_,_,_,_,rfl⟩ (rdPg_mk h1 h2)
    rintro _ ⟨Aa,na,ca,Ba,ma,da,rfl⟩;simp only[pq0,pq1,pq2,pq3,pq4];repeat (first|(refine seq_skip (by rfl) ?_;simp only[pq0,pq1,pq2,pq3,pq4])|(refine sx ?_ (fun w1 hU=> ?_) ?_;rotate_left;(focus have f1:=(HA6.out.ext hU.un).cell;have f2:=(HB6.out.ext hU.un).cell;clear hU;go_simp<;>with_reducible rfl);simp only[pq0,pq1,pq2,pq3,pq4]))
    refine so (fun w6 hU hp K hK=> ?_) ?_
    ·have h1:=hp _ (.tail _ (.head _)) (by kernel_rfl) _ _ _ _ _ _ rfl;have h2:=hp _ (.head _) (by kernel_rfl) _ _ _ _ _ _ rfl;have hc:=HEq.out w6 _ _ _ _ _ _ _ _ _ _ _ _ h1.1 h1.2 h2.1 h2.2;clear hp hU h1 h2;go_simp;refine hc.mono ?_;rintro e w7 ⟨rfl,hE⟩;exact hK _ _ hE rfl trivial
    rintro _ rfl;simp only[pq0,pq1,pq2,pq3,pq4];repeat (first|(refine seq_skip (by rfl) ?_;simp only[pq0,pq1,pq2,pq3,pq4])|(refine sx ?_ (fun w1 hU=> ?_) ?_;rotate_left;(focus have f1:=(HA6.out.ext hU.un).cell;have f2:=(HB6.out.ext hU.un).cell;clear hU;go_simp<;>with_reducible rfl);simp only[pq0,pq1,pq2,pq3,pq4]))
    intro w8 hw8 hp;clear hp;simp only[List.drop_succ_cons,List.drop_zero];have HXZ:=hide (HX6.out.trans hw8.un);clear hw8;go_wp2_with fail;go_ret;exact⟨rfl,HXZ.out⟩
theorem str_of4 (s:ByteArray):str s.data.toList=s:=by
 cases s;simp[str]
theorem bl_str (a:ByteArray) (gs:List UInt8) (A:Option Addr) (cap:Nat) (w:World) (hs:Sl w A cap gs) (hz:EZ w) (ht:TabW w w.heap.size):
  Calls prog 7 #[.string a, .slice A gs.length cap] w fun e w'=>e= .returned (.bool true)/\Ext w w':=by
 have:=bl_law a.data.toList gs A cap w hs hz ht;rwa [str_of4]at this
end Go.Proofs.YtelplgkppalmfaaGreatDoor
