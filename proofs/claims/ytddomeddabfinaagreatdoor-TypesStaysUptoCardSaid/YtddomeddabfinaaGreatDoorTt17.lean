/- Parts of the proof. -/
import Derived.Test.YtddomeddabfinaaGreatDoorTt00
import Derived.Test.YtddomeddabfinaaGreatDoorTt16
set_option maxRecDepth 100000
set_option maxHeartbeats 8000000
set_option linter.unusedVariables false
set_option linter.unusedSimpArgs false
set_option linter.unusedSectionVars false
namespace Go.Proofs.YtddomeddabfinaaGreatDoor
open Go.Proofs.Tryz
def jH (v:Int):Prop:= -2147483648<=v/\v<2147483648
instance (v:Int):Decidable (jH v):=inferInstanceAs (Decidable (_/\ _))
theorem mi (v:Int):jH (m9 v):=by unfold m9 jH;simp[IntKind.wrap,IntKind.signed,IntKind.bits];omega
theorem zj {v:Int} (a:jH v):m9 v=v:=by unfold jH at a;unfold m9;simp[IntKind.wrap,IntKind.signed,IntKind.bits];omega
theorem po (b:Bool):jH (nR b):=by cases b<;>decide
def lH (s:Ms):Prop:= ∀x,jH (s.ints x)
def rK (l:Lo):Prop:= ∀x v,l x=some v->jH v
def rJ {α:Type} (P:α->Prop) (r:ER α):Prop:=match r with
 | .ok (a,s)=>P a/\lH s
 | .error _=>True
theorem rJ.then {α a:Type} {P:α->Prop} {Q:a->Prop} {r:ER α} {k:α->Ms->ER a} (h:rJ P r) (w: ∀j s,P j->lH s->rJ Q (k j s)):rJ Q (r.then k):=by
 cases r with
 |error o=>exact trivial
 |ok p=>exact w _ _ h.1 h.2
theorem rK.upd {l:Lo} (j:rK l) {s:List UInt8} {v:Int} (h:jH v):rK (l.upd s v):=λx u a=>by
 unfold Lo.upd at a;split at a
 ·cases a;exact h
 ·exact j x u a
theorem lH.setI {s:Ms} (h:lH s) {nm:List UInt8} {v:Int} (a:jH v):lH (s.setI nm v):=λx=>by
 show jH (if x=nm then v else s.ints x);split
 ·exact a
 ·exact h x
theorem r9 {j:Rs} {s:Ms} {c h b d:Int} {l:List UInt8} (a:lH s):rJ (λ_=>True) (gZ j s c h b d l):=by
 unfold gZ;split
 ·exact trivial
 ·exact⟨trivial,a⟩
theorem CU {s:Ms} {n:Nat} {r:List UInt8} (a:lH s): ∀d:Dt,lH (d.put s n r)
 | .no=>a
 | .txt _=>a
 | .arr _=>a
abbrev nM (vs:List Int):Prop:= ∀v∈vs,jH v
theorem nM.snoc {vs:List Int} (j:nM vs) {v:Int} (h:jH v):nM (vs++[v]):=λx a=>by
 rcases List.mem_append.1 a with a|a
 ·exact j x a
 ·rw[cP]at a;subst a;exact h
theorem nI {E:Ms->Ex->ER Int} (j: ∀s x,lH s->rJ jH (E s x)): ∀(ls:List UInt8) (h:List Ex) (vs:List Int) (la:Int) (d:Dt) (s:Ms),lH s->nM vs->jH la->rJ (λp=>nM p.1/\jH p.2.1) (eO E ls h vs la d s)
 |c::ls,y::h,vs,la,d,s,a,h1,h2=>by
  rw[eO];split
  ·exact(j s y a).then λv s o a=>nI j ls h _ _ _ s a (h1.snoc o) o
  ·split
   ·exact nI j ls h _ _ _ s a h1 h2
   ·exact nI j ls h _ _ _ s a h1 h2
 | [],_,vs,la,d,s,a,h1,h2=>by unfold eO;exact⟨⟨h1,h2⟩,a⟩
 | _::_,[],vs,la,d,s,a,h1,h2=>by unfold eO;exact⟨⟨h1,h2⟩,a⟩
theorem D0 {h:Rs} (c:Int) (vs:List Int) (la:Int) (d:Dt) (s:Ms) (a:lH s):rJ jH (oV h c vs la d s):=by
 unfold oV;split
 ·exact(r9 a).then λr s _ a=>⟨mi _,a⟩
 ·split
  ·exact trivial
  ·split
   ·exact(r9 a).then λr s _ a=>⟨mi _,a⟩
   ·exact(r9 a).then λr s _ a=>⟨mi _,CU a _⟩
theorem xn {E:Ms->Ex->ER Int} (h: ∀s x,lH s->rJ jH (E s x)): ∀(j:List Ex) (vs:List Int) (s:Ms),lH s->nM vs->rJ nM (xo E vs s j)
 | [],vs,s,a,h1=>⟨h1,a⟩
 |y::r,vs,s,a,h1=>(h s y a).then λv s o a=>xn h r _ s a (h1.snoc o)
abbrev FY (p:Option Int×Lo):Prop:=(∀v,p.1=some v->jH v)/\rK p.2
theorem oY {S:Ms->Lo->St->m7} (j: ∀s l x,lH s->rK l->rJ FY (S s l x)): ∀(o:List St) (l:Lo) (s:Ms),lH s->rK l->rJ FY (nO S s l o)
 | [],l,s,a,h1=>⟨⟨λ_ a=>(by cases a),h1⟩,a⟩
 |y::r,l,s,a,h1=>by
  rw[nO];refine(j s l y a h1).then λp s h a=> ?_;split
  ·rename_i v w;exact⟨⟨λu z=>(by cases z;exact h.1 _ w),h.2⟩,a⟩
  ·exact oY j r _ s a h.2
theorem xj: ∀(ps:List (List UInt8)) (vs:List Int) (l:Lo),rK l->nM vs->rK (uz l ps vs)
 |p::ps,v::vs,l,h,h1=>xj ps vs _ (h.upd (h1 v Qd)) λx a=>h1 x (by simp[a])
 | [],_,l,h,_=>by unfold uz;exact h
 | _::_,[],l,h,_=>by unfold uz;exact h
mutual
theorem Bv: ∀(x:St) (l:Lo),rK l->rK (yO l x)
 | .mk k nm _ b e,l,h=>by
  rw[yO];refine nF e _ (nF b _ ?_);split
  ·exact h.upd Qc
  ·exact h
theorem nF: ∀(x:List St) (l:Lo),rK l->rK (iu l x)
 | [],l,h=>by rw[iu];exact h
 |s::r,l,h=>by rw[iu];exact nF r _ (Bv s _ h)
end
theorem Et:rK (λ_=>none):=λ_ _ a=>by cases a
theorem Bj {p:Option Int} (a: ∀v,p=some v->jH v):jH (p.getD 0):=by
 cases p with
 |none=>decide
 |some v=>exact a v rfl
theorem BL {S:Ms->Lo->St->m7} (o: ∀s l x,lH s->rK l->rJ FY (S s l x)) (f:Fc) (vs:List Int) (s:Ms) (a:lH s) (h:nM vs):rJ jH (gK S f vs s):=by
 unfold gK;split
 ·exact trivial
 ·refine rJ.then (P:=FY) (oY o f.body _ {s with stk:=s.stk+i6 f} a (nF _ _ (xj _ _ _ Et h))) λp s j a=> ?_;exact⟨Bj j.1,a⟩
theorem D5 (op:List UInt8) (h b:Int) (s:Ms) (a:lH s):rJ jH (kA op h b s):=by
 unfold kA;repeat' split
 all_goals first|exact⟨mi _,a⟩|exact⟨po _,a⟩|exact trivial
theorem vX (C:Cx): ∀n,(∀s l x,lH s->rK l->rJ jH (ev C n s l x))/\(∀s l x,lH s->rK l->rJ FY (st C n s l x))/\(∀s l c b,lH s->rK l->rJ FY (wh C n s l c b))
 |0=>⟨λs l x a j=>trivial,λs l x a j=>trivial,λs l c b a j=>trivial⟩
 |n+1=>by
  obtain⟨j,G,M⟩:=vX C n;refine⟨λs l x a h=> ?_,λs l x a h=> ?_,λs l c b a h=> ?_⟩
  ·have o:lH s.step:=a;rw[ev];split
   ·exact trivial
   split
   ·exact⟨mi _,o⟩
   split
   ·refine⟨?_,o⟩
    cases hx:l x.nm with
    |none=>exact a _
    |some v=>exact h _ _ hx
   split
   ·refine(j _ l _ o h).then λi s K a=> ?_;split
    ·refine⟨?_,a⟩;have:=((s.arrs x.nm).getD i.toNat 0).toNat_lt;unfold jH;omega
    ·exact trivial
   split
   ·split
    ·unfold qf;exact(nI (λs x a=>j s l x a h) _ _ _ _ _ _ o (λ_ a=>(by cases a)) Qc).then λp s A a=>D0 _ _ _ _ _ a
    ·exact(xn (λs x a=>j s l x a h) _ _ _ o (λ_ a=>(by cases a))).then λvs s w a=>BL (λs l x a h=>G s l x a h) _ _ _ a w
   split
   ·refine(j _ l _ o h).then λi s K a=> ?_;split
    ·exact⟨po _,a⟩
    ·exact⟨mi _,a⟩
   ·refine(j _ l _ o h).then λi s K a=> ?_;split
    ·exact⟨by decide,a⟩
    split
    ·exact⟨by decide,a⟩
    refine(j _ l _ a h).then λV s X a=> ?_;split
    ·exact⟨po _,a⟩
    ·exact D5 _ _ _ _ a
  ·have o:lH s.step:=a;rw[st];split
   ·exact trivial
   split
   ·exact M _ _ _ _ o h
   refine rJ.then (P:=jH) (by split;exact⟨by decide,o⟩;exact j _ _ _ o h) λv s w a=> ?_;split
   ·exact⟨⟨λ_ a=>(by cases a),h.upd w⟩,a⟩
   split
   ·split
    ·exact⟨⟨λ_ a=>(by cases a),h.upd w⟩,a⟩
    ·exact⟨⟨λ_ a=>(by cases a),h⟩,a.setI w⟩
   split
   ·refine(j _ l _ a h).then λu s z a=> ?_;split
    ·exact⟨⟨λ_ a=>(by cases a),h⟩,a⟩
    ·exact trivial
   split
   ·exact oY (λs l x a h=>G s l x a h) _ _ _ a h
   split
   ·exact⟨⟨λu z=>(by cases z;exact w),h⟩,a⟩
   ·exact⟨⟨λ_ a=>(by cases a),h⟩,a⟩
  ·rw[wh];refine(j _ l _ a h).then λv s w a=> ?_;split
   ·exact⟨⟨λ_ a=>(by cases a),h⟩,a⟩
   refine(oY (λs l x a h=>G s l x a h) _ _ _ a h).then λp s A a=> ?_;split
   ·rename_i u z;exact⟨⟨λR O=>(by cases O;exact A.1 _ z),A.2⟩,a⟩
   ·exact M _ _ _ _ a A.2
end Go.Proofs.YtddomeddabfinaaGreatDoor
