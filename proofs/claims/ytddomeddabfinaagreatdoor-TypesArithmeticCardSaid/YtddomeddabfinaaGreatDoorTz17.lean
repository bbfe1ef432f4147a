/-
  Parts of the proof: TyV.
-/
import Derived.Test.YtddomeddabfinaaGreatDoorTz00
import Derived.Test.YtddomeddabfinaaGreatDoorTz16
set_option maxRecDepth 100000
set_option maxHeartbeats 8000000
set_option linter.unusedVariables false
set_option linter.unusedSimpArgs false
set_option linter.unusedSectionVars false
namespace Go.Proofs.YtddomeddabfinaaGreatDoor
open Go.Proofs.Tryz
def eO (v:Int):Prop:= -2147483648<=v/\v<2147483648
instance (v:Int):Decidable (eO v):=inferInstanceAs (Decidable (_/\ _))
theorem kt (v:Int):eO (kI v):=by unfold kI eO;simp[IntKind.wrap,IntKind.signed,IntKind.bits];omega
theorem nF {v:Int} (h:eO v):kI v=v:=by unfold eO at h;unfold kI;simp[IntKind.wrap,IntKind.signed,IntKind.bits];omega
theorem nE (b:Bool):eO (k9 b):=by cases b<;>decide
def j0 (s:Ms):Prop:= ∀x,eO (s.ints x)
def pL (l:Lo):Prop:= ∀x v,l x=some v->eO v
def pK {α:Type} (P:α->Prop) (r:ER α):Prop:=match r with
 | .ok (a,s)=>P a/\j0 s
 | .error _=>True
theorem pK.then {α β:Type} {P:α->Prop} {Q:β->Prop} {r:ER α} {k:α->Ms->ER β} (h:pK P r) (hk: ∀a s,P a->j0 s->pK Q (k a s)):pK Q (r.then k):=by
 cases r with
 |error o=>exact trivial
 |ok p=>exact hk _ _ h.1 h.2
theorem pL.upd {l:Lo} (h:pL l) {s:List UInt8} {v:Int} (hv:eO v):pL (l.upd s v):=fun x u hx=>by
 unfold Lo.upd at hx;split at hx
 ·cases hx;exact hv
 ·exact h x u hx
theorem j0.setI {s:Ms} (h:j0 s) {nm:List UInt8} {v:Int} (hv:eO v):j0 (s.setI nm v):=fun x=>by
 show eO (if x=nm then v else s.ints x);split
 ·exact hv
 ·exact h x
theorem p5 {R:Rs} {s:Ms} {c a b d:Int} {l:List UInt8} (h:j0 s):pK (fun _=>True) (fW R s c a b d l):=by
 unfold fW;split
 ·exact trivial
 ·exact⟨trivial,h⟩
theorem zC {s:Ms} {n:Nat} {r:List UInt8} (h:j0 s): ∀d:Dt,j0 (d.put s n r)
 | .no=>h
 | .txt _=>h
 | .arr _=>h
abbrev md (vs:List Int):Prop:= ∀v∈vs,eO v
theorem md.snoc {vs:List Int} (h:md vs) {v:Int} (hv:eO v):md (vs++[v]):=fun x hx=>by
 rcases List.mem_append.1 hx with hx|hx
 ·exact h x hx
 ·rw[cG]at hx;subst hx;exact hv
theorem l9 {E:Ms->Ex->ER Int} (hE: ∀s x,j0 s->pK eO (E s x)): ∀(ls:List UInt8) (ys:List Ex) (vs:List Int) (la:Int) (d:Dt) (s:Ms),j0 s->md vs->eO la->pK (fun p=>md p.1/\eO p.2.1) (dW E ls ys vs la d s)
 |c::ls,y::ys,vs,la,d,s,h,h1,h2=>by
  rw[dW];split
  ·exact(hE s y h).then fun v s hv h=>l9 hE ls ys _ _ _ s h (h1.snoc hv) hv
  ·split
   ·exact l9 hE ls ys _ _ _ s h h1 h2
   ·exact l9 hE ls ys _ _ _ s h h1 h2
 | [],_,vs,la,d,s,h,h1,h2=>by unfold dW;exact⟨⟨h1,h2⟩,h⟩
 | _::_,[],vs,la,d,s,h,h1,h2=>by unfold dW;exact⟨⟨h1,h2⟩,h⟩
theorem AG {R:Rs} (c:Int) (vs:List Int) (la:Int) (d:Dt) (s:Ms) (h:j0 s):pK eO (nc R c vs la d s):=by
 unfold nc;split
 ·exact(p5 h).then fun r s _ h=>⟨kt _,h⟩
 ·split
  ·exact trivial
  ·split
   ·exact(p5 h).then fun r s _ h=>⟨kt _,h⟩
   ·exact(p5 h).then fun r s _ h=>⟨kt _,zC h _⟩
theorem uj {E:Ms->Ex->ER Int} (hE: ∀s x,j0 s->pK eO (E s x)): ∀(ys:List Ex) (vs:List Int) (s:Ms),j0 s->md vs->pK md (uk E vs s ys)
 | [],vs,s,h,h1=>⟨h1,h⟩
 |y::r,vs,s,h,h1=>(hE s y h).then fun v s hv h=>uj hE r _ s h (h1.snoc hv)
abbrev CM (p:Option Int×Lo):Prop:=(∀v,p.1=some v->eO v)/\pL p.2
theorem nj {S:Ms->Lo->St->lx} (hS: ∀s l x,j0 s->pL l->pK CM (S s l x)): ∀(ys:List St) (l:Lo) (s:Ms),j0 s->pL l->pK CM (mh S s l ys)
 | [],l,s,h,h1=>⟨⟨fun _ h=>(by cases h),h1⟩,h⟩
 |y::r,l,s,h,h1=>by
  rw[mh];refine(hS s l y h h1).then fun p s hp h=> ?_;split
  ·rename_i v hv;exact⟨⟨fun u hu=>(by cases hu;exact hp.1 _ hv),hp.2⟩,h⟩
  ·exact nj hS r _ s h hp.2
theorem ud: ∀(ps:List (List UInt8)) (vs:List Int) (l:Lo),pL l->md vs->pL (rZ l ps vs)
 |p::ps,v::vs,l,h,h1=>ud ps vs _ (h.upd (h1 v (by simp))) fun x hx=>h1 x (by simp[hx])
 | [],_,l,h,_=>by unfold rZ;exact h
 | _::_,[],l,h,_=>by unfold rZ;exact h
mutual
theorem ym: ∀(x:St) (l:Lo),pL l->pL (vR l x)
 | .mk k nm _ b e,l,h=>by
  rw[vR];refine l5 e _ (l5 b _ ?_);split
  ·exact h.upd (by decide)
  ·exact h
theorem l5: ∀(x:List St) (l:Lo),pL l->pL (gm l x)
 | [],l,h=>by rw[gm];exact h
 |s::r,l,h=>by rw[gm];exact l5 r _ (ym s _ h)
end
theorem Bh:pL (fun _=>none):=fun _ _ h=>by cases h
theorem x' {p:Option Int} (h: ∀v,p=some v->eO v):eO (p.getD 0):=by
 cases p with
 |none=>decide
 |some v=>exact h v rfl
theorem yB {S:Ms->Lo->St->lx} (hS: ∀s l x,j0 s->pL l->pK CM (S s l x)) (f:Fc) (vs:List Int) (s:Ms) (h:j0 s) (hv:md vs):pK eO (fF S f vs s):=by
 unfold fF;split
 ·exact trivial
 ·refine pK.then (P:=CM) (nj hS f.body _ {s with stk:=s.stk+gF f} h (l5 _ _ (ud _ _ _ Bh hv))) fun p s hp h=> ?_;exact⟨x' hp.1,h⟩
theorem AJ (op:List UInt8) (a b:Int) (s:Ms) (h:j0 s):pK eO (fM op a b s):=by
 unfold fM;repeat' split
 all_goals first|exact⟨kt _,h⟩|exact⟨nE _,h⟩|exact trivial
theorem s7 (C:Cx): ∀n,(∀s l x,j0 s->pL l->pK eO (ev C n s l x))/\(∀s l x,j0 s->pL l->pK CM (st C n s l x))/\(∀s l c b,j0 s->pL l->pK CM (wh C n s l c b))
 |0=>⟨fun s l x h h1=>trivial,fun s l x h h1=>trivial,fun s l c b h h1=>trivial⟩
 |n+1=>by
  obtain⟨h1,h2,h3⟩:=s7 C n;refine⟨fun s l x h hl=> ?_,fun s l x h hl=> ?_,fun s l c b h hl=> ?_⟩
  ·have h':j0 s.step:=h;rw[ev];split
   ·exact trivial
   split
   ·exact⟨kt _,h'⟩
   split
   ·refine⟨?_,h'⟩
    cases hx:l x.nm with
    |none=>exact h _
    |some v=>exact hl _ _ hx
   split
   ·refine(h1 _ l _ h' hl).then fun i s hi h=> ?_;split
    ·refine⟨?_,h⟩;have:=((s.arrs x.nm).getD i.toNat 0).toNat_lt;unfold eO;omega
    ·exact trivial
   split
   ·split
    ·unfold oz;exact(l9 (fun s x h=>h1 s l x h hl) _ _ _ _ _ _ h' (fun _ h=>(by cases h)) (by decide)).then fun p s hp h=>AG _ _ _ _ _ h
    ·exact(uj (fun s x h=>h1 s l x h hl) _ _ _ h' (fun _ h=>(by cases h))).then fun vs s hv h=>yB (fun s l x h hl=>h2 s l x h hl) _ _ _ h hv
   split
   ·refine(h1 _ l _ h' hl).then fun i s hi h=> ?_;split
    ·exact⟨nE _,h⟩
    ·exact⟨kt _,h⟩
   ·refine(h1 _ l _ h' hl).then fun i s hi h=> ?_;split
    ·exact⟨by decide,h⟩
    split
    ·exact⟨by decide,h⟩
    refine(h1 _ l _ h hl).then fun j s hj h=> ?_;split
    ·exact⟨nE _,h⟩
    ·exact AJ _ _ _ _ h
  ·have h':j0 s.step:=h;rw[st];split
   ·exact trivial
   split
   ·exact h3 _ _ _ _ h' hl
   refine pK.then (P:=eO) (by split;exact⟨by decide,h'⟩;exact h1 _ _ _ h' hl) fun v s hv h=> ?_;split
   ·exact⟨⟨fun _ h=>(by cases h),hl.upd hv⟩,h⟩
   split
   ·split
    ·exact⟨⟨fun _ h=>(by cases h),hl.upd hv⟩,h⟩
    ·exact⟨⟨fun _ h=>(by cases h),hl⟩,h.setI hv⟩
   split
   ·refine(h1 _ l _ h hl).then fun u s hu h=> ?_;split
    ·exact⟨⟨fun _ h=>(by cases h),hl⟩,h⟩
    ·exact trivial
   split
   ·exact nj (fun s l x h hl=>h2 s l x h hl) _ _ _ h hl
   split
   ·exact⟨⟨fun u hu=>(by cases hu;exact hv),hl⟩,h⟩
   ·exact⟨⟨fun _ h=>(by cases h),hl⟩,h⟩
  ·rw[wh];refine(h1 _ l _ h hl).then fun v s hv h=> ?_;split
   ·exact⟨⟨fun _ h=>(by cases h),hl⟩,h⟩
   refine(nj (fun s l x h hl=>h2 s l x h hl) _ _ _ h hl).then fun p s hp h=> ?_;split
   ·rename_i u hu;exact⟨⟨fun z hz=>(by cases hz;exact hp.1 _ hu),hp.2⟩,h⟩
   ·exact h3 _ _ _ _ h hp.2
end Go.Proofs.YtddomeddabfinaaGreatDoor
