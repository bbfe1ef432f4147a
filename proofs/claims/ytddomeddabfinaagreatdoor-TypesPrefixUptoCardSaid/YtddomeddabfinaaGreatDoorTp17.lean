/-
  Parts of the proof: TyV.
-/
import Derived.Test.YtddomeddabfinaaGreatDoorTp00
import Derived.Test.YtddomeddabfinaaGreatDoorTp16
set_option maxRecDepth 100000
set_option maxHeartbeats 8000000
set_option linter.unusedVariables false
set_option linter.unusedSimpArgs false
set_option linter.unusedSectionVars false
namespace Go.Proofs.YtddomeddabfinaaGreatDoor
open Go.Proofs.Tryz
def iK (v:Int):Prop:= -2147483648<=v/\v<2147483648
instance (v:Int):Decidable (iK v):=inferInstanceAs (Decidable (_/\ _))
theorem kP (v:Int):iK (lK v):=by unfold lK iK;simp[IntKind.wrap,IntKind.signed,IntKind.bits];omega
theorem wQ {v:Int} (h:iK v):lK v=v:=by unfold iK at h;unfold lK;simp[IntKind.wrap,IntKind.signed,IntKind.bits];omega
theorem nN (b:Bool):iK (my b):=by cases b<;>decide
def ko (s:Ms):Prop:= ∀x,iK (s.ints x)
def pZ (l:Lo):Prop:= ∀x v,l x=some v->iK v
def pY {α:Type} (P:α->Prop) (r:ER α):Prop:=match r with
 | .ok (a,s)=>P a/\ko s
 | .error _=>True
theorem pY.then {α β:Type} {P:α->Prop} {Q:β->Prop} {r:ER α} {k:α->Ms->ER β} (h:pY P r) (hk: ∀a s,P a->ko s->pY Q (k a s)):pY Q (r.then k):=by
 cases r with
 |error o=>exact trivial
 |ok p=>exact hk _ _ h.1 h.2
theorem pZ.upd {l:Lo} (h:pZ l) {s:List UInt8} {v:Int} (hv:iK v):pZ (l.upd s v):=fun x u hx=>by
 unfold Lo.upd at hx;split at hx
 ·cases hx;exact hv
 ·exact h x u hx
theorem ko.setI {s:Ms} (h:ko s) {nm:List UInt8} {v:Int} (hv:iK v):ko (s.setI nm v):=fun x=>by
 show iK (if x=nm then v else s.ints x);split
 ·exact hv
 ·exact h x
theorem qh {R:Rs} {s:Ms} {c a b d:Int} {l:List UInt8} (h:ko s):pY (fun _=>True) (eQ R s c a b d l):=by
 unfold eQ;split
 ·exact trivial
 ·exact⟨trivial,h⟩
theorem Ar {s:Ms} {n:Nat} {r:List UInt8} (h:ko s): ∀d:Dt,ko (d.put s n r)
 | .no=>h
 | .txt _=>h
 | .arr _=>h
abbrev mu (vs:List Int):Prop:= ∀v∈vs,iK v
theorem mu.snoc {vs:List Int} (h:mu vs) {v:Int} (hv:iK v):mu (vs++[v]):=fun x hx=>by
 rcases List.mem_append.1 hx with hx|hx
 ·exact h x hx
 ·rw[cr]at hx;subst hx;exact hv
theorem mn {E:Ms->Ex->ER Int} (hE: ∀s x,ko s->pY iK (E s x)): ∀(ls:List UInt8) (ys:List Ex) (vs:List Int) (la:Int) (d:Dt) (s:Ms),ko s->mu vs->iK la->pY (fun p=>mu p.1/\iK p.2.1) (dG E ls ys vs la d s)
 |c::ls,y::ys,vs,la,d,s,h,h1,h2=>by
  rw[dG];split
  ·exact(hE s y h).then fun v s hv h=>mn hE ls ys _ _ _ s h (h1.snoc hv) hv
  ·split
   ·exact mn hE ls ys _ _ _ s h h1 h2
   ·exact mn hE ls ys _ _ _ s h h1 h2
 | [],_,vs,la,d,s,h,h1,h2=>by unfold dG;exact⟨⟨h1,h2⟩,h⟩
 | _::_,[],vs,la,d,s,h,h1,h2=>by unfold dG;exact⟨⟨h1,h2⟩,h⟩
theorem Bp {R:Rs} (c:Int) (vs:List Int) (la:Int) (d:Dt) (s:Ms) (h:ko s):pY iK (mP R c vs la d s):=by
 unfold mP;split
 ·exact(qh h).then fun r s _ h=>⟨kP _,h⟩
 ·split
  ·exact trivial
  ·split
   ·exact(qh h).then fun r s _ h=>⟨kP _,h⟩
   ·exact(qh h).then fun r s _ h=>⟨kP _,Ar h _⟩
theorem uD {E:Ms->Ex->ER Int} (hE: ∀s x,ko s->pY iK (E s x)): ∀(ys:List Ex) (vs:List Int) (s:Ms),ko s->mu vs->pY mu (qS E vs s ys)
 | [],vs,s,h,h1=>⟨h1,h⟩
 |y::r,vs,s,h,h1=>(hE s y h).then fun v s hv h=>uD hE r _ s h (h1.snoc hv)
abbrev Di (p:Option Int×Lo):Prop:=(∀v,p.1=some v->iK v)/\pZ p.2
theorem nB {S:Ms->Lo->St->kN} (hS: ∀s l x,ko s->pZ l->pY Di (S s l x)): ∀(ys:List St) (l:Lo) (s:Ms),ko s->pZ l->pY Di (ln S s l ys)
 | [],l,s,h,h1=>⟨⟨fun _ h=>(by cases h),h1⟩,h⟩
 |y::r,l,s,h,h1=>by
  rw[ln];refine(hS s l y h h1).then fun p s hp h=> ?_;split
  ·rename_i v hv;exact⟨⟨fun u hu=>(by cases hu;exact hp.1 _ hv),hp.2⟩,h⟩
  ·exact nB hS r _ s h hp.2
theorem uz: ∀(ps:List (List UInt8)) (vs:List Int) (l:Lo),pZ l->mu vs->pZ (sw l ps vs)
 |p::ps,v::vs,l,h,h1=>uz ps vs _ (h.upd (h1 v (by simp))) fun x hx=>h1 x (by simp[hx])
 | [],_,l,h,_=>by unfold sw;exact h
 | _::_,[],l,h,_=>by unfold sw;exact h
mutual
theorem y8: ∀(x:St) (l:Lo),pZ l->pZ (wm l x)
 | .mk k nm _ b e,l,h=>by
  rw[wm];refine me e _ (me b _ ?_);split
  ·exact h.upd (by decide)
  ·exact h
theorem me: ∀(x:List St) (l:Lo),pZ l->pZ (gx l x)
 | [],l,h=>by rw[gx];exact h
 |s::r,l,h=>by rw[gx];exact me r _ (y8 s _ h)
end
theorem BW:pZ (fun _=>none):=fun _ _ h=>by cases h
theorem yP {p:Option Int} (h: ∀v,p=some v->iK v):iK (p.getD 0):=by
 cases p with
 |none=>decide
 |some v=>exact h v rfl
theorem zl {S:Ms->Lo->St->kN} (hS: ∀s l x,ko s->pZ l->pY Di (S s l x)) (f:Fc) (vs:List Int) (s:Ms) (h:ko s) (hv:mu vs):pY iK (eK S f vs s):=by
 unfold eK;split
 ·exact trivial
 ·refine pY.then (P:=Di) (nB hS f.body _ {s with stk:=s.stk+gu f} h (me _ _ (uz _ _ _ BW hv))) fun p s hp h=> ?_;exact⟨yP hp.1,h⟩
theorem Bs (op:List UInt8) (a b:Int) (s:Ms) (h:ko s):pY iK (iD op a b s):=by
 unfold iD;repeat' split
 all_goals first|exact⟨kP _,h⟩|exact⟨nN _,h⟩|exact trivial
theorem tD (C:Cx): ∀n,(∀s l x,ko s->pZ l->pY iK (ev C n s l x))/\(∀s l x,ko s->pZ l->pY Di (st C n s l x))/\(∀s l c b,ko s->pZ l->pY Di (wh C n s l c b))
 |0=>⟨fun s l x h h1=>trivial,fun s l x h h1=>trivial,fun s l c b h h1=>trivial⟩
 |n+1=>by
  obtain⟨h1,h2,h3⟩:=tD C n;refine⟨fun s l x h hl=> ?_,fun s l x h hl=> ?_,fun s l c b h hl=> ?_⟩
  ·have h':ko s.step:=h;rw[ev];split
   ·exact trivial
   split
   ·exact⟨kP _,h'⟩
   split
   ·refine⟨?_,h'⟩
    cases hx:l x.nm with
    |none=>exact h _
    |some v=>exact hl _ _ hx
   split
   ·refine(h1 _ l _ h' hl).then fun i s hi h=> ?_;split
    ·refine⟨?_,h⟩;have:=((s.arrs x.nm).getD i.toNat 0).toNat_lt;unfold iK;omega
    ·exact trivial
   split
   ·split
    ·unfold mh;exact(mn (fun s x h=>h1 s l x h hl) _ _ _ _ _ _ h' (fun _ h=>(by cases h)) (by decide)).then fun p s hp h=>Bp _ _ _ _ _ h
    ·exact(uD (fun s x h=>h1 s l x h hl) _ _ _ h' (fun _ h=>(by cases h))).then fun vs s hv h=>zl (fun s l x h hl=>h2 s l x h hl) _ _ _ h hv
   split
   ·refine(h1 _ l _ h' hl).then fun i s hi h=> ?_;split
    ·exact⟨nN _,h⟩
    ·exact⟨kP _,h⟩
   ·refine(h1 _ l _ h' hl).then fun i s hi h=> ?_;split
    ·exact⟨by decide,h⟩
    split
    ·exact⟨by decide,h⟩
    refine(h1 _ l _ h hl).then fun j s hj h=> ?_;split
    ·exact⟨nN _,h⟩
    ·exact Bs _ _ _ _ h
  ·have h':ko s.step:=h;rw[st];split
   ·exact trivial
   split
   ·exact h3 _ _ _ _ h' hl
   refine pY.then (P:=iK) (by split;exact⟨by decide,h'⟩;exact h1 _ _ _ h' hl) fun v s hv h=> ?_;split
   ·exact⟨⟨fun _ h=>(by cases h),hl.upd hv⟩,h⟩
   split
   ·split
    ·exact⟨⟨fun _ h=>(by cases h),hl.upd hv⟩,h⟩
    ·exact⟨⟨fun _ h=>(by cases h),hl⟩,h.setI hv⟩
   split
   ·refine(h1 _ l _ h hl).then fun u s hu h=> ?_;split
    ·exact⟨⟨fun _ h=>(by cases h),hl⟩,h⟩
    ·exact trivial
   split
   ·exact nB (fun s l x h hl=>h2 s l x h hl) _ _ _ h hl
   split
   ·exact⟨⟨fun u hu=>(by cases hu;exact hv),hl⟩,h⟩
   ·exact⟨⟨fun _ h=>(by cases h),hl⟩,h⟩
  ·rw[wh];refine(h1 _ l _ h hl).then fun v s hv h=> ?_;split
   ·exact⟨⟨fun _ h=>(by cases h),hl⟩,h⟩
   refine(nB (fun s l x h hl=>h2 s l x h hl) _ _ _ h hl).then fun p s hp h=> ?_;split
   ·rename_i u hu;exact⟨⟨fun z hz=>(by cases hz;exact hp.1 _ hu),hp.2⟩,h⟩
   ·exact h3 _ _ _ _ h hp.2
end Go.Proofs.YtddomeddabfinaaGreatDoor
