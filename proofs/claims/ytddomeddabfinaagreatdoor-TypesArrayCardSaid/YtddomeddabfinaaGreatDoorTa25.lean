/-
  Parts of the proof: TyV.
-/
import Derived.Test.YtddomeddabfinaaGreatDoorTa00
import Derived.Test.YtddomeddabfinaaGreatDoorTa24
set_option maxRecDepth 100000
set_option maxHeartbeats 8000000
set_option linter.unusedVariables false
set_option linter.unusedSimpArgs false
set_option linter.unusedSectionVars false
namespace Go.Proofs.YtddomeddabfinaaGreatDoor
open Go.Proofs.Tryz
def eL (v:Int):Prop:= -2147483648<=v/\v<2147483648
instance (v:Int):Decidable (eL v):=inferInstanceAs (Decidable (_/\ _))
theorem kh (v:Int):eL (kM v):=by unfold kM eL;simp[IntKind.wrap,IntKind.signed,IntKind.bits];omega
theorem pz {v:Int} (h:eL v):kM v=v:=by unfold eL at h;unfold kM;simp[IntKind.wrap,IntKind.signed,IntKind.bits];omega
theorem nj (b:Bool):eL (l5 b):=by cases b<;>decide
def jT (s:Ms):Prop:= ∀x,eL (s.ints x)
def pj (l:Lo):Prop:= ∀x v,l x=some v->eL v
def pi {α:Type} (P:α->Prop) (r:ER α):Prop:=match r with
 | .ok (a,s)=>P a/\jT s
 | .error _=>True
theorem pi.then {α β:Type} {P:α->Prop} {Q:β->Prop} {r:ER α} {k:α->Ms->ER β} (h:pi P r) (hk: ∀a s,P a->jT s->pi Q (k a s)):pi Q (r.then k):=by
 cases r with
 |error o=>exact trivial
 |ok p=>exact hk _ _ h.1 h.2
theorem pj.upd {l:Lo} (h:pj l) {s:List UInt8} {v:Int} (hv:eL v):pj (l.upd s v):=fun x u hx=>by
 unfold Lo.upd at hx;split at hx
 ·cases hx;exact hv
 ·exact h x u hx
theorem jT.setI {s:Ms} (h:jT s) {nm:List UInt8} {v:Int} (hv:eL v):jT (s.setI nm v):=fun x=>by
 show eL (if x=nm then v else s.ints x);split
 ·exact hv
 ·exact h x
theorem pG {R:Rs} {s:Ms} {c a b d:Int} {l:List UInt8} (h:jT s):pi (fun _=>True) (fx R s c a b d l):=by
 unfold fx;split
 ·exact trivial
 ·exact⟨trivial,h⟩
theorem y_ {s:Ms} {n:Nat} {r:List UInt8} (h:jT s): ∀d:Dt,jT (d.put s n r)
 | .no=>h
 | .txt _=>h
 | .arr _=>h
abbrev lX (vs:List Int):Prop:= ∀v∈vs,eL v
theorem lX.snoc {vs:List Int} (h:lX vs) {v:Int} (hv:eL v):lX (vs++[v]):=fun x hx=>by
 rcases List.mem_append.1 hx with hx|hx
 ·exact h x hx
 ·rw[cA]at hx;subst hx;exact hv
theorem lT {E:Ms->Ex->ER Int} (hE: ∀s x,jT s->pi eL (E s x)): ∀(ls:List UInt8) (ys:List Ex) (vs:List Int) (la:Int) (d:Dt) (s:Ms),jT s->lX vs->eL la->pi (fun p=>lX p.1/\eL p.2.1) (dr E ls ys vs la d s)
 |c::ls,y::ys,vs,la,d,s,h,h1,h2=>by
  rw[dr];split
  ·exact(hE s y h).then fun v s hv h=>lT hE ls ys _ _ _ s h (h1.snoc hv) hv
  ·split
   ·exact lT hE ls ys _ _ _ s h h1 h2
   ·exact lT hE ls ys _ _ _ s h h1 h2
 | [],_,vs,la,d,s,h,h1,h2=>by unfold dr;exact⟨⟨h1,h2⟩,h⟩
 | _::_,[],vs,la,d,s,h,h1,h2=>by unfold dr;exact⟨⟨h1,h2⟩,h⟩
theorem zW {R:Rs} (c:Int) (vs:List Int) (la:Int) (d:Dt) (s:Ms) (h:jT s):pi eL (kY R c vs la d s):=by
 unfold kY;split
 ·exact(pG h).then fun r s _ h=>⟨kh _,h⟩
 ·split
  ·exact trivial
  ·split
   ·exact(pG h).then fun r s _ h=>⟨kh _,h⟩
   ·exact(pG h).then fun r s _ h=>⟨kh _,y_ h _⟩
theorem tK {E:Ms->Ex->ER Int} (hE: ∀s x,jT s->pi eL (E s x)): ∀(ys:List Ex) (vs:List Int) (s:Ms),jT s->lX vs->pi lX (tL E vs s ys)
 | [],vs,s,h,h1=>⟨h1,h⟩
 |y::r,vs,s,h,h1=>(hE s y h).then fun v s hv h=>tK hE r _ s h (h1.snoc hv)
abbrev BO (p:Option Int×Lo):Prop:=(∀v,p.1=some v->eL v)/\pj p.2
theorem mX {S:Ms->Lo->St->k_} (hS: ∀s l x,jT s->pj l->pi BO (S s l x)): ∀(ys:List St) (l:Lo) (s:Ms),jT s->pj l->pi BO (lw S s l ys)
 | [],l,s,h,h1=>⟨⟨fun _ h=>(by cases h),h1⟩,h⟩
 |y::r,l,s,h,h1=>by
  rw[lw];refine(hS s l y h h1).then fun p s hp h=> ?_;split
  ·rename_i v hv;exact⟨⟨fun u hu=>(by cases hu;exact hp.1 _ hv),hp.2⟩,h⟩
  ·exact mX hS r _ s h hp.2
theorem tG: ∀(ps:List (List UInt8)) (vs:List Int) (l:Lo),pj l->lX vs->pj (qi l ps vs)
 |p::ps,v::vs,l,h,h1=>tG ps vs _ (h.upd (h1 v (by simp))) fun x hx=>h1 x (by simp[hx])
 | [],_,l,h,_=>by unfold qi;exact h
 | _::_,[],l,h,_=>by unfold qi;exact h
mutual
theorem xJ: ∀(x:St) (l:Lo),pj l->pj (sH l x)
 | .mk k nm _ b e,l,h=>by
  rw[sH];refine lP e _ (lP b _ ?_);split
  ·exact h.upd (by decide)
  ·exact h
theorem lP: ∀(x:List St) (l:Lo),pj l->pj (f5 l x)
 | [],l,h=>by rw[f5];exact h
 |s::r,l,h=>by rw[f5];exact lP r _ (xJ s _ h)
end
theorem Aw:pj (fun _=>none):=fun _ _ h=>by cases h
theorem xz {p:Option Int} (h: ∀v,p=some v->eL v):eL (p.getD 0):=by
 cases p with
 |none=>decide
 |some v=>exact h v rfl
theorem xZ {S:Ms->Lo->St->k_} (hS: ∀s l x,jT s->pj l->pi BO (S s l x)) (f:Fc) (vs:List Int) (s:Ms) (h:jT s) (hv:lX vs):pi eL (fq S f vs s):=by
 unfold fq;split
 ·exact trivial
 ·refine pi.then (P:=BO) (mX hS f.body _ {s with stk:=s.stk+fZ f} h (lP _ _ (tG _ _ _ Aw hv))) fun p s hp h=> ?_;exact⟨xz hp.1,h⟩
theorem zY (op:List UInt8) (a b:Int) (s:Ms) (h:jT s):pi eL (ig op a b s):=by
 unfold ig;repeat' split
 all_goals first|exact⟨kh _,h⟩|exact⟨nj _,h⟩|exact trivial
theorem sG (C:Cx): ∀n,(∀s l x,jT s->pj l->pi eL (ev C n s l x))/\(∀s l x,jT s->pj l->pi BO (st C n s l x))/\(∀s l c b,jT s->pj l->pi BO (wh C n s l c b))
 |0=>⟨fun s l x h h1=>trivial,fun s l x h h1=>trivial,fun s l c b h h1=>trivial⟩
 |n+1=>by
  obtain⟨h1,h2,h3⟩:=sG C n;refine⟨fun s l x h hl=> ?_,fun s l x h hl=> ?_,fun s l c b h hl=> ?_⟩
  ·have h':jT s.step:=h;rw[ev];split
   ·exact trivial
   split
   ·exact⟨kh _,h'⟩
   split
   ·refine⟨?_,h'⟩
    cases hx:l x.nm with
    |none=>exact h _
    |some v=>exact hl _ _ hx
   split
   ·refine(h1 _ l _ h' hl).then fun i s hi h=> ?_;split
    ·refine⟨?_,h⟩;have:=((s.arrs x.nm).getD i.toNat 0).toNat_lt;unfold eL;omega
    ·exact trivial
   split
   ·split
    ·unfold mx;exact(lT (fun s x h=>h1 s l x h hl) _ _ _ _ _ _ h' (fun _ h=>(by cases h)) (by decide)).then fun p s hp h=>zW _ _ _ _ _ h
    ·exact(tK (fun s x h=>h1 s l x h hl) _ _ _ h' (fun _ h=>(by cases h))).then fun vs s hv h=>xZ (fun s l x h hl=>h2 s l x h hl) _ _ _ h hv
   split
   ·refine(h1 _ l _ h' hl).then fun i s hi h=> ?_;split
    ·exact⟨nj _,h⟩
    ·exact⟨kh _,h⟩
   ·refine(h1 _ l _ h' hl).then fun i s hi h=> ?_;split
    ·exact⟨by decide,h⟩
    split
    ·exact⟨by decide,h⟩
    refine(h1 _ l _ h hl).then fun j s hj h=> ?_;split
    ·exact⟨nj _,h⟩
    ·exact zY _ _ _ _ h
  ·have h':jT s.step:=h;rw[st];split
   ·exact trivial
   split
   ·exact h3 _ _ _ _ h' hl
   refine pi.then (P:=eL) (by split;exact⟨by decide,h'⟩;exact h1 _ _ _ h' hl) fun v s hv h=> ?_;split
   ·exact⟨⟨fun _ h=>(by cases h),hl.upd hv⟩,h⟩
   split
   ·split
    ·exact⟨⟨fun _ h=>(by cases h),hl.upd hv⟩,h⟩
    ·exact⟨⟨fun _ h=>(by cases h),hl⟩,h.setI hv⟩
   split
   ·refine(h1 _ l _ h hl).then fun u s hu h=> ?_;split
    ·exact⟨⟨fun _ h=>(by cases h),hl⟩,h⟩
    ·exact trivial
   split
   ·exact mX (fun s l x h hl=>h2 s l x h hl) _ _ _ h hl
   split
   ·exact⟨⟨fun u hu=>(by cases hu;exact hv),hl⟩,h⟩
   ·exact⟨⟨fun _ h=>(by cases h),hl⟩,h⟩
  ·rw[wh];refine(h1 _ l _ h hl).then fun v s hv h=> ?_;split
   ·exact⟨⟨fun _ h=>(by cases h),hl⟩,h⟩
   refine(mX (fun s l x h hl=>h2 s l x h hl) _ _ _ h hl).then fun p s hp h=> ?_;split
   ·rename_i u hu;exact⟨⟨fun z hz=>(by cases hz;exact hp.1 _ hu),hp.2⟩,h⟩
   ·exact h3 _ _ _ _ h hp.2
end Go.Proofs.YtddomeddabfinaaGreatDoor
