/-
  Parts of the proof: TyV.
-/
import Derived.Test.YtddomeddabfinaaGreatDoorTl24
set_option maxRecDepth 100000
set_option maxHeartbeats 8000000
set_option linter.unusedVariables false
set_option linter.unusedSimpArgs false
set_option linter.unusedSectionVars false
namespace Go.Proofs.YtddomeddabfinaaGreatDoor
open Go.Proofs.Tryz
def I32 (v:Int):Prop:= -2147483648<=v/\v<2147483648
instance (v:Int):Decidable (I32 v):=inferInstanceAs (Decidable (_/\ _))
theorem w32_rng (v:Int):I32 (w32 v):=by unfold w32 I32;simp[IntKind.wrap,IntKind.signed,IntKind.bits];omega
theorem w32_id {v:Int} (h:I32 v):w32 v=v:=by unfold I32 at h;unfold w32;simp[IntKind.wrap,IntKind.signed,IntKind.bits];omega
theorem word_rng (b:Bool):I32 (word b):=by cases b<;>decide
def MsI (s:Ms):Prop:= ∀x,I32 (s.ints x)
def LoI (l:Lo):Prop:= ∀x v,l x=some v->I32 v
def Rng {α:Type} (P:α->Prop) (r:ER α):Prop:=match r with
 | .ok (a,s)=>P a/\MsI s
 | .error _=>True
theorem Rng.then {α β:Type} {P:α->Prop} {Q:β->Prop} {r:ER α} {k:α->Ms->ER β} (h:Rng P r) (hk: ∀a s,P a->MsI s->Rng Q (k a s)):Rng Q (r.then k):=by
 cases r with
 |error o=>exact trivial
 |ok p=>exact hk _ _ h.1 h.2
theorem LoI.upd {l:Lo} (h:LoI l) {s:List UInt8} {v:Int} (hv:I32 v):LoI (l.upd s v):=fun x u hx=>by
 unfold Lo.upd at hx;split at hx
 ·cases hx;exact hv
 ·exact h x u hx
theorem MsI.setI {s:Ms} (h:MsI s) {nm:List UInt8} {v:Int} (hv:I32 v):MsI (s.setI nm v):=fun x=>by
 show I32 (if x=nm then v else s.ints x);split
 ·exact hv
 ·exact h x
theorem sys_rng {R:Rs} {s:Ms} {c a b d:Int} {l:List UInt8} (h:MsI s):Rng (fun _=>True) (sysL R s c a b d l):=by
 unfold sysL;split
 ·exact trivial
 ·exact⟨trivial,h⟩
theorem put_rng {s:Ms} {n:Nat} {r:List UInt8} (h:MsI s): ∀d:Dt,MsI (d.put s n r)
 | .no=>h
 | .txt _=>h
 | .arr _=>h
abbrev I32s (vs:List Int):Prop:= ∀v∈vs,I32 v
theorem I32s.snoc {vs:List Int} (h:I32s vs) {v:Int} (hv:I32 v):I32s (vs++[v]):=fun x hx=>by
 rcases List.mem_append.1 hx with hx|hx
 ·exact h x hx
 ·rw[List.mem_singleton]at hx;subst hx;exact hv
theorem args_rng {E:Ms->Ex->ER Int} (hE: ∀s x,MsI s->Rng I32 (E s x)): ∀(ls:List UInt8) (ys:List Ex) (vs:List Int) (la:Int) (d:Dt) (s:Ms),MsI s->I32s vs->I32 la->Rng (fun p=>I32s p.1/\I32 p.2.1) (bArgs E ls ys vs la d s)
 |c::ls,y::ys,vs,la,d,s,h,h1,h2=>by
  rw[bArgs];split
  ·exact(hE s y h).then fun v s hv h=>args_rng hE ls ys _ _ _ s h (h1.snoc hv) hv
  ·split
   ·exact args_rng hE ls ys _ _ _ s h h1 h2
   ·exact args_rng hE ls ys _ _ _ s h h1 h2
 | [],_,vs,la,d,s,h,h1,h2=>by unfold bArgs;exact⟨⟨h1,h2⟩,h⟩
 | _::_,[],vs,la,d,s,h,h1,h2=>by unfold bArgs;exact⟨⟨h1,h2⟩,h⟩
theorem blt_rng {R:Rs} (c:Int) (vs:List Int) (la:Int) (d:Dt) (s:Ms) (h:MsI s):Rng I32 (bltE R c vs la d s):=by
 unfold bltE;split
 ·exact(sys_rng h).then fun r s _ h=>⟨w32_rng _,h⟩
 ·split
  ·exact trivial
  ·split
   ·exact(sys_rng h).then fun r s _ h=>⟨w32_rng _,h⟩
   ·exact(sys_rng h).then fun r s _ h=>⟨w32_rng _,put_rng h _⟩
theorem evs_rng {E:Ms->Ex->ER Int} (hE: ∀s x,MsI s->Rng I32 (E s x)): ∀(ys:List Ex) (vs:List Int) (s:Ms),MsI s->I32s vs->Rng I32s (evs E vs s ys)
 | [],vs,s,h,h1=>⟨h1,h⟩
 |y::r,vs,s,h,h1=>(hE s y h).then fun v s hv h=>evs_rng hE r _ s h (h1.snoc hv)
abbrev PLo (p:Option Int×Lo):Prop:=(∀v,p.1=some v->I32 v)/\LoI p.2
theorem ssL_rng {S:Ms->Lo->St->SRes} (hS: ∀s l x,MsI s->LoI l->Rng PLo (S s l x)): ∀(ys:List St) (l:Lo) (s:Ms),MsI s->LoI l->Rng PLo (ssL S s l ys)
 | [],l,s,h,h1=>⟨⟨fun _ h=>(by cases h),h1⟩,h⟩
 |y::r,l,s,h,h1=>by
  rw[ssL];refine(hS s l y h h1).then fun p s hp h=> ?_;split
  ·rename_i v hv;exact⟨⟨fun u hu=>(by cases hu;exact hp.1 _ hv),hp.2⟩,h⟩
  ·exact ssL_rng hS r _ s h hp.2
theorem loP_rng: ∀(ps:List (List UInt8)) (vs:List Int) (l:Lo),LoI l->I32s vs->LoI (loP l ps vs)
 |p::ps,v::vs,l,h,h1=>loP_rng ps vs _ (h.upd (h1 v (by simp))) fun x hx=>h1 x (by simp[hx])
 | [],_,l,h,_=>by unfold loP;exact h
 | _::_,[],l,h,_=>by unfold loP;exact h
mutual
theorem defS_rng: ∀(x:St) (l:Lo),LoI l->LoI (defS l x)
 | .mk k nm _ b e,l,h=>by
  rw[defS];refine defL_rng e _ (defL_rng b _ ?_);split
  ·exact h.upd (by decide)
  ·exact h
theorem defL_rng: ∀(x:List St) (l:Lo),LoI l->LoI (defL l x)
 | [],l,h=>by rw[defL];exact h
 |s::r,l,h=>by rw[defL];exact defL_rng r _ (defS_rng s _ h)
end
theorem lo_no:LoI (fun _=>none):=fun _ _ h=>by cases h
theorem getD_rng {p:Option Int} (h: ∀v,p=some v->I32 v):I32 (p.getD 0):=by
 cases p with
 |none=>decide
 |some v=>exact h v rfl
theorem call_rng {S:Ms->Lo->St->SRes} (hS: ∀s l x,MsI s->LoI l->Rng PLo (S s l x)) (f:Fc) (vs:List Int) (s:Ms) (h:MsI s) (hv:I32s vs):Rng I32 (callF S f vs s):=by
 unfold callF;split
 ·exact trivial
 ·refine Rng.then (P:=PLo) (ssL_rng hS f.body _ {s with stk:=s.stk+frameL f} h (defL_rng _ _ (loP_rng _ _ _ lo_no hv))) fun p s hp h=> ?_;exact⟨getD_rng hp.1,h⟩
theorem bin_rng (op:List UInt8) (a b:Int) (s:Ms) (h:MsI s):Rng I32 (binL op a b s):=by
 unfold binL;repeat' split
 all_goals first|exact⟨w32_rng _,h⟩|exact⟨word_rng _,h⟩|exact trivial
theorem ev_rng (C:Cx): ∀n,(∀s l x,MsI s->LoI l->Rng I32 (ev C n s l x))/\(∀s l x,MsI s->LoI l->Rng PLo (st C n s l x))/\(∀s l c b,MsI s->LoI l->Rng PLo (wh C n s l c b))
 |0=>⟨fun s l x h h1=>trivial,fun s l x h h1=>trivial,fun s l c b h h1=>trivial⟩
 |n+1=>by
  obtain⟨h1,h2,h3⟩:=ev_rng C n;refine⟨fun s l x h hl=> ?_,fun s l x h hl=> ?_,fun s l c b h hl=> ?_⟩
  ·have h':MsI s.step:=h;rw[ev];split
   ·exact trivial
   split
   ·exact⟨w32_rng _,h'⟩
   split
   ·refine⟨?_,h'⟩
    cases hx:l x.nm with
    |none=>exact h _
    |some v=>exact hl _ _ hx
   split
   ·refine(h1 _ l _ h' hl).then fun i s hi h=> ?_;split
    ·refine⟨?_,h⟩;have:=((s.arrs x.nm).getD i.toNat 0).toNat_lt;unfold I32;omega
    ·exact trivial
   split
   ·split
    ·unfold bltC;exact(args_rng (fun s x h=>h1 s l x h hl) _ _ _ _ _ _ h' (fun _ h=>(by cases h)) (by decide)).then fun p s hp h=>blt_rng _ _ _ _ _ h
    ·exact(evs_rng (fun s x h=>h1 s l x h hl) _ _ _ h' (fun _ h=>(by cases h))).then fun vs s hv h=>call_rng (fun s l x h hl=>h2 s l x h hl) _ _ _ h hv
   split
   ·refine(h1 _ l _ h' hl).then fun i s hi h=> ?_;split
    ·exact⟨word_rng _,h⟩
    ·exact⟨w32_rng _,h⟩
   ·refine(h1 _ l _ h' hl).then fun i s hi h=> ?_;split
    ·exact⟨by decide,h⟩
    split
    ·exact⟨by decide,h⟩
    refine(h1 _ l _ h hl).then fun j s hj h=> ?_;split
    ·exact⟨word_rng _,h⟩
    ·exact bin_rng _ _ _ _ h
  ·have h':MsI s.step:=h;rw[st];split
   ·exact trivial
   split
   ·exact h3 _ _ _ _ h' hl
   refine Rng.then (P:=I32) (by split;exact⟨by decide,h'⟩;exact h1 _ _ _ h' hl) fun v s hv h=> ?_;split
   ·exact⟨⟨fun _ h=>(by cases h),hl.upd hv⟩,h⟩
   split
   ·split
    ·exact⟨⟨fun _ h=>(by cases h),hl.upd hv⟩,h⟩
    ·exact⟨⟨fun _ h=>(by cases h),hl⟩,h.setI hv⟩
   split
   ·refine(h1 _ l _ h hl).then fun u s hu h=> ?_;split
    ·exact⟨⟨fun _ h=>(by cases h),hl⟩,h⟩
    ·exact trivial
   split
   ·exact ssL_rng (fun s l x h hl=>h2 s l x h hl) _ _ _ h hl
   split
   ·exact⟨⟨fun u hu=>(by cases hu;exact hv),hl⟩,h⟩
   ·exact⟨⟨fun _ h=>(by cases h),hl⟩,h⟩
  ·rw[wh];refine(h1 _ l _ h hl).then fun v s hv h=> ?_;split
   ·exact⟨⟨fun _ h=>(by cases h),hl⟩,h⟩
   refine(ssL_rng (fun s l x h hl=>h2 s l x h hl) _ _ _ h hl).then fun p s hp h=> ?_;split
   ·rename_i u hu;exact⟨⟨fun z hz=>(by cases hz;exact hp.1 _ hu),hp.2⟩,h⟩
   ·exact h3 _ _ _ _ h hp.2
end Go.Proofs.YtddomeddabfinaaGreatDoor
