/-
  Parts of the proof: TyRn TyEx TySk TyRu TySv.
-/
import Derived.Test.YtddomeddabfinaaGreatDoorTa35
import Derived.Test.YtddomeddabfinaaGreatDoorTa00
import Derived.Test.YtddomeddabfinaaGreatDoorTa32
import Derived.Test.YtddomeddabfinaaGreatDoorTa25
set_option maxRecDepth 100000
set_option maxHeartbeats 8000000
set_option linter.unusedVariables false
set_option linter.unusedSimpArgs false
set_option linter.defProp false
set_option linter.unusedSectionVars false
namespace Go.Proofs.YtddomeddabfinaaGreatDoor
open Go.Proofs.Tryz
section
open Go.RowKit
def sQ (X:MX) (C:Cx) (w:World) (r:ER Int) (e:Ending) (w':World):Prop:=Mv X.S w w'/\match r with
 | .ok (v,σ)=>e= .returned (.int .i32 v)/\MA X C σ w'
 | .error o=>e=iq o.kind/\gy X o w'
abbrev MX.T (X:MX) (fb lb:Nat) (k:Nat):Prop:=X.S k\/k=fb\/k=lb
def yk (X:MX) (C:Cx) (fb lb:Nat) (w:World) (r:k_) (e:Ending) (w':World):Prop:=Mv (X.T fb lb) w w'/\match r with
 | .ok (p,σ)=>e= .returned (.tuple #[])/\MA X C σ w'/\FR fb lb p.2 p.1 w'
 | .error o=>e=iq o.kind/\gy X o w'
def Ae (X:MX) (C:Cx) (w:World) (r:ER (Int×List UInt8)) (e:Ending) (w':World):Prop:=w.grownBy w' (some X.g)/\match r with
 | .ok (p,σ)=>MA X C σ w'/\ ∃da dc,e= .returned (.agg #[.int .i64 p.1, .slice da p.2.length dc])/\Sl w' da dc p.2/\ ∀b o,da=some ⟨b,o,none⟩->p.2≠ []->X.P b
 | .error o=>e=iq o.kind/\gy X o w'
structure FI (X:MX) (fb lb:Nat) (l:Lo) (ret:Option Int) (w:World):Prop where
 fr:FR fb lb l ret w
 f:X.hi<=fb
 l:X.hi<=lb
def mP (X:MX) (C:Cx) (n:Nat) (x:Ex):Prop:= ∀(σ:Ms) (l:Lo) (fb lb:Nat) (w:World) (A:Option Addr) (c:Nat),MA X C σ w->FI X fb lb l none w->2*σ.left<=n->cu w X.P (.slice A x.args.length c) x.args->
 Calls prog 164 #[X.p, .pointer (some ⟨fb,0,none⟩), .agg #[.int .i64 x.k, .string (ah x.op), .string (ah x.nm), .string (ah x.tx), .int .i64 x.v, .slice A x.args.length c]] w (sQ X C w (ev C n σ l x))
def Dq (X:MX) (C:Cx) (n:Nat) (x:St):Prop:= ∀(σ:Ms) (l:Lo) (fb lb:Nat) (w:World) (A1 A2 A3:Option Addr) (c1 c2 c3:Nat),MA X C σ w->FI X fb lb l none w->2*σ.left<=n->
 cu w X.P (.slice A1 x.ex.length c1) x.ex->cK w X.P (.slice A2 x.body.length c2) x.body->cK w X.P (.slice A3 x.els.length c3) x.els->
 Calls prog 130 #[X.p, .pointer (some ⟨fb,0,none⟩), .agg #[.int .i64 x.k, .string (ah x.nm), .slice A1 x.ex.length c1, .slice A2 x.body.length c2, .slice A3 x.els.length c3]] w (yk X C fb lb w (st C n σ l x))
def Af (X:MX) (C:Cx) (n:Nat) (xs:List St):Prop:= ∀(σ:Ms) (l:Lo) (fb lb:Nat) (w:World) (A:Option Addr) (c:Nat),MA X C σ w->FI X fb lb l none w->2*σ.left<=n->cK w X.P (.slice A xs.length c) xs->
 Calls prog 86 #[X.p, .pointer (some ⟨fb,0,none⟩), .slice A xs.length c] w (yk X C fb lb w (lw (fun s l y=>st C n s l y) σ l xs))
def CG (X:MX) (C:Cx) (n:Nat):Prop:= ∀x:Ex,yt C.fn x=true->x.wt<=1073741824->mP X C n x
def DE (X:MX) (C:Cx) (n:Nat):Prop:= ∀x:St,AP C.fn x=true->x.wt<=1073741824->Dq X C n x
def Dr (X:MX) (C:Cx) (n:Nat):Prop:= ∀xs:List St,nB C.fn xs=true->fj xs<=1073741824->Af X C n xs
structure BG (C:Cx):Prop where
 safe: ∀s,nB C.fn (C.fn s).body=true
 wt: ∀s,fj (C.fn s).body<=6000000
 ps: ∀s,(C.fn s).ps.length<=6000000
 pn: ∀s,∀q∈(C.fn s).ps,q.length<=1073741824
section
variable {X:MX} {C:Cx} {σ σ':Ms} {w w':World} {fb lb:Nat} {l:Lo} {ret:Option Int}
theorem MX.S_lt {k:Nat} (h:X.hi<=k): ¬X.S k:=fun e=>by simp only[MX.S]at e;omega
theorem MX.S_P {k:Nat} (h:X.P k): ¬X.S k:=fun e=>by simp only[MX.S,MX.P]at*;omega
theorem FI.mv {S:Nat->Prop} (h:FI X fb lb l ret w) (hM:Mv S w w') (hS: ∀k,X.hi<=k->k<w.heap.size-> ¬S k):FI X fb lb l ret w':=⟨h.fr.mv hM (hS _ h.f h.fr.blk.lt) (hS _ h.l h.fr.m.lt),h.f,h.l⟩
theorem FI.ms (h:FI X fb lb l ret w) (hM:Mv X.S w w'):FI X fb lb l ret w':=h.mv hM fun k hk _=>MX.S_lt hk
theorem FI.ext (h:FI X fb lb l ret w) (he:au w w'):FI X fb lb l ret w':=⟨h.fr.ext he,h.f,h.l⟩
theorem cu.ms {v:Value} {xs:List Ex} (h:cu w X.P v xs) (hM:Mv X.S w w'):cu w' X.P v xs:=h.keep (hM.keepP fun k hk _=>MX.S_P hk) fun b hb _=>hb
theorem cu.xt {v:Value} {xs:List Ex} {P:Nat->Prop} (h:cu w P v xs) (hM:au w w'):cu w' P v xs:=h.keep (.of_ext hM) fun b hb _=>hb
theorem cK.xt {v:Value} {xs:List St} {P:Nat->Prop} (h:cK w P v xs) (hM:au w w'):cK w' P v xs:=h.keep (.of_ext hM) fun b hb _=>hb
theorem MX.T_P (hf:X.hi<=fb) (hl:X.hi<=lb) (ok:X.Ok) {k:Nat} (h:X.P k): ¬X.T fb lb k:=fun e=>by
 have:=ok.g;simp only[MX.T,MX.S,MX.P]at*;omega
theorem cu.mt {v:Value} {xs:List Ex} (h:cu w X.P v xs) (hF:FI X fb lb l ret w) (ok:X.Ok) (hM:Mv (X.T fb lb) w w'):cu w' X.P v xs:=h.keep (hM.keepP fun k hk _=>MX.T_P hF.f hF.l ok hk) fun b hb _=>hb
theorem cK.mt {v:Value} {xs:List St} (h:cK w X.P v xs) (hF:FI X fb lb l ret w) (ok:X.Ok) (hM:Mv (X.T fb lb) w w'):cK w' X.P v xs:=h.keep (hM.keepP fun k hk _=>MX.T_P hF.f hF.l ok hk) fun b hb _=>hb
theorem Mv.ms_g (ok:X.Ok) (h:w.grownBy w' (some X.g)):Mv X.S w w':= .of_grown h fun k e=>by injection e with e;subst e;exact ok.g
theorem MA.putA {nm:List UInt8} {a:List UInt8} (h:MA X C σ w) (hn:σ.arrs nm≠ []) (hl:a.length=(σ.arrs nm).length) (hg:w.grownBy w' (some (X.rb nm))) (hb:aQ w' (X.rb nm) 5 (yw a)):MA X C (σ.setA nm a) w':=by
 have ok:=h.ok;obtain⟨r1,r2,r3,r4⟩:=h.row nm hn;obtain⟨lf,q1,q2,q3,hm⟩:=h.blk;obtain⟨L1,f1,f2⟩:=h.f;obtain⟨L2,i1,i2⟩:=h.i;obtain⟨L3,a1,a2⟩:=h.a;have hne:a≠ []:=fun e=>hn (aH (by rw[<-hl,e];rfl));have ea: ∀s,(σ.setA nm a).arrs s=if s=nm then a else σ.arrs s:=fun _=>rfl;have hk:cw X.P w w':= .of_grown hg (fun b hb e=>by injection e with e;subst e;simp only[MX.S,MX.P]at*;omega);refine⟨ok,⟨lf,q1,q2,q3,hm.grown hg (md (fd r3))⟩,⟨L1,f1.grown hg (md fun e=>fY r1 (e▸f1)),f2⟩,fun s=> ?_,⟨L2,i1.grown hg (md fun e=>fY r1 (e▸i1)),i2⟩,⟨L3,a1.grown hg (md fun e=>fY r1 (e▸a1)),fun s=> ?_⟩,fun s hs=> ?_,fun s t hs ht=> ?_,h.r.keep hk,h.used,h.stk,h.rng,h.t.grown hg (fun e=> ?_),h.t0,aT h.top hg.size,fun s=> ?_⟩
 ·obtain⟨pv,bv,e,p1,p2⟩:=h.fr s;exact⟨pv,bv,e,p1.keep hk (fun b hb _=>hb),p2.keep hk (fun b hb _=>hb)⟩
 ·rw[a2 s];unfold od;rw[ea];by_cases e:s=nm
  ·subst e;rw[if_pos rfl,if_neg hn,if_neg hne,hl]
  ·rw[if_neg e]
 ·rw[ea]at hs⊢;by_cases e:s=nm
  ·subst e;rw[if_pos rfl];exact⟨hb,r2,r3,hl▸r4⟩
  ·rw[if_neg e]at hs⊢;obtain⟨p1,p2,p3,p4⟩:=h.row s hs;exact⟨p1.grown hg (md fun e2=>e (h.inj s nm hs hn e2)),p2,p3,p4⟩
 ·have hs': ∀s,(σ.setA nm a).arrs s≠ []->σ.arrs s≠ []:=fun s hs=>by
   rw[ea]at hs;by_cases e:s=nm
   ·subst e;exact hn
   ·rwa [if_neg e]at hs
  exact h.inj s t (hs' s hs) (hs' t ht)
 ·have q:=h.t0;rw[<-e]at q;simp only[MX.S,MX.P]at*;omega
 ·rw[ea];by_cases e:s=nm
  ·subst e;rw[if_pos rfl,hl];exact h.len s
  ·rw[if_neg e];exact h.len s
theorem MA.setA1 {nm:List UInt8} {i:Nat} {b:UInt8} (h:MA X C σ w) (hi:i<(σ.arrs nm).length):MA X C (σ.setA nm ((σ.arrs nm).set i b)) (w.setCell ⟨X.rb nm,i,none⟩ (.int .u8 (b.toNat:Int))):=by
 have hn:σ.arrs nm≠ []:=fun e=>by rw[e]at hi;simp at hi
 refine h.putA hn (by simp) (b7 w _ i _) ?_;have e:yw ((σ.arrs nm).set i b)=(yw (σ.arrs nm)).setIfInBounds i (.int .u8 (b.toNat:Int)):=by
  apply jk;simp[yw,jS,vN,List.map_set]
 rw[e];exact(h.row nm hn).1.set i _
def qc (X:MX) (nm:List UInt8):Value:=if X.al nm=0 then .slice none 0 0 else .slice (some ⟨X.rb nm,0,none⟩) (X.al nm) (X.al nm)
theorem MA.arrE (h:MA X C σ w) (nm:List UInt8):od X σ nm=qc X nm:=by
 have hl:=h.len nm;unfold od qc;by_cases e:σ.arrs nm=[]
 ·rw[if_pos e,if_pos (by rw[<-hl,e];rfl)]
 ·rw[if_neg e,if_neg (fun e2=>e (aH (by omega))),hl]
def Dv (X:MX) (w:World) (d:Dt) (v:Value):Prop:=match d with
 | .no=>v= .slice none 0 0
 | .txt t=> ∃A c,v= .slice A t.length c/\Sl w A c t/\ ∀b o,A=some ⟨b,o,none⟩->t≠ []->X.hi<=b
 | .arr nm=>v=qc X nm
theorem AO {g:Nat} {a:List UInt8} {t:TypeId} (h:aQ w g t (yw a)) (hm:a.length<=1073741824):Sl w (some ⟨g,0,none⟩) a.length a:=
 ⟨ag _,by unfold maxLen;omega,(fun h=>by cases h), .inr ⟨g,0,rfl,h.lt,fun i hi=>by rw[aA,h.cell];simp[yw,jS,vN,hi]⟩⟩
theorem Dv.sl {d:Dt} {v:Value} (hA:MA X C σ w) (h:Dv X w d v): ∃A c,v= .slice A (d.rd σ).length c/\Sl w A c (d.rd σ)/\ ∀b o,A=some ⟨b,o,none⟩->d.rd σ≠ []->b≠X.g:=by
 cases d with
 |no=>exact⟨none,0,h,kf w,fun b o e=>by cases e⟩
 |txt t=>
  obtain⟨A,c,h1,h2,h3⟩:=h;exact⟨A,c,h1,h2,fun b o e hn=>by have:=h3 b o e hn;have:=hA.ok.g;simp only[MX.S]at*;omega⟩
 |arr nm=>
  have hl:=hA.len nm;have h:v=qc X nm:=h;unfold qc at h;show ∃A c,v= .slice A (σ.arrs nm).length c/\Sl w A c (σ.arrs nm)/\ ∀b o,A=some ⟨b,o,none⟩->σ.arrs nm≠ []->b≠X.g;by_cases e:σ.arrs nm=[]
  ·rw[if_pos (by rw[<-hl,e];rfl)]at h;rw[e];exact⟨none,0,h,kf w,fun b o e=>by cases e⟩
  ·rw[if_neg (fun e2=>e (aH (by omega))),<-hl]at h;obtain⟨r1,_,r3,r4⟩:=hA.row nm e;exact⟨_,_,h,AO r1 r4,fun b o e2 _=>by injection e2 with e2;injection e2 with e2;exact e2▸r3⟩
theorem MA.used1 (h:MA X C σ w) {lf:Int} (hb:aQ w X.g 127 (dH X lf σ)) (hl:lf.toNat=σ.left) (q2: -9223372036854775808<=lf) (q3:lf<=9223372036854775807) (hu:σ.used<C.R.length):MA X C {σ with used:=σ.used+1} (w.setCell ⟨X.g,12,none⟩ (.int .i64 ((σ.used:Int)+1))):=by
 refine h.reg (b7 w X.g 12 _) lf hl q2 q3 ?_ rfl rfl (by show σ.used+1<=_;omega) h.stk;have e:(dH X lf σ).setIfInBounds 12 (.int .i64 ((σ.used:Int)+1))=dH X lf {σ with used:=σ.used+1}:=rfl;rw[<-e];exact hb.set 12 _
theorem MA.stk1 (h:MA X C σ w) {lf:Int} (hb:aQ w X.g 127 (dH X lf σ)) (hl:lf.toNat=σ.left) (q2: -9223372036854775808<=lf) (q3:lf<=9223372036854775807) (k:Nat) (hk:k<=1024):MA X C {σ with stk:=k} (w.setCell ⟨X.g,5,none⟩ (.int .i64 (k:Int))):=by
 refine h.reg (b7 w X.g 5 _) lf hl q2 q3 ?_ rfl rfl h.used hk;have e:(dH X lf σ).setIfInBounds 5 (.int .i64 (k:Int))=dH X lf {σ with stk:=k}:=rfl;rw[<-e];exact hb.set 5 _
theorem MA.mcl (h:MA X C σ w): ∃lf:Int,lf.toNat=σ.left/\ -9223372036854775808<=lf/\lf<=9223372036854775807/\aQ w X.g 127 (dH X lf σ):=h.blk
theorem FR.new (w:World):FR (w.heap.size+1) w.heap.size (fun _=>none) none ((w.alloc (.map #[] 0)).alloc (.cells (gE w.heap.size none) 182)):=by
 have e2:=I (w.alloc (.map #[] 0)) (.cells (gE w.heap.size none) 182);have b:=am (w.alloc (.map #[] 0)) 182 (gE w.heap.size none);rw[World.size_alloc]at b;exact⟨b,((gk w).ext e2).congr fun s=>rfl,Aw⟩
end
theorem jc (r:ER Int):(∃v s,r= .ok (v,s))\/ ∃o,r= .error o:=by
 rcases r with o|⟨v,s⟩
 ·exact .inr ⟨o,rfl⟩
 ·exact .inl ⟨v,s,rfl⟩
theorem sM {E:Ms->Ex->ER Int} {ls:List UInt8} {ys:List Ex} {vs:List Int} {la:Int} {d:Dt} {s:Ms} {j:Nat} (h1:j<ls.length) (h2:j<ys.length):dr E (ls.drop j) (ys.drop j) vs la d s=
  if ls[j]=105 then(E s ys[j]).then fun v s=>dr E (ls.drop (j+1)) (ys.drop (j+1)) (vs++[v]) v d s else if ys[j].k=2 then dr E (ls.drop (j+1)) (ys.drop (j+1)) vs la (.txt ys[j].tx) s else dr E (ls.drop (j+1)) (ys.drop (j+1)) vs la (.arr ys[j].nm) s:=by
 rw[aw h1,aw h2,dr]
theorem vw {E:Ms->Ex->ER Int} {ls:List UInt8} {ys:List Ex} {vs:List Int} {la:Int} {d:Dt} {s:Ms} {j:Nat} (h1:ls.length<=j):dr E (ls.drop j) (ys.drop j) vs la d s= .ok ((vs,la,d),s):=by
 rw[aD h1,dr];intro _ _ _ _ e
 cases e
theorem wB {fn:List UInt8->Fc}: ∀(ls:List UInt8) (a:List Ex),AQ fn ls a=true-> ∀j (h:j<a.length) (h':j<ls.length),ls[j]=105->yt fn a[j]=true
 |ls,[],_,j,h,_,_=>by simp at h
 | [],y::r,_,j,_,h',_=>by simp at h'
 |c::ls,y::r,hs,0,_,_,hc=>by
  rw[AQ,ai,bE]at hs;rcases hs.1 with h|h
  ·simp at hc;simp[hc]at h
  ·exact h
 |c::ls,y::r,hs,j+1,h,h',hc=>by
  rw[AQ,ai]at hs;exact wB ls r hs.2 j (by simpa using h) (by simpa using h') (by simpa using hc)
theorem pI {fn:List UInt8->Fc} {a:List Ex} (h:vG fn a=true): ∀y∈a,yt fn y=true:=by rw[s_]at h;exact fun y hy=>List.all_eq_true.1 h y hy
theorem yT {fn:List UInt8->Fc} {a:List St} (h:nB fn a=true): ∀y∈a,AP fn y=true:=by rw[qz]at h;exact fun y hy=>List.all_eq_true.1 h y hy
theorem xE {E:Ms->Ex->ER Int} {vs:List Int} {s:Ms} {ys:List Ex} {j:Nat} (h:j<ys.length):tL E vs s (ys.drop j)=(E s ys[j]).then fun v s=>tL E (vs++[v]) s (ys.drop (j+1)):=by
 rw[aw h,tL]
theorem ww {S:Ms->Lo->St->k_} {s:Ms} {l:Lo} {ys:List St} {j:Nat} (h:j<ys.length):lw S s l (ys.drop j)=(S s l ys[j]).then fun p s=>match p.1 with
  |some v=> .ok ((some v,p.2),s)
  |none=>lw S s p.2 (ys.drop (j+1)):=by
 rw[aw h,lw];rfl
theorem xh {l:Lo} {ps:List (List UInt8)} {vs:List Int} {j:Nat} (h:j<ps.length) (h':j<vs.length):qi l (ps.drop j) (vs.drop j)=qi (l.upd ps[j] vs[j]) (ps.drop (j+1)) (vs.drop (j+1)):=by
 rw[aw h,aw h',qi]
theorem zC {l:Lo} {ps:List (List UInt8)} {vs:List Int} {j:Nat} (h:ps.length<=j):qi l (ps.drop j) (vs.drop j)=l:=by
 rw[aD h];unfold qi;rfl
def aC (vs:List Int):Array Value:= #[.int .i64 (vs.getD 0 0), .int .i64 (vs.getD 1 0), .int .i64 (vs.getD 2 0)]
theorem Ad: ∀(vs:List Int) (v:Int),vs.length<3->(aC vs).setIfInBounds vs.length (.int .i64 v)=aC (vs++[v])
 | [],v,_=>rfl
 | [a],v,_=>rfl
 | [a,b],v,_=>rfl
 | _::_::_::_,v,h=>by simp at h;omega
def oW (vs:List Int):List Value:=vs.map (.int .i32)
def jR (w:World) (base:Nat) (v:Value) (vs:List Int):Prop:=w.ownsRow base 21 1 v vs.length (oW vs)
theorem Dg:mU prog 179 21 1 4 (.int .i32 0):=⟨underlying179,by kernel_rfl,by rfl,by decide⟩
def ym (w:World) (P:Nat->Prop) (v:Value) (vs:List Int):Prop:=
 ∃A c,v= .slice A vs.length c/\(vs=[]\/vs.length<=c/\c<=maxLen/\ ∃b o,A=some ⟨b,o,none⟩/\P b/\b<w.heap.size/\ ∀i,(h:i<vs.length)->w.cell? ⟨b,o+i,none⟩=some (.int .i32 vs[i]))
section
variable {w w':World} {base:Nat} {v:Value} {vs:List Int}
theorem ym.nil_ (w:World) (P:Nat->Prop):ym w P (.slice none 0 0) []:=⟨none,0,rfl, .inl rfl⟩
theorem ym.keep {P Q:Nat->Prop} (h:ym w P v vs) (hk:cw P w w') (hQ: ∀b,P b->b<w.heap.size->Q b):ym w' Q v vs:=by
 obtain⟨A,c,rfl,h⟩:=h;exact⟨A,c,rfl,h.imp id fun⟨h1,h2,b,o,ha,hP,hb,hc⟩=>⟨h1,h2,b,o,ha,hQ b hP hb,az hb hk.size,fun i hi=>(hk.cell _ hP hb).trans (hc i hi)⟩⟩
theorem jR.nil_ (w:World) (base:Nat):jR w base (.slice none 0 0) []:=World.ownsRow_nil w base 21 1
theorem jR.rd (h:jR w base v vs):ym w (fun b=>base<=b) v vs:=by
 rcases h.2 with⟨rfl,h0⟩|⟨g,cap,cur,rfl,hb,hg,hnc,hcm,hcs,ht⟩
 ·have:vs=[]:=aH h0;subst this;exact .nil_ _ _
 ·refine⟨_,cap,rfl, .inr ⟨hnc,hcm,g,0,rfl,hb,(Array.getElem?_eq_some_iff.1 hg).1,fun i hi=> ?_⟩⟩;rw[aA,cell_of_row w g i cur 21 (0,0) hg];have h3:(oW vs)[i]? =some (.int .i32 vs[i]):=by simp[oW,hi]
  rw[<-ht,cB]at h3;rw[if_pos (by omega)]at h3;simpa using h3
theorem jR.mv {S:Nat->Prop} (h:jR w base v vs) (hM:Mv S w w') (hS: ∀k,base<=k->k<w.heap.size-> ¬S k):jR w' base v vs:=i6 h fun b h1 h2 _=>hM.block b h2 (hS b h1 h2)
theorem jR.ext (h:jR w base v vs) (hE:au w w'):jR w' base v vs:=i6 h fun b h1 h2 _=>hE.obj h2
theorem jR.snoc {A n cap:Nat} {x:Int} (hl:vs.length=n) (hn:w'.ownsRow base 21 1 (.slice (some ⟨A,0,none⟩) (n+1) cap) (n+1) (oW vs++[.int .i32 x])):jR w' base (.slice (some ⟨A,0,none⟩) (n+1) cap) (vs++[x]):=by
 subst hl;unfold jR oW;rw[Z,gA];exact hn
end
section
variable {P:Program} {ops:Array Oper} {Q:Exit->Act->World->Prop}
theorem d6 (S:Nat->Prop) {id:Nat} {a:Act} {w:World} (m f:Nat) (l:List tU) (x:Nat) (hm:P.follows .mixedOrders=true) (hok:A6 ops m a.tmps.size=true)
  (hs:iX au l) (hx:lr x (Mv S) l)
  (h:dU P Q ops f (ee l) (some x) (fun _=>false) au (Mv S) w.drew (fun a Φ=> ∀w',Mv S w w'->(∀p∈Φ,p.2 w')->wpList P ops Q (ops.toList.drop m) a w') (ops.toList.take m) 0 a []):(Code.region id ops true).wp P Q a w:=by
 refine eW m f (ee l) (some x) au (Mv S) hm hok aO (fun _ _ _=>Mv.trans) (fun _ _ h=> .of_ext h) (fun _ _ _=>pq) hs.out hx.out ?_;exact dU.fin (fun a Φ h w' h1 h2=>h w' h1.un h2) _ _ _ _ h
end
theorem ec {X:MX} {C:Cx} {w w':World} {r:ER Int} {v:Int} {σ:Ms} (hM:Mv X.S w w') (h:r= .ok (v,σ)) (hA:MA X C σ w'):sQ X C w r (.returned (.int .i32 v)) w':=by
 subst h;exact⟨hM,rfl,hA⟩
theorem cQ {X:MX} {C:Cx} {w w':World} {r:ER Int} {o:Oc} {k:Int} (hM:Mv X.S w w') (h:r= .error o) (hk:o.kind=k) (hH:gy X o w'):sQ X C w r (.panicked [{v:= .iface 129 (.agg #[.int .i64 k]),recovered:=false}]) w':=by
 subst h;subst hk;exact⟨hM,rfl,hH⟩
theorem sQ.ok_ {X:MX} {C:Cx} {w w':World} {e:Ending} {v:Int} {σ:Ms} (h:sQ X C w (.ok (v,σ)) e w'):Mv X.S w w'/\e= .returned (.int .i32 v)/\MA X C σ w':=h
theorem sQ.err_ {X:MX} {C:Cx} {w w':World} {e:Ending} {o:Oc} (h:sQ X C w (.error o) e w'):Mv X.S w w'/\e= .panicked [{v:= .iface 129 (.agg #[.int .i64 o.kind]),recovered:=false}]/\gy X o w':=h
theorem gC {X:MX} {C:Cx} {fb lb:Nat} {w w':World} {r:k_} {ret:Option Int} {l:Lo} {σ:Ms} (hM:Mv (X.T fb lb) w w') (h:r= .ok ((ret,l),σ)) (hA:MA X C σ w') (hF:FR fb lb l ret w'):yk X C fb lb w r (.returned (.tuple #[])) w':=by
 subst h;exact⟨hM,rfl,hA,hF⟩
theorem cL {X:MX} {C:Cx} {fb lb:Nat} {w w':World} {r:k_} {o:Oc} {k:Int} (hM:Mv (X.T fb lb) w w') (h:r= .error o) (hk:o.kind=k) (hH:gy X o w'):yk X C fb lb w r (.panicked [{v:= .iface 129 (.agg #[.int .i64 k]),recovered:=false}]) w':=by
 subst h;subst hk;exact⟨hM,rfl,hH⟩
theorem yk.ok_ {X:MX} {C:Cx} {fb lb:Nat} {w w':World} {e:Ending} {p:Option Int×Lo} {σ:Ms} (h:yk X C fb lb w (.ok (p,σ)) e w'):Mv (X.T fb lb) w w'/\e= .returned (.tuple #[])/\MA X C σ w'/\FR fb lb p.2 p.1 w':=h
theorem yk.err_ {X:MX} {C:Cx} {fb lb:Nat} {w w':World} {e:Ending} {o:Oc} (h:yk X C fb lb w (.error o) e w'):Mv (X.T fb lb) w w'/\e= .panicked [{v:= .iface 129 (.agg #[.int .i64 o.kind]),recovered:=false}]/\gy X o w':=h
theorem tE {X:MX} {C:Cx} {σ:Ms} {w:World} (h:MA X C σ w) (hl:σ.left=0):Calls prog 162 #[X.p] w fun e w'=>e= .panicked [{v:= .iface 129 (.agg #[.int .i64 3]),recovered:=false}]/\Mv X.S w w'/\gy X σ.long w':=
 (oQ X C σ w h).mono fun e w' q=>by
  obtain⟨hg,q⟩:=q;rw[if_pos hl]at q;exact⟨q.1, .ms_g h.ok hg,q.2⟩
theorem eR {X:MX} {C:Cx} {σ:Ms} {w:World} (h:MA X C σ w) (hl:σ.left≠0):Calls prog 162 #[X.p] w fun e w'=>e= .returned (.tuple #[])/\Mv X.S w w'/\MA X C σ.step w':=
 (oQ X C σ w h).mono fun e w' q=>by
  obtain⟨hg,q⟩:=q;rw[if_neg hl]at q;exact⟨q.1, .ms_g h.ok hg,q.2⟩
structure EQ (X:MX) (C:Cx) (σ:Ms) (l:Lo) (fb lb:Nat) (w:World) (pb:Nat) (cs:Array Value) (v:Value) (xs:List Ex) (W:World):Prop where
 mv:Mv X.S w W
 ma:MA X C σ W
 fi:FI X fb lb l none W
 bk:aQ W pb 70 cs
 re:cu W X.P v xs
 hp:X.hi<=pb
 hw:X.hi<=w.heap.size
section
variable {X:MX} {C:Cx} {σ σ':Ms} {l:Lo} {fb lb pb:Nat} {w W W':World} {cs:Array Value} {v:Value} {xs:List Ex}
theorem iQ (hA:MA X C σ w) (hF:FI X fb lb l none w) (hR:cu w X.P v xs) (cs:Array Value):EQ X C σ l fb lb w w.heap.size cs v xs (w.alloc (.cells cs 70)):=
 ⟨.of_ext (I w _),hA.ext (I w _),hF.ext (I w _),am w _ _,hR.xt (I w _),hA.top,hA.top⟩
theorem EQ.nx (h:EQ X C σ l fb lb w pb cs v xs W) (hM:Mv X.S W W') (hA:MA X C σ' W'):EQ X C σ' l fb lb w pb cs v xs W':=
 ⟨h.mv.trans hM,hA,h.fi.ms hM,hM.blk h.bk (MX.S_lt h.hp),h.re.ms hM,h.hp,h.hw⟩
theorem EQ.ext (h:EQ X C σ l fb lb w pb cs v xs W) (hE:au W W'):EQ X C σ l fb lb w pb cs v xs W':=h.nx (.of_ext hE) (h.ma.ext hE)
end
structure YC (w:World) (b o:Nat) (k:Int) (op nm tx:List UInt8) (v:Int) (B:Option Addr) (n d:Nat):Prop where
 c0:w.cell? ⟨b,o,none⟩=some (.int .i64 k)
 c1:w.cell? ⟨b,o+1,none⟩=some (.string (ah op))
 c2:w.cell? ⟨b,o+2,none⟩=some (.string (ah nm))
 c3:w.cell? ⟨b,o+3,none⟩=some (.string (ah tx))
 c4:w.cell? ⟨b,o+4,none⟩=some (.int .i64 v)
 c5:w.cell? ⟨b,o+5,none⟩=some (.slice B n d)
theorem YC.kp {w w':World} {P:Nat->Prop} {b o:Nat} {k:Int} {op nm tx:List UInt8} {v:Int} {B:Option Addr} {n d:Nat} (h:YC w b o k op nm tx v B n d) (hk:cw P w w') (hP:P b) (hb:b<w.heap.size):YC w' b o k op nm tx v B n d:=
 ⟨(hk.cell _ hP hb).trans h.c0,(hk.cell _ hP hb).trans h.c1,(hk.cell _ hP hb).trans h.c2,(hk.cell _ hP hb).trans h.c3,(hk.cell _ hP hb).trans h.c4,(hk.cell _ hP hb).trans h.c5⟩
theorem YC.ms {X:MX} {w w':World} {b o:Nat} {k:Int} {op nm tx:List UInt8} {v:Int} {B:Option Addr} {n d:Nat} (h:YC w b o k op nm tx v B n d) (hM:Mv X.S w w') (hP:X.P b) (hb:b<w.heap.size):YC w' b o k op nm tx v B n d:=
 h.kp (hM.keepP fun k hk _=>MX.S_P hk) hP hb
theorem cu.yc {w:World} {P:Nat->Prop} {A:Option Addr} {n c:Nat} {xs:List Ex} (h:cu w P (.slice A n c) xs) (i:Nat) (hi:i<xs.length):
  ∃b o B d,A=some ⟨b,o,none⟩/\b<w.heap.size/\P b/\YC w b (o+i*6) xs[i].k xs[i].op xs[i].nm xs[i].tx xs[i].v B xs[i].args.length d/\cu w P (.slice B xs[i].args.length d) xs[i].args:=by
 obtain⟨b,o,a,rfl,hb,hP,h0,h1,h2,h3,h4,h5,hR⟩:=h.at_ i hi;obtain⟨B,d,rfl,_⟩:=hR.form;exact⟨b,o,B,d,rfl,hb,hP,⟨h0,h1,h2,h3,h4,h5⟩,hR⟩
def sR (X:MX) (C:Cx) (n:Nat) (x:Ex):Prop:= ∀(σ:Ms) (l:Lo) (fb lb:Nat) (w:World) (A:Option Addr) (c:Nat),MA X C σ w->FI X fb lb l none w->σ.left≠0->2*σ.left<=n+1->cu w X.P (.slice A x.args.length c) x.args->
 Calls prog 164 #[X.p, .pointer (some ⟨fb,0,none⟩), .agg #[.int .i64 x.k, .string (ah x.op), .string (ah x.nm), .string (ah x.tx), .int .i64 x.v, .slice A x.args.length c]] w (sQ X C w (ev C (n+1) σ l x))
end
section
open Go.RowKit
theorem tF (X:MX) (C:Cx) (n:Nat) (x:Ex) (σ:Ms) (l:Lo) (fb lb:Nat) (w:World) (A:Option Addr) (c:Nat) (hA:MA X C σ w) (hF:FI X fb lb l none w) (hl:σ.left=0) (hR:cu w X.P (.slice A x.args.length c) x.args):
  Calls prog 164 #[X.p, .pointer (some ⟨fb,0,none⟩), .agg #[.int .i64 x.k, .string (ah x.op), .string (ah x.nm), .string (ah x.tx), .int .i64 x.v, .slice A x.args.length c]] w (sQ X C w (ev C n σ l x)):=by
 have HE:=G (show ev C n σ l x= .error σ.long by cases n with|zero=>rw[ev]|succ n=>rw[ev,if_pos hl]);obtain⟨k,op,nm,tx,v,xs⟩:=x;simp only[Ex.k,Ex.op,Ex.nm,Ex.tx,Ex.v,Ex.args]at hR⊢;obtain⟨N,hN⟩: ∃N,xs.length=N:=⟨_,rfl⟩
 rw[hN]at hR⊢;have HQ0:=G (iQ hA hF hR #[.int .i64 k, .string (ah op), .string (ah nm), .string (ah tx), .int .i64 v, .slice A N c]);have HS:=G (tE HQ0.out.ma hl);clear hA hF hR hN;simp only[MX.p]at*;go_enter func164,ntmps164;go_wp2_with (go_at_call 162;refine HS.out.mono ?_;rintro e w1 ⟨rfl,hM,hH⟩;have HM1:=G (HQ0.out.mv.trans hM);have HH:=G hH;clear hM hH);exact⟨rfl,cQ HM1.out HE.out rfl HH.out⟩
theorem zB (X:MX) (C:Cx) (n:Nat) (op nm tx:List UInt8) (v:Int) (xs:List Ex):sR X C n (.mk 1 op nm tx v xs):=by
 intro σ l fb lb w A c hA hF hl hn hR;simp only[Ex.k,Ex.op,Ex.nm,Ex.tx,Ex.v,Ex.args]at hR⊢;have hn1:2*σ.step.left<=n:=by show 2*(σ.left-1)<=n;omega
 obtain⟨N,hN⟩: ∃N,(xs).length=N:=⟨_,rfl⟩
 rw[hN]at hR⊢;have hwr: ∀z:Int,IntKind.i32.wrap z=kM z:=fun _=>rfl;have HQ0:=G (iQ hA hF hR #[.int .i64 1, .string (ah op), .string (ah nm), .string (ah tx), .int .i64 v, .slice A N c]);have HS:=G (eR HQ0.out.ma hl);have HE:=G (AB (C:=C) (n:=n) (l:=l) (op:=op) (nm:=nm) (tx:=tx) (v:=v) (a:=xs) hl);clear hA hF hR hN;simp only[MX.p]at*;go_enter func164,ntmps164;go_wp2_with (go_at_call 162;refine HS.out.mono ?_;rintro e w1 ⟨rfl,hM,hA1⟩;have HQ1:=G (HQ0.out.nx hM hA1);have f0:=HQ1.out.bk.cell;clear hM hA1 HS HQ0);go_ret;exact ec HQ1.out.mv HE.out HQ1.out.ma
theorem zA (X:MX) (C:Cx) (n:Nat) (op nm tx:List UInt8) (v:Int) (xs:List Ex) (hnm:nm.length<=1073741824):sR X C n (.mk 3 op nm tx v xs):=by
 intro σ l fb lb w A c hA hF hl hn hR;simp only[Ex.k,Ex.op,Ex.nm,Ex.tx,Ex.v,Ex.args]at hR⊢;have hn1:2*σ.step.left<=n:=by show 2*(σ.left-1)<=n;omega
 obtain⟨N,hN⟩: ∃N,(xs).length=N:=⟨_,rfl⟩
 rw[hN]at hR⊢;have hwr: ∀z:Int,IntKind.i32.wrap z=kM z:=fun _=>rfl;have HQ0:=G (iQ hA hF hR #[.int .i64 3, .string (ah op), .string (ah nm), .string (ah tx), .int .i64 v, .slice A N c]);have HS:=G (eR HQ0.out.ma hl);have hE:=Cm (C:=C) (n:=n) (l:=l) (op:=op) (nm:=nm) (tx:=tx) (v:=v) (a:=xs) hl;clear hA hF hR hN
 cases hq:l nm with
 |some z=>
  have HE:=G (show ev C (n+1) σ l (.mk 3 op nm tx v xs)= .ok (z,σ.step) by rw[hE,hq];rfl);clear hE;simp only[MX.p]at*;go_enter func164,ntmps164;go_wp2_with (go_at_call 162;refine HS.out.mono ?_;rintro e w1 ⟨rfl,hM,hA1⟩;have HQ1:=G (HQ0.out.nx hM hA1);have f0:=HQ1.out.bk.cell;clear hM hA1 HS HQ0);refine ay 12 1 [] mixed (by kernel_rfl) trivial ?_;repeat (refine sx ?_ (fun w1 hU=> ?_) ?_;rotate_left;(focus have f0:=(HQ1.out.ext hU.un).bk.cell;have fk:=(HQ1.out.ext hU.un).fi.fr.blk.cell;have f2:=(HQ1.out.ext hU.un).fi.fr.look hnm;rw[hq]at f2;simp only[bz,cz]at f2;clear hU;go_simp<;>with_reducible rfl);simp only[aY,aX,aW,aV,aU])
  intro w7 hw7 _;simp only[aa,aJ];have HQ2:=G (HQ1.out.ext hw7.un);clear hw7 f0;go_wp2_with fail;go_ret;exact ec HQ2.out.mv HE.out HQ2.out.ma
 |none=>
  have HE:=G (show ev C (n+1) σ l (.mk 3 op nm tx v xs)= .ok (σ.ints nm,σ.step) by rw[hE,hq];rfl);clear hE;simp only[MX.p]at*;go_enter func164,ntmps164;go_wp2_with (go_at_call 162;refine HS.out.mono ?_;rintro e w1 ⟨rfl,hM,hA1⟩;have HQ1:=G (HQ0.out.nx hM hA1);have f0:=HQ1.out.bk.cell;clear hM hA1 HS HQ0);refine ay 12 1 [] mixed (by kernel_rfl) trivial ?_;repeat (refine sx ?_ (fun w1 hU=> ?_) ?_;rotate_left;(focus have f0:=(HQ1.out.ext hU.un).bk.cell;have fk:=(HQ1.out.ext hU.un).fi.fr.blk.cell;have f2:=(HQ1.out.ext hU.un).fi.fr.look hnm;rw[hq]at f2;simp only[dJ,cJ]at f2;clear hU;go_simp<;>with_reducible rfl);simp only[aY,aX,aW,aV,aU])
  intro w7 hw7 _;simp only[aa,aJ];have HQ2:=G (HQ1.out.ext hw7.un);clear hw7 f0 HQ1;obtain⟨lf,_,_,_,hmb⟩:=HQ2.out.ma.mcl;have HMB:=G hmb;clear hmb;go_wp2_with fail;refine ay 8 1 [] mixed (by kernel_rfl) trivial ?_;repeat (refine sx ?_ (fun w1 hU=> ?_) ?_;rotate_left;(focus have f0:=(HQ2.out.ext hU.un).bk.cell;have fk:=(HMB.out.ext hU.un).cell;have f2:=(HQ2.out.ext hU.un).ma.lookI hnm;clear hU;go_simp<;>with_reducible rfl);simp only[aY,aX,aW,aV,aU])
  intro w8 hw8 _;simp only[aa,aJ];have HQ3:=G (HQ2.out.ext hw8.un);clear hw8;go_wp2_with fail;go_ret;exact ec HQ3.out.mv HE.out HQ3.out.ma
theorem zx (X:MX) (C:Cx) (n:Nat) (op nm tx:List UInt8) (v:Int) (y:Ex) (ys:List Ex) (hy:mP X C n y):sR X C n (.mk 6 op nm tx v (y::ys)):=by
 intro σ l fb lb w A c hA hF hl hn hR;simp only[Ex.k,Ex.op,Ex.nm,Ex.tx,Ex.v,Ex.args]at hR⊢;have hn1:2*σ.step.left<=n:=by show 2*(σ.left-1)<=n;omega
 obtain⟨N,hN⟩: ∃N,(y::ys).length=N:=⟨_,rfl⟩
 rw[hN]at hR⊢;have hwr: ∀z:Int,IntKind.i32.wrap z=kM z:=fun _=>rfl;have HQ0:=G (iQ hA hF hR #[.int .i64 6, .string (ah op), .string (ah nm), .string (ah tx), .int .i64 v, .slice A N c]);have HS:=G (eR HQ0.out.ma hl);have hE:=Az (C:=C) (n:=n) (l:=l) (op:=op) (nm:=nm) (tx:=tx) (v:=v) (a:=y::ys) hl;rw[show(y::ys).getD 0 nf=y from rfl]at hE;obtain⟨b,o,B,d,hAq,hb,hPb,hY,hRy⟩:=hR.yc 0 (by simp);subst hAq;have hN0:0<N:=by rw[<-hN];simp
 have hN0':(0:Int)<(N:Int):=by omega
 simp only[aB,a_,br]at hY hRy;obtain⟨k2,op2,nm2,tx2,v2,as2⟩:=y;have HV:=G hy;unfold mP at HV;simp only[Ex.k,Ex.op,Ex.nm,Ex.tx,Ex.v,Ex.args]at hY hRy HV;have HY:=G hY;have HRy:=G hRy;clear hA hF hR hN hY hRy hy;have HT1:True:=trivial;have HW:=G (fun c W=>l7 c W);rcases jc (ev C n σ.step l (Ex.mk k2 op2 nm2 tx2 v2 as2))with⟨i,s1,hr⟩|⟨oc,hr⟩
 ·rw[hr,d_]at hE;have hrl:=hn1;by_cases h33:op=[33]
  ·subst h33;rw[if_pos rfl]at hE;have HE:=G hE;clear hE;simp only[MX.p]at*;go_enter func164,ntmps164;go_wp2_with (first|(go_at_call 162;refine HS.out.mono ?_;rintro e w1 ⟨rfl,hM,hA1⟩;have HQ1:=G (HQ0.out.nx hM hA1);have f0:=HQ1.out.bk.cell;obtain⟨e0,e1,e2,e3,e4,e5⟩:=HY.out.ms HQ1.out.mv hPb hb;clear hM hA1 HS HQ0)|(go_at_call 164;clear HT1;refine(HV.out σ.step l fb lb _ B d HQ1.out.ma HQ1.out.fi (hrl) (HRy.out.ms HQ1.out.mv)).mono ?_;intro e w2 h;rw[hr]at h;obtain⟨hM,rfl,hA2⟩:=h.ok_;have HQ2:=G (HQ1.out.nx hM hA2);have f0:=HQ2.out.bk.cell;clear e0 e1 e2 e3 e4 e5;clear hM hA2)|(go_at_call 188;refine(HW.out _ _).mono ?_;rintro e w3 ⟨rfl,hE3⟩;have HQ3:=G (HQ2.out.ext hE3);clear hE3));go_ret;exact ec HQ3.out.mv HE.out HQ3.out.ma
  ·rw[if_neg h33]at hE;have HE:=G hE;have h33b:=beq_eq_false_iff_ne.2 h33;clear hE;simp only[MX.p]at*;go_enter func164,ntmps164;go_wp2_with (first|(go_at_call 162;refine HS.out.mono ?_;rintro e w1 ⟨rfl,hM,hA1⟩;have HQ1:=G (HQ0.out.nx hM hA1);have f0:=HQ1.out.bk.cell;obtain⟨e0,e1,e2,e3,e4,e5⟩:=HY.out.ms HQ1.out.mv hPb hb;clear hM hA1 HS HQ0)|(go_at_call 164;clear HT1;refine(HV.out σ.step l fb lb _ B d HQ1.out.ma HQ1.out.fi (hrl) (HRy.out.ms HQ1.out.mv)).mono ?_;intro e w2 h;rw[hr]at h;obtain⟨hM,rfl,hA2⟩:=h.ok_;have HQ2:=G (HQ1.out.nx hM hA2);have f0:=HQ2.out.bk.cell;clear e0 e1 e2 e3 e4 e5;clear hM hA2));go_ret;exact ec HQ2.out.mv HE.out HQ2.out.ma
 ·rw[hr,ed]at hE;have hrl:=hn1;have HE:=G hE;clear hE;simp only[MX.p]at*;go_enter func164,ntmps164;go_wp2_with (first|(go_at_call 162;refine HS.out.mono ?_;rintro e w1 ⟨rfl,hM,hA1⟩;have HQ1:=G (HQ0.out.nx hM hA1);have f0:=HQ1.out.bk.cell;obtain⟨e0,e1,e2,e3,e4,e5⟩:=HY.out.ms HQ1.out.mv hPb hb;clear hM hA1 HS HQ0)|(go_at_call 164;clear HT1;refine(HV.out σ.step l fb lb _ B d HQ1.out.ma HQ1.out.fi (hrl) (HRy.out.ms HQ1.out.mv)).mono ?_;intro e w2 h;rw[hr]at h;obtain⟨hM,rfl,hH⟩:=h.err_;have HMx:=G (HQ1.out.mv.trans hM);have HH:=G hH;clear hM hH));exact⟨rfl,cQ HMx.out HE.out rfl HH.out⟩
end
section
def ph {α:Type} (k:Nat) (r:ER α):Prop:=match r with
 | .ok (_,s)=>s.stk=k
 | .error _=>True
theorem ph.then {α β:Type} {k k':Nat} {r:ER α} {f:α->Ms->ER β} (h:ph k r) (hf: ∀a s,s.stk=k->ph k' (f a s)):ph k' (r.then f):=by
 cases r with
 |error o=>exact trivial
 |ok p=>exact hf _ _ h
theorem pF {R:Rs} {s:Ms} {c a b d:Int} {l:List UInt8} {k:Nat} (h:s.stk=k):ph k (fx R s c a b d l):=by
 unfold fx;split
 ·exact trivial
 ·exact h
theorem lS {E:Ms->Ex->ER Int} {k:Nat} (hE: ∀s x,s.stk=k->ph k (E s x)): ∀(ls:List UInt8) (ys:List Ex) (vs:List Int) (la:Int) (d:Dt) (s:Ms),s.stk=k->ph k (dr E ls ys vs la d s)
 |c::ls,y::ys,vs,la,d,s,h=>by
  rw[dr];split
  ·exact(hE s y h).then fun v s h=>lS hE ls ys _ _ _ s h
  ·split
   ·exact lS hE ls ys _ _ _ s h
   ·exact lS hE ls ys _ _ _ s h
 | [],_,vs,la,d,s,h=>by unfold dr;exact h
 | _::_,[],vs,la,d,s,h=>by unfold dr;exact h
theorem y9 {s:Ms} {n:Nat} {r:List UInt8}: ∀d:Dt,(d.put s n r).stk=s.stk
 | .no=>rfl
 | .txt _=>rfl
 | .arr _=>rfl
theorem zV {R:Rs} {E:Ms->Ex->ER Int} {k:Nat} (hE: ∀s x,s.stk=k->ph k (E s x)) (c:Int) (ls:List UInt8) (a:List Ex) (s:Ms) (h:s.stk=k):ph k (mx R E s c ls a):=by
 unfold mx kY;refine(lS hE ls a [] 0 .no s h).then fun p s h=> ?_;split
 ·exact(pF h).then fun r s h=>h
 ·split
  ·exact trivial
  ·split
   ·exact(pF h).then fun r s h=>h
   ·exact(pF h).then fun r s h=>(y9 _).trans h
theorem tJ {E:Ms->Ex->ER Int} {k:Nat} (hE: ∀s x,s.stk=k->ph k (E s x)): ∀(ys:List Ex) (vs:List Int) (s:Ms),s.stk=k->ph k (tL E vs s ys)
 | [],vs,s,h=>h
 |y::r,vs,s,h=>(hE s y h).then fun v s h=>tJ hE r _ s h
theorem lu {S:Ms->Lo->St->k_} {k:Nat} (hS: ∀s l x,s.stk=k->ph k (S s l x)): ∀(ys:List St) (l:Lo) (s:Ms),s.stk=k->ph k (lw S s l ys)
 | [],l,s,h=>h
 |y::r,l,s,h=>by
  rw[lw];refine(hS s l y h).then fun p s h=> ?_;split
  ·exact h
  ·exact lu hS r _ s h
theorem zU {S:Ms->Lo->St->k_} (hS: ∀k s l x,s.stk=k->ph k (S s l x)) (f:Fc) (vs:List Int) (s:Ms) {k:Nat} (h:s.stk=k):ph k (fq S f vs s):=by
 unfold fq;split
 ·exact trivial
 ·refine(lu (k:=s.stk+fZ f) (fun s l x h=>hS _ s l x h) f.body _ _ rfl).then fun p s' h'=> ?_;show s'.stk-fZ f=k;omega
theorem zX (op:List UInt8) (a b:Int) (s:Ms) {k:Nat} (h:s.stk=k):ph k (ig op a b s):=by
 unfold ig;repeat' split
 all_goals first|exact h|exact trivial
theorem xF (C:Cx): ∀n,(∀k s l x,s.stk=k->ph k (ev C n s l x))/\(∀k s l x,s.stk=k->ph k (st C n s l x))/\(∀k s l c b,s.stk=k->ph k (wh C n s l c b))
 |0=>⟨fun k s l x h=>(by rw[ev];exact trivial),fun k s l x h=>(by rw[st];exact trivial),fun k s l c b h=>(by rw[wh];exact trivial)⟩
 |n+1=>by
  obtain⟨h1,h2,h3⟩:=xF C n;refine⟨fun k s l x h=> ?_,fun k s l x h=> ?_,fun k s l c b h=> ?_⟩
  ·have h':s.step.stk=k:=h;rw[ev];split
   ·exact trivial
   split
   ·exact h'
   split
   ·exact h'
   split
   ·refine(h1 k _ l _ h').then fun i s h=> ?_;split
    ·exact h
    ·exact trivial
   split
   ·split
    ·exact zV (fun s x h=>h1 k s l x h) _ _ _ _ h'
    ·exact(tJ (fun s x h=>h1 k s l x h) _ _ _ h').then fun vs s h=>zU (fun k s l x h=>h2 k s l x h) _ _ _ h
   split
   ·refine(h1 k _ l _ h').then fun i s h=> ?_;split<;>exact h
   ·refine(h1 k _ l _ h').then fun i s h=> ?_;split
    ·exact h
    split
    ·exact h
    refine(h1 k _ l _ h).then fun j s h=> ?_;split
    ·exact h
    ·exact zX _ _ _ _ h
  ·have h':s.step.stk=k:=h;rw[st];split
   ·exact trivial
   split
   ·exact h3 k _ _ _ _ h'
   refine ph.then (k:=k) (by split;exact h';exact h1 k _ _ _ h') fun v s h=> ?_;split
   ·exact h
   split
   ·split
    ·exact h
    ·exact h
   split
   ·refine(h1 k _ l _ h).then fun u s h=> ?_;split
    ·exact h
    ·exact trivial
   split
   ·exact lu (fun s l x h=>h2 k s l x h) _ _ _ h
   split<;>exact h
  ·rw[wh];refine(h1 k _ l _ h).then fun v s h=> ?_;split
   ·exact h
   refine(lu (fun s l x h=>h2 k s l x h) _ _ _ h).then fun p s h=> ?_;split
   ·exact h
   ·exact h3 k _ _ _ _ h
theorem uo {C:Cx} {n:Nat} {s s':Ms} {l:Lo} {xs:List St} {p:Option Int×Lo} (h:lw (fun s l y=>st C n s l y) s l xs= .ok (p,s')):s'.stk=s.stk:=by
 have:=lu (k:=s.stk) (fun s l x h=>(xF C n).2.1 _ s l x h) xs l s rfl;rw[h]at this;exact this
end
section
open Go.RowKit
structure RU (X:MX) (C:Cx) (σ:Ms) (w:World) (cs:Array Value) (pv bv av:Value) (ps:List (List UInt8)) (bd:List St) (vs:List Int) (W:World):Prop where
 mv:Mv X.S w W
 ma:MA X C σ W
 bk:aQ W w.heap.size 59 cs
 rp:lk W X.P pv ps
 rb:cK W X.P bv bd
 ra:ym W (fun b=>X.hi<=b/\b<w.heap.size) av vs
 hw:X.hi<=w.heap.size
section
variable {X:MX} {C:Cx} {σ σ':Ms} {w W W':World} {cs:Array Value} {pv bv av:Value} {ps:List (List UInt8)} {bd:List St} {vs:List Int} {fb lb:Nat} {l:Lo} {ret:Option Int}
theorem RU.go {S:Nat->Prop} (h:RU X C σ w cs pv bv av ps bd vs W) (hM:Mv S W W') (hS: ∀k,k<w.heap.size+1->S k->X.S k) (hA:MA X C σ' W'):RU X C σ' w cs pv bv av ps bd vs W':=by
 have hw:=h.hw;have hg:=h.ma.ok.g;have hp: ∀k,X.P k-> ¬S k:=fun k hk hs=>MX.S_P hk (hS k (by simp only[MX.S,MX.P]at*;omega) hs);refine⟨h.mv.tr hM fun i hi hs=>hS i (by omega) hs,hA,hM.blk h.bk fun e=>MX.S_lt hw (hS _ (by omega) e),h.rp.keep (hM.keepP fun k hk _=>hp k hk) fun b hb _=>hb,h.rb.keep (hM.keepP fun k hk _=>hp k hk) fun b hb _=>hb,h.ra.keep (hM.keepP fun k hk _ hs=>MX.S_lt hk.1 (hS k (by omega) hs)) fun b hb _=>hb,hw⟩
theorem RU.ext (h:RU X C σ w cs pv bv av ps bd vs W) (hE:au W W'):RU X C σ w cs pv bv av ps bd vs W':=h.go (S:=fun _=>False) (.of_ext hE) (fun _ _ h=>h.elim) (h.ma.ext hE)
theorem RU.new (hA:MA X C σ w) (h1:lk w X.P pv ps) (h2:cK w X.P bv bd) (h3:ym w (fun b=>X.hi<=b) av vs) (cs:Array Value):RU X C σ w cs pv bv av ps bd vs (w.alloc (.cells cs 59)):=
 ⟨.of_ext (I w _),hA.ext (I w _),am w _ _,h1.keep (.of_ext (I w _)) fun b hb _=>hb,h2.keep (.of_ext (I w _)) fun b hb _=>hb,h3.keep (.of_ext (I w _)) fun b hb hlt=>⟨hb,hlt⟩,hA.top⟩
theorem RU.fr (h:RU X C σ w cs pv bv av ps bd vs W) (hF:FR fb lb l ret W) (hf:w.heap.size+1<=fb) (hl:w.heap.size+1<=lb):FI X fb lb l ret W:=⟨hF,by have:=h.hw;omega,by have:=h.hw;omega⟩
theorem MX.T_new {k n:Nat} (hf:n+1<=fb) (hl:n+1<=lb):k<n+1->X.T fb lb k->X.S k:=fun hk h=>by
 rcases h with h|h|h
 ·exact h
 ·omega
 ·omega
theorem RU.lo (h:RU X C σ w cs pv bv av ps bd vs W) (hg:W.grownBy W' (some lb)) (hl:w.heap.size+1<=lb):RU X C σ w cs pv bv av ps bd vs W':=
 have hM:Mv (fun k=>k=lb) W W':= .of_grown hg fun k e=>by injection e with e;exact e.symm
 h.go hM (fun k hk e=>by omega) (h.ma.mv hM fun k hk e=>by have:=h.hw;omega)
end
theorem AV {w:World} {P:Nat->Prop} {A:Option Addr} {n c:Nat} {vs:List Int} (h:ym w P (.slice A n c) vs) (i:Nat) (hi:i<vs.length): ∃b o,A=some ⟨b,o,none⟩/\P b/\b<w.heap.size/\w.cell? ⟨b,o+i,none⟩=some (.int .i32 vs[i]):=by
 obtain⟨A',c',e,h⟩:=h;injection e with e1 e2 e3;subst e1 e2 e3;rcases h with h|⟨_,_,b,o,rfl,hP,hb,hc⟩
 ·subst h;simp at hi
 ·exact⟨b,o,rfl,hP,hb,hc i hi⟩
theorem y7 {w:World} {P:Nat->Prop} {A:Option Addr} {n c:Nat} {vs:List (List UInt8)} (h:lk w P (.slice A n c) vs) (i:Nat) (hi:i<vs.length): ∃b o,A=some ⟨b,o,none⟩/\P b/\b<w.heap.size/\w.cell? ⟨b,o+i,none⟩=some (.string (ah vs[i])):=by
 obtain⟨A',c',e,h⟩:=h;injection e with e1 e2 e3;subst e1 e2 e3;rcases h with h|⟨_,_,b,o,rfl,hP,hb,hc⟩
 ·subst h;simp at hi
 ·exact⟨b,o,rfl,hP,hb,hc i hi⟩
theorem AS {X:MX} {C:Cx} {σ:Ms} {w W:World} {cs:Array Value} {pv bv av:Value} {ps:List (List UInt8)} {bd:List St} {vs:List Int} (h:RU X C σ w cs pv bv av ps bd vs W) {lf:Int} (hb:aQ W X.g 127 (dH X lf σ)) (l1:lf.toNat=σ.left) (l2: -9223372036854775808<=lf) (l3:lf<=9223372036854775807) (fl:Nat) (hk:σ.stk+fl<=1024):
  RU X C {σ with stk:=σ.stk+fl} w cs pv bv av ps bd vs (((W.setCell ⟨X.g,5,none⟩ (.int .i64 ((σ.stk:Int)+(fl:Int)))).alloc (.map #[] 0)).alloc (.cells #[.map (some W.heap.size), .bool false, .int .i32 0] 182))/\
  FR (W.heap.size+1) W.heap.size (fun _=>none) none (((W.setCell ⟨X.g,5,none⟩ (.int .i64 ((σ.stk:Int)+(fl:Int)))).alloc (.map #[] 0)).alloc (.cells #[.map (some W.heap.size), .bool false, .int .i32 0] 182))/\w.heap.size+1<=W.heap.size:=by
 have hA2:MA X C {σ with stk:=σ.stk+fl} (W.setCell ⟨X.g,5,none⟩ (.int .i64 ((σ.stk:Int)+(fl:Int)))):=by
  have:=h.ma.stk1 hb l1 l2 l3 (σ.stk+fl) hk;rwa [Int.natCast_add]at this
 have h2:=h.go (S:=X.S) (Mv.ms_g h.ma.ok (b7 W X.g 5 (.int .i64 ((σ.stk:Int)+(fl:Int))))) (fun _ _ h=>h) hA2;have hsz:(W.setCell ⟨X.g,5,none⟩ (.int .i64 ((σ.stk:Int)+(fl:Int)))).heap.size=W.heap.size:=by simp[World.setCell]
 have h3:=FR.new (W.setCell ⟨X.g,5,none⟩ (.int .i64 ((σ.stk:Int)+(fl:Int))));rw[hsz]at h3;exact⟨(h2.ext (I _ _)).ext (I _ _),h3,h.bk.lt⟩
def BE (X:MX) (C:Cx) (n:Nat):Prop:= ∀(s:List UInt8) (σ:Ms) (w:World) (A:Option Addr) (c:Nat) (vs:List Int),MA X C σ w->2*σ.left<=n->ym w (fun b=>X.hi<=b) (.slice A vs.length c) vs->lX vs->(C.fn s).ps.length<=vs.length->
 Calls prog 48 #[X.p,X.fv s, .slice A vs.length c] w (sQ X C w (fq (fun s l y=>st C n s l y) (C.fn s) vs σ))
theorem qP (X:MX) (C:Cx) (n:Nat) (hS:Dr X C n) (hC:BG C):BE X C n:=by
 intro s σ w A c vs hA hn hV hI hl;obtain⟨pv,bv,hfv,hRp,hRb⟩:=hA.fr s;rw[hfv];have hsafe:=hC.safe s;have hwt:=hC.wt s;have hps:=hC.ps s;have hpn:=hC.pn s;clear hC hfv;generalize C.fn s=f at*;obtain⟨fnm,ps,bd⟩:=f;simp only at hRp hRb hsafe hwt hps hpn hl⊢;obtain⟨Ap,cp,hpv,hRp'⟩:=id hRp;obtain⟨Ab,cb,hbv,_⟩:=hRb.form;subst hpv hbv;have hdl:=jv bd;obtain⟨fl,hfl⟩: ∃q,fZ ⟨fnm,ps,bd⟩=q:=⟨_,rfl⟩
 have hflb:fl<=100000000:=by rw[<-hfl];unfold fZ;simp only;omega
 have HFR:=G (fun W (h:cK W X.P (.slice Ab bd.length cb) bd)=>show Calls prog 24 #[.agg #[.string (ah fnm), .slice Ap ps.length cp, .slice Ab bd.length cb]] W fun e w'=>e= .returned (.int .i64 (fl:Int))/\au W w' from hfl▸rN fnm ps bd hwt hps X.P W Ap Ab cp cb h);have hcf:fq (fun s l y=>st C n s l y) ⟨fnm,ps,bd⟩ vs σ=if 1024<σ.stk+fl then .error σ.fails else(lw (fun s l y=>st C n s l y) {σ with stk:=σ.stk+fl} (f5 (qi (fun _=>none) ps vs) bd) bd).then fun p s=> .ok (p.1.getD 0,{s with stk:=s.stk-fl}):=by rw[<-hfl];rfl
 obtain⟨Rv,hRv⟩: ∃R,fq (fun s l y=>st C n s l y) ⟨fnm,ps,bd⟩ vs σ=R:=⟨_,rfl⟩
 rw[hRv]at hcf⊢;have hstk:=hA.stk;have HSS:=G (hS bd hsafe (by omega));unfold Af at HSS;have HDF:=G (kX _ bd (ag _) (by omega));unfold Cu at HDF;obtain⟨M,hM⟩: ∃m,ps.length=m:=⟨_,rfl⟩
 obtain⟨NV,hNV⟩: ∃m,vs.length=m:=⟨_,rfl⟩
 rw[hM]at HFR hRp hps hl⊢;rw[hNV]at hV hl⊢;have HQ0:=G (RU.new hA hRp hRb hV #[.string (ah fnm), .slice Ap M cp, .slice Ab bd.length cb]);have HPN:=G hpn;have HI:=G hI;have HM:=G hM;have HNV:=G hNV;have hw1:IntKind.i64.wrap ((σ.stk:Int)+(fl:Int))=((σ.stk+fl:Nat):Int):=by simp[IntKind.wrap,IntKind.signed,IntKind.bits];omega
 clear hA hRp hRp' hRb hV hRv hfl hpn hI hM hNV hS hdl hsafe;by_cases hov:1024<σ.stk+fl
 ·rw[if_pos hov]at hcf;have HE:=G hcf;have hov':(1024:Int)<((σ.stk+fl:Nat):Int):=by omega
  clear hcf;simp only[MX.p]at*;go_enter func48,ntmps48;go_wp2_with (go_at_call 24;refine(HFR.out _ HQ0.out.rb).mono ?_;rintro e w1 ⟨rfl,hE⟩;have HQ1:=G (HQ0.out.ext hE);have HH:=G (HQ1.out.ma.halt 2);obtain⟨lf,l1,l2,l3,hmb⟩:=HQ1.out.ma.mcl;have fk:=hmb.cell;clear hE HFR HQ0 hmb l1 l2 l3);exact⟨rfl,cQ HQ1.out.mv HE.out rfl HH.out⟩
 rw[if_neg hov]at hcf;have hov': ¬(1024:Int)<((σ.stk+fl:Nat):Int):=by omega
 have HCF:=G hcf;clear hcf;simp only[MX.p]at HFR HSS HDF⊢;go_enter func48,ntmps48;have hmm:= @run_makeMap prog;go_wp2_with (go_at_call 24;refine(HFR.out _ HQ0.out.rb).mono ?_;rintro e w1 ⟨rfl,hE⟩;have HQ1:=G (HQ0.out.ext hE);obtain⟨lf,l1,l2,l3,hmb⟩:=HQ1.out.ma.mcl;have HR3:=G (AS HQ1.out hmb l1 l2 l3 fl (by omega));have fk:=hmb.cell;have fz:=hmb.frozen;have f0:=HR3.out.1.bk.cell;clear hE HFR HQ0 HQ1 hmb l1 l2 l3);have HQ3:=G HR3.out.1;have HF3:=G HR3.out.2.1;have HLB:=G HR3.out.2.2;clear hmm f0 fk fz HR3;generalize ((w1.setCell ⟨X.g,5,none⟩ (.int .i64 ((σ.stk:Int)+(fl:Int)))).alloc (.map #[] 0)).alloc (.cells #[.map (some w1.heap.size), .bool false, .int .i32 0] 182)=w3 at*;generalize w1.heap.size=lb at*;obtain⟨L0,hL0⟩: ∃L,qi (fun _=>none) ps vs=L:=⟨_,rfl⟩
 have HL0:=G (show qi (fun _=>none) (ps.drop 0) (vs.drop 0)=L0 from hL0);rw[hL0]at HCF;clear hL0
 go_loopw [36] (fun vi wr=> ∃(j:Nat) (lj:Lo),vi= .int .i64 (j:Int)/\j<=M/\Hid (qi lj (ps.drop j) (vs.drop j)=L0)/\Hid (RU X C {σ with stk:=σ.stk+fl} w #[.string (ah fnm), .slice Ap M cp, .slice Ab bd.length cb] (.slice Ap M cp) (.slice Ab bd.length cb) (.slice A NV c) ps bd vs wr)/\Hid (FR (lb+1) lb lj none wr)) (fun vi _=>M-(intOf vi).toNat)
 case atStart=>exact⟨0,_,rfl,aF _,HL0,HQ3,HF3⟩
 case round=>
  obtain⟨j,lj,rfl,hj,HLj,HX,HFj⟩:=hrel;by_cases hlt:j<M
  ·have hlt':(j:Int)<M:=by omega
   have hjp:j<ps.length:=by have:=HM.out;omega
   have hjv:j<vs.length:=by have:=HNV.out;omega
   have hjn:j<NV:=by omega
   have hjn':(j:Int)<NV:=by omega
   have hS:=xh (l:=lj) hjp hjv;obtain⟨b,o,rfl,hPb,hb,e0⟩:=y7 HX.out.rp j hjp;obtain⟨b2,o2,rfl,hPb2,hb2,a0⟩:=AV HX.out.ra j hjv;have hq:=HPN.out _ (ap hjp);have hz:=HI.out _ (ap hjv);generalize ps[j]=q at*;generalize vs[j]=z at*;have HS:=G (hS.symm.trans HLj.out);clear hS;go_wp2_with fail;refine ay 9 1 [] mixed (by kernel_rfl) trivial ?_;repeat (refine sx ?_ (fun w1 hU=> ?_) ?_;rotate_left;(focus have fk:=(HFj.out.ext hU.un).blk.cell;have a1:=(hU.un.cell b2 _ hb2).trans a0;clear hU;go_simp<;>with_reducible rfl);simp only[aY,aX,aW,aV,aU])
   intro w7 hw7 _;simp only[aa,an];have HF7:=G (HFj.out.ext hw7.un);have HX7:=G (HX.out.ext hw7.un);clear hw7 e0 a0;go_wp2_with (at_mapUpdate;refine cv Bf rfl _ _ _ rfl HF7.out.m rfl (by unfold maxLen;omega) rfl _ rfl ?_;intro w8 hm8 hg8;have HF8:=G (HF7.out.upd hz hm8 hg8);have HX8:=G (HX7.out.lo hg8 HLB.out);clear hm8 hg8);go_roundw
   case rel=>exact⟨j+1,_,by go_num,by omega,HS,HX8,HF8⟩
   case measure=>simp[intOf];omega
  ·have hlt': ¬(j:Int)<M:=by omega
   have hLj:lj=L0:=by rw[<-HLj.out,zC (by have:=HM.out;omega)]
   subst hLj;have hne: ∀b,X.P b->b≠lb:=fun b hb e=>by have:=HLB.out;have:=HX.out.hw;have:=HX.out.ma.ok.g;simp only[MX.S,MX.P]at*;omega
   have HNE:=G hne;have HCF:=HCF;have f0:=HX.out.bk.cell;have hle:2*({σ with stk:=σ.stk+fl}:Ms).left<=n:=hn;have HLE:=G hle;clear hne hle;have HT1:True:=trivial;rcases hs:lw (fun s l y=>st C n s l y) {σ with stk:=σ.stk+fl} (f5 lj bd) bd with oc|⟨⟨rt,l2⟩,s2⟩
   ·have HE:=G (show Rv= .error oc by rw[HCF.out,hs];rfl);clear HCF;go_wp2_with (first|(go_at_call 85;clear HT1;refine(HDF.out X.g (lb+1) lb lj none X.P _ Ab _ cb HFj.out HX.out.rb HNE.out).mono ?_;unfold Dw;rintro e w4 ⟨rfl,hg,hf⟩;have HX4:=G (HX.out.lo hg HLB.out);have HF4:=G hf;clear f0;have f0:=HX4.out.bk.cell;clear hg hf HDF)|(go_at_call 86;refine(HSS.out _ _ (lb+1) lb _ Ab cb HX4.out.ma (HX4.out.fr HF4.out (by have:=HLB.out;omega) HLB.out) HLE.out HX4.out.rb).mono ?_;intro e w5 h;rw[hs]at h;obtain⟨hM,rfl,hH⟩:=h.err_;have HMx:=G (HX4.out.mv.tr hM fun k hk h=>MX.T_new (n:=w.heap.size) (by have:=HLB.out;omega) HLB.out (by omega) h);have HH:=G hH;clear hM hH h));exact⟨rfl,cQ HMx.out HE.out rfl HH.out⟩
   ·have hk2:=uo hs;have hk3:s2.stk=σ.stk+fl:=hk2;have hst2:(s2.stk:Int)=(σ.stk:Int)+(fl:Int):=by omega
    have HE:=G (show Rv= .ok (rt.getD 0,{s2 with stk:=σ.stk}) by
     rw[HCF.out,hs,d_,hk3];show Except.ok (rt.getD 0,({s2 with stk:=σ.stk+fl-fl}:Ms))=_
     rw[Nat.add_sub_cancel])
    have hw2:IntKind.i64.wrap ((σ.stk:Int)+(fl:Int)-(fl:Int))=(σ.stk:Int):=by simp[IntKind.wrap,IntKind.signed,IntKind.bits];omega
    have hw3:IntKind.i64.wrap (σ.stk:Int)=(σ.stk:Int):=by simp[IntKind.wrap,IntKind.signed,IntKind.bits];omega
    clear HCF hk2;go_wp2_with (first|(go_at_call 85;clear HT1;refine(HDF.out X.g (lb+1) lb lj none X.P _ Ab _ cb HFj.out HX.out.rb HNE.out).mono ?_;unfold Dw;rintro e w4 ⟨rfl,hg,hf⟩;have HX4:=G (HX.out.lo hg HLB.out);have HF4:=G hf;clear f0;have f0:=HX4.out.bk.cell;clear hg hf HDF)|(go_at_call 86;refine(HSS.out _ _ (lb+1) lb _ Ab cb HX4.out.ma (HX4.out.fr HF4.out (by have:=HLB.out;omega) HLB.out) HLE.out HX4.out.rb).mono ?_;intro e w5 h;rw[hs]at h;obtain⟨hM,rfl,hA5,hF5⟩:=h.ok_;have HX5:=G (HX4.out.go hM (fun k hk h=>MX.T_new (n:=w.heap.size) (by have:=HLB.out;omega) HLB.out hk h) hA5);have HF5:=G hF5;obtain⟨lf5,l51,l52,l53,hmb5⟩:=hA5.mcl;simp only[dH,hst2]at hmb5;have fk5:=hmb5.cell;have fz5:=hmb5.frozen;have HMB5:=G hmb5;have HML5:=G (ax l51 (ax l52 l53));have hfg:lb+1≠X.g:=(by have:=HLB.out;have:=HX5.out.hw;have:=hA5.ok.g;simp only[MX.S]at*;omega);have fv5:=(hF5.blk.far (p:=⟨X.g,5,none⟩) hfg (.int .i64 (σ.stk:Int))).cell;clear hM hA5 hF5 h hmb5 l51 l52 l53));have HA6:=G (HX5.out.ma.stk1 (by have:=HMB5.out;unfold dH;rw[hst2];exact this) HML5.out.1 HML5.out.2.1 HML5.out.2.2 σ.stk hstk);have HM6:=G (HX5.out.mv.trans (Mv.ms_g HX5.out.ma.ok (b7 w5 X.g 5 (.int .i64 (σ.stk:Int)))));go_ret;exact ec HM6.out HE.out HA6.out
end
section
def DF (Q:Ms->Prop) {α:Type} (r:ER α):Prop:=match r with
 | .ok (_,s)=>Q s
 | .error _=>True
theorem zL {C:Cx}: ∀(n:Nat) (s:Ms) (l:Lo) (x:Ex),DF (fun s'=>s'.left+1<=s.left) (ev C n s l x)
 |0,s,l,x=>by rw[ev];exact trivial
 |n+1,s,l,x=>by
  rw[ev];split
  ·exact trivial
  rename_i h0;have hQ:=iy C.R (s.left-1);have h':s.step.left<=s.left-1:=ag _;have fin: ∀{α:Type} {r:ER α},om (fun s'=>s'.left<=s.left-1) r->DF (fun s'=>s'.left+1<=s.left) r:=fun{α r} h=>by
   cases r with
   |error e=>exact trivial
   |ok p=>have h:p.2.left<=s.left-1:=h;show p.2.left+1<=s.left;omega
  obtain⟨h1,h2,h3⟩:=qY hQ (C:=C) rfl n;apply fin;split
  ·exact h'
  split
  ·exact h'
  split
  ·refine(h1 _ l _ h').then fun i s h=> ?_;split
   ·exact h
   ·exact .err h rfl
  split
  ·split
   ·exact yb hQ (fun s x h=>h1 s l x h) _ _ _ _ h'
   ·exact(sF (fun s x h=>h1 s l x h) _ _ _ h').then fun vs s h=>x_ hQ (fun s l x h=>h2 s l x h) _ _ _ h
  split
  ·refine(h1 _ l _ h').then fun i s h=> ?_;split<;>exact h
  ·refine(h1 _ l _ h').then fun i s h=> ?_;split
   ·exact h
   split
   ·exact h
   refine(h1 _ l _ h).then fun j s h=> ?_;split
   ·exact h
   ·exact ye _ _ _ _ h
theorem Ck {C:Cx} {n:Nat} {s s':Ms} {l:Lo} {x:Ex} {v:Int} (h:ev C n s l x= .ok (v,s')):s'.left+1<=s.left:=by
 have:=zL (C:=C) n s l x;rw[h]at this;exact this
theorem mq {C:Cx} {n:Nat} {s s':Ms} {l:Lo} {x:Ex} {v:Int} (h:ev C n s l x= .ok (v,s')) (h1:jT s) (h2:pj l):eL v:=by
 have:=(sG C n).1 s l x h1 h2;rw[h]at this;exact this.1
theorem pA {C:Cx} {n:Nat} {s s':Ms} {l:Lo} {ex:List Ex} {v:Int} (h:val C n s l ex= .ok (v,s')) (h1:jT s) (h2:pj l):eL v:=by
 unfold val at h;split at h
 ·cases h;decide
 ·exact mq h h1 h2
theorem qk {C:Cx} {n:Nat} {s s':Ms} {l:Lo} {ex:List Ex} {v:Int} (h:val C n s l ex= .ok (v,s')):s'.left<=s.left:=by
 unfold val at h;split at h
 ·cases h;exact ag _
 ·exact na h
theorem wu {C:Cx} {n:Nat} {s s':Ms} {l:Lo} {xs:List St} {v:Option Int×Lo} (h:lw (fun s l y=>st C n s l y) s l xs= .ok (v,s')):s'.left<=s.left:=by
 have:=nu (Q:=fun s'=>s'.left<=s.left) (fun s1 l x h=>(qY (iy C.R s.left) rfl n).2.1 s1 l x h) xs l s (ag _);rw[h]at this;exact this
def fH:=@MX.S_lt
end
end Go.Proofs.YtddomeddabfinaaGreatDoor
