/- Parts of the proof. -/
import Derived.Test.YtoedmpgicdekmaaGreatDoorCl00
import Derived.Defers
import Derived.Recover
import Derived.Laws.Pointers
import Derived.BigRegion
import Derived.WalkLawsBesides
import Derived.Test.YtoedmpgicdekmaaGreatDoorCl05
import Derived.Test.YtoedmpgicdekmaaGreatDoorCl15
import Derived.Test.YtoedmpgicdekmaaGreatDoorCl18
set_option maxRecDepth 100000
set_option maxHeartbeats 8000000
set_option linter.unusedVariables false
set_option linter.unusedSimpArgs false
set_option linter.unusedSectionVars false
namespace Go.Proofs.YtoedmpgicdekmaaGreatDoor
open Go.Proofs.Tryz
section
open Go.RowKit
theorem Jo {h w:World} {b0 b1 b2:Nat} {A t1 t2:TypeId} {x0 x1 y z:Value} (d a q r:Value) (I:au h w) (M:aM w b0 A #[x0,x1]) (K:aM w b1 t1 #[y]) (J:aM w b2 t2 #[z])
  (l0:h.heap.size<=b0) (H:h.heap.size<=b1) (G:h.heap.size<=b2) (u:b0≠b1) (o:b0≠b2) (F:b1≠b2):
  au h ((((w.setCell ⟨b0,0,none⟩ d).setCell ⟨b0,1,none⟩ a).setCell ⟨b1,0,none⟩ q).setCell ⟨b2,0,none⟩ r)/\aM ((((w.setCell ⟨b0,0,none⟩ d).setCell ⟨b0,1,none⟩ a).setCell ⟨b1,0,none⟩ q).setCell ⟨b2,0,none⟩ r) b0 A #[d,a]/\
   aM ((((w.setCell ⟨b0,0,none⟩ d).setCell ⟨b0,1,none⟩ a).setCell ⟨b1,0,none⟩ q).setCell ⟨b2,0,none⟩ r) b1 t1 #[q]/\aM ((((w.setCell ⟨b0,0,none⟩ d).setCell ⟨b0,1,none⟩ a).setCell ⟨b1,0,none⟩ q).setCell ⟨b2,0,none⟩ r) b2 t2 #[r]:=by
 refine⟨(((I.set l0 _).set l0 _).set H _).set G _,?_,?_,?_⟩
 ·have:=(((M.set 0 d).set 1 a).far (p:=⟨b1,0,none⟩) u q).far (p:=⟨b2,0,none⟩) o r;simpa using this
 ·have:=(((K.far (p:=⟨b0,0,none⟩) (eK u) d).far (p:=⟨b0,1,none⟩) (eK u) a).set 0 q).far (p:=⟨b2,0,none⟩) F r;simpa using this
 ·have:=(((J.far (p:=⟨b0,0,none⟩) (eK o) d).far (p:=⟨b0,1,none⟩) (eK o) a).far (p:=⟨b1,0,none⟩) (eK F) q).set 0 r;simpa using this
theorem qE (u o d:Value) (w:World):
  CallsD prog 47 #[u,o,d] .returning w λe a w'=>e= .returned (.tuple #[])/\a= .returning/\w'=w:=by
 refine callsD_of_wpS func47 rfl λF G A=> ?_;apply wpS_seq;apply wpS_region;simp[wpOpsS,go_sem,recoverD,A,ntmps47,Exit.thenS];apply wpS_seq;apply wpS_region;simp[wpOpsS,go_sem,Exit.thenS];refine wpS_cond (t:=false) (by simp[Act.eval]) ?_;simp only[aQ,if_false];refine wpS_of_wp (wp_skip ?_)
 cases F;simp_all[bodyPostS,results,results47]
theorem uZ (o w:World) (b0 b1 b2:Nat) (x0 x1 y z:Value) (a n:Int) (V:List PanicEntry) (Z:au o w) (H:aM w b0 31 #[x0,x1]) (F:aM w b1 3 #[y]) (A:aM w b2 33 #[z])
  (l0:o.heap.size<=b0) (ah:o.heap.size<=b1) (ag:o.heap.size<=b2) (af:b0≠b1) (ae:b0≠b2) (ad:b1≠b2):
  CallsD prog 47 #[.pointer (some ⟨b0,0,none⟩), .pointer (some ⟨b1,0,none⟩), .pointer (some ⟨b2,0,none⟩)] (.panicking ({v:= .iface 120 (.agg #[.int .i64 a, .int .i64 n]),recovered:=false}::V)) w λe ac w'=>
   e= .returned (.tuple #[])/\ac= .panicking ({v:= .iface 120 (.agg #[.int .i64 a, .int .i64 n]),recovered:=true}::V)/\
   au o w'/\aM w' b0 31 #[.slice none 0 0, .slice none 0 0]/\aM w' b1 3 #[.int .i64 a]/\aM w' b2 33 #[.int .i64 n]:=by
 have d:=aa w (.cells #[.int .i64 a, .int .i64 n] 120);have ab:=aq w 120 #[.int .i64 a, .int .i64 n];have ao:=G (Z.trans d);have M:=G (H.ext d);have K:=G (F.ext d);have J:=G (A.ext d);have ap:=G ab;have ak:b0≠w.heap.size:=λe=>by have:=H.lt;omega
 have aj:b1≠w.heap.size:=λe=>by have:=F.lt;omega
 have ai:b2≠w.heap.size:=λe=>by have:=A.lt;omega
 clear d ab Z H F A;refine callsD_of_wpS func47 rfl λaD aE am=> ?_;apply wpS_seq;apply wpS_region;simp[wpOpsS,go_sem,recoverD,am,ntmps47,Exit.thenS];have X: ∀v I b c:Value,#[I,b,c]++((Array.replicate 19 undef).setIfInBounds 3 v).setIfInBounds 0 v= #[I,b,c,v,undef,undef,v,undef,undef,undef,undef,undef,undef,undef,undef,undef,undef,undef,undef,undef,undef,undef]:=by
  intro v I b c;apply jn;simp[iZ]
 rw[X];clear X;apply wpS_seq;apply wpS_region;simp[wpOpsS,go_sem,Exit.thenS];refine wpS_cond (t:=true) (by simp[Act.eval]) ?_;simp only[if_true];refine wpS_of_wp ?_;have an: ∀(v:Value) (R:TypeId) (w:World),(Instr.typeAssert (.iface 120 v) R 120 true).run prog w= .ok (.tuple #[v, .bool true]) w:=λv R w=>by simp[Instr.typeAssert,run_underlying underlying120]
 go_wp2_with fail;clear an;have al:w.heap.size≠b0/\w.heap.size≠b1/\w.heap.size≠b2:=⟨λe=>ak e.symm,λe=>aj e.symm,λe=>ai e.symm⟩
 obtain⟨aB,aA,az⟩:=al;have aC:=ap.out.cell;have aF:=M.out.cell;have c1:=K.out.cell;have c2:=J.out.cell;have aw:=M.out.frozen;have av:=K.out.frozen;have ar:=J.out.frozen;generalize w.alloc (.cells #[.int .i64 a, .int .i64 n] 120)=ay at*;generalize w.heap.size=ax at*;go_region;have u:=Jo (.slice none 0 0) (.slice none 0 0) (.int .i64 a) (.int .i64 n) ao.out M.out K.out J.out l0 ah ag af ae ad;refine⟨rfl,_,rfl, .tuple #[],?_,rfl,rfl,u.1.drew,u.2.1.drew,u.2.2.1.drew,u.2.2.2.drew⟩;simp[results,results47]
structure PW (w:World) (x0 x1 y z:Value) (W:World):Prop where
 e:au w W
 b0:aM W w.heap.size 31 #[x0,x1]
 b1:aM W (w.heap.size+1) 3 #[y]
 b2:aM W (w.heap.size+1+1) 33 #[z]
theorem FN (w:World) (x0 x1 y z:Value):PW w x0 x1 y z (((w.alloc (.cells #[x0,x1] 31)).alloc (.cells #[y] 3)).alloc (.cells #[z] 33)):=by
 refine⟨((aa w _).alloc' _).alloc' _,((aq w _ _).alloc _).alloc _,?_,?_⟩
 ·have:=(aq (w.alloc (.cells #[x0,x1] 31)) 3 #[y]).alloc (.cells #[z] 33);rwa [World.size_alloc]at this
 ·have:=aq ((w.alloc (.cells #[x0,x1] 31)).alloc (.cells #[y] 3)) 33 #[z];rwa [World.size_alloc,World.size_alloc]at this
section
variable {w W W':World} {x0 x1 y z:Value}
theorem PW.ex (d:PW w x0 x1 y z W) (a:au W W'):PW w x0 x1 y z W':=⟨d.e.trans a,d.b0.ext a,d.b1.ext a,d.b2.ext a⟩
theorem PW.lt (a:PW w x0 x1 y z W):w.heap.size+1+1<W.heap.size:=a.b2.lt
theorem PW.grown {g:Nat} (d:PW w x0 x1 y z W) (a:W.grownBy W' (some g)) (h:w.heap.size+1+1<g):PW w x0 x1 y z W':=
 ⟨d.e.grown a (λk e=>by injection e with e;omega),d.b0.grown a (λe=>by injection e with e;omega),d.b1.grown a (λe=>by injection e with e;omega),d.b2.grown a (λe=>by injection e with e;omega)⟩
theorem PW.drew (a:PW w x0 x1 y z W):PW w x0 x1 y z W.drew:=⟨a.e.drew,a.b0.drew,a.b1.drew,a.b2.drew⟩
theorem PW.put0 (a:PW w x0 x1 y z W) (h d:Value):PW w h d y z ((W.setCell ⟨w.heap.size,0,none⟩ h).setCell ⟨w.heap.size,1,none⟩ d):=by
 refine⟨(a.e.set (ah _) _).set (ah _) _,?_,(a.b1.far (p:=⟨w.heap.size,0,none⟩) (by show _≠w.heap.size;omega) _).far (p:=⟨w.heap.size,1,none⟩) (by show _≠w.heap.size;omega) _,(a.b2.far (p:=⟨w.heap.size,0,none⟩) (by show _≠w.heap.size;omega) _).far (p:=⟨w.heap.size,1,none⟩) (by show _≠w.heap.size;omega) _⟩;have:=(a.b0.set 0 h).set 1 d;simpa using this
theorem PW.put1 (a:PW w x0 x1 y z W) (q:Value):PW w x0 x1 q z (W.setCell ⟨w.heap.size+1,0,none⟩ q):=by
 refine⟨a.e.set (by show w.heap.size<=w.heap.size+1;omega) _,a.b0.far (p:=⟨w.heap.size+1,0,none⟩) (by show _≠w.heap.size+1;omega) _,?_,a.b2.far (p:=⟨w.heap.size+1,0,none⟩) (by show _≠w.heap.size+1;omega) _⟩;have:=a.b1.set 0 q;simpa using this
theorem PW.put2 (a:PW w x0 x1 y z W) (q:Value):PW w x0 x1 y q (W.setCell ⟨w.heap.size+1+1,0,none⟩ q):=by
 refine⟨a.e.set (by show w.heap.size<=w.heap.size+1+1;omega) _,a.b0.far (p:=⟨w.heap.size+1+1,0,none⟩) (by show _≠w.heap.size+1+1;omega) _,a.b1.far (p:=⟨w.heap.size+1+1,0,none⟩) (by show _≠w.heap.size+1+1;omega) _,?_⟩;have:=a.b2.set 0 q;simpa using this
end
theorem xq {w W:World} {b i:Nat} (v:Value):dE (λk=>k≠b) W (W.setCell ⟨b,i,none⟩ v):=⟨by simp[World.setCell],λk a _=>Below.heap_setCell W ⟨b,i,none⟩ v k a⟩
theorem xU.keepP {w w':World} {P:Nat->Prop} {h:Option Addr} {c:Nat} {l:List co} (d:xU w h c l) (o:dE P w w') (F: ∀b off,h=some ⟨b,off,none⟩->l≠ []->P b):xU w' h c l:=by
 refine⟨d.le,d.max,?_⟩;by_cases hl:l=[]
 ·exact .inl hl
 ·rcases d.rd with G|⟨b,off,ha,hlt,hc⟩
  ·exact .inl G
  ·have a:=λu=>o.cell u (F b off ha hl) hlt;exact .inr ⟨b,off,ha,aA hlt o.size,λi A=>let⟨q0,q1,q2,q3⟩:=hc i A;⟨(a _).trans q0,(a _).trans q1,(a _).trans q2,(a _).trans q3⟩⟩
theorem wh {w W:World} {x0 x1 y z a b:Value} {base:Nat} {o:Option Addr} {c:Nat} {d:List co} (u:Int) (V:PW w x0 x1 y z W) (G:iM W base 188 (.slice o d.length c) d) (R:w.heap.size+3<=base):
  PA (((W.setCell ⟨w.heap.size+1,0,none⟩ a).setCell ⟨w.heap.size+1+1,0,none⟩ b).alloc (.cells #[.slice o d.length c, .int .i64 u] 124)) W.heap.size d u:=by
 have F:=G.tks.2;have K: ∀k,(Value.slice o d.length c).ownBlock=some k->base<=k:=λk I=>(World.ownsRow.lt G k I).1;have A: ∀b off,o=some ⟨b,off,none⟩->d≠ []->b≠w.heap.size+1/\b≠w.heap.size+1+1:=λb off e h=>by
  subst e;have:=K b rfl;omega
 have H:(((W.setCell ⟨w.heap.size+1,0,none⟩ a).setCell ⟨w.heap.size+1+1,0,none⟩ b)).heap.size=W.heap.size:=by simp[World.setCell]
 have J:=(F.keepP (xq (w:=w) (b:=w.heap.size+1) (i:=0) a) (λb off e h=>(A b off e h).1)).keepP (xq (w:=w) (b:=w.heap.size+1+1) (i:=0) b) (λb off e h=>(A b off e h).2);refine⟨o,c,?_,J.ext (aa _ _),λb off e h=> ?_⟩
 ·have:=aq ((W.setCell ⟨w.heap.size+1,0,none⟩ a).setCell ⟨w.heap.size+1+1,0,none⟩ b) 124 #[.slice o d.length c, .int .i64 u];rwa [H]at this
 ·rcases F.rd with M|⟨b',off',ha,hlt,_⟩
  ·exact absurd M h
  ·rw[e]at ha;injection ha with ha;injection ha with ha;omega
theorem gZ {w w':World} (d:ea w w.heap.size) (a:au w w'):ea w' w'.heap.size:=⟨(d.fb (aV a (ah _))).1,aA d.2 a.size⟩
theorem oA {w W:World} {b i:Nat} (v:Value) (d:b<=w.heap.size+1+1):dE (λb=>w.heap.size+1+1<b) W (W.setCell ⟨b,i,none⟩ v):=
 ⟨by simp[World.setCell],λk a _=>Below.heap_setCell W ⟨b,i,none⟩ v k (by show k≠b;omega)⟩
theorem sV {w W:World} (a b:Value):dE (λb=>w.heap.size+1+1<b) W ((W.setCell ⟨w.heap.size,0,none⟩ a).setCell ⟨w.heap.size,1,none⟩ b):=
 ft (oA a Qa) (oA b Qa)
theorem Bo {w W:World} (d b c a:Value):dE (λb=>w.heap.size+1+1<b) W ((((W.setCell ⟨w.heap.size,0,none⟩ d).setCell ⟨w.heap.size,1,none⟩ b).setCell ⟨w.heap.size+1,0,none⟩ c).setCell ⟨w.heap.size+1+1,0,none⟩ a):=
 ft (ft (ft (oA d Qa) (oA b Qa)) (oA c Qa)) (oA a Qa)
def wZ (w:World) (r:Pg×Int×Int) (e:Ending) (w':World):Prop:=
 au w w'/\ ∃A n c B m d,e= .returned (.tuple #[.agg #[.slice A n c, .slice B m d], .int .i64 r.2.1, .int .i64 r.2.2])/\pt w' (λb=>w.heap.size<=b) (.slice A n c) r.1.vs/\pE w' (λb=>w.heap.size<=b) (.slice B m d) r.1.fs
theorem ot {w w':World} {a en:Int} (d:au w w'):wZ w (mN,a,en) (.returned (.tuple #[.agg #[.slice none 0 0, .slice none 0 0], .int .i64 a, .int .i64 en])) w':=
 ⟨d,none,0,0,none,0,0,rfl,⟨none,0,rfl, .inl rfl⟩,⟨none,0,rfl, .inl rfl⟩⟩
theorem ow (s:List UInt8) (w:World) (aZ:EZ w) (a2:ea w w.heap.size):Calls prog 22 #[.string (ak s)] w (wZ w (mL s)):=by
 have bi: ∀(fn:Fn) (first a4:Array Value) (w:World),(Instr.makeFunc fn first a4).run prog w= .ok (.func fn first a4) w:=λ_ _ _ _=>rfl;obtain⟨⟨u,M,en⟩,aG⟩: ∃bd,gY s=bd:=⟨_,rfl⟩
 have bb:(ak s).size=s.length:=a7 s;have J:=G (FN w (.slice none 0 0) (.slice none 0 0) (.int .i64 0) (.int .i64 0))
 have am:=G (show ∀W,EZ W->Calls prog 46 #[.string (ak s)] W (λe w'=> ∃H c,e= .returned (.tuple #[.slice H u.length c, .int .i64 M, .int .i64 en])/\iM w' W.heap.size 188 (.slice H u.length c) u/\au W w')from
  λW bc=>by
   have:=vI s W bc;rw[aG]at this
   exact this.mono (λe w' ⟨⟨H,c,aO,aN⟩,aW⟩=>⟨H,c,aO,aN,aW⟩))
 have al:=G aZ;have aP:=G a2;clear aZ a2;by_cases hen:en=0
 ·subst hen;have aI:=G (show mL s=wg s.length u by unfold mL;rw[aG];rfl);have aJ:=CZ s;rw[aG]at aJ;have aJ:u.length<=4000/\dT u<=12000:=aJ;have aT:=G aJ;clear aG aJ;generalize s.length=K at*;generalize aF:dN (4*u.length+8) mN u=X;have aX:=G aF
  cases X with
  |error qn=>
   obtain⟨q,n⟩:=qn;have an:=G (show mL s=(mN,Is (K:Int) q,n) by rw[aI.out,wg,aF]);clear aF aI;go_enter_defers func22,ntmps22;go_wp2_with (first|(go_at_call 46;refine(am.out _ (al.out.ext J.out.e)).mono ?_;rintro e aQ ⟨H,c,rfl,ae,A⟩;have d:=G (J.out.ex A);have c1:=d.out.b1.cell;have aq:=d.out.b1.frozen;have c2:=d.out.b2.cell;have ap:=d.out.b2.frozen;have ao:=G (wh (a:= .int .i64 M) (b:= .int .i64 0) (K:Int) d.out ae (by have:=J.out.lt;omega));have af:=G (((d.out.put1 (.int .i64 M)).put2 (.int .i64 0)).ex (aa _ (.cells #[.slice H u.length c, .int .i64 K] 124)));have aK:=d.out.lt;clear A ae am al J d)|(go_at_call 48;refine(qb (4*u.length+8) (by have:=aT.out.1;omega) u (K:Int) _ _ ao.out Qa).mono ?_;intro e aU ai;rw[show dN (4*u.length+8) ⟨[],[]⟩ u=_ from aX.out]at ai;obtain⟨aj,av⟩:=ai;have av:e= .panicked [{v:= .iface 120 (.agg #[.int .i64 (Is (K:Int) q), .int .i64 n]),recovered:=false}]:=av;subst av;have F:=G (af.out.grown aj aK);clear aj ao af));refine leaves_cons (f:=47) (args:= #[.pointer (some ⟨w.heap.size,0,none⟩), .pointer (some ⟨w.heap.size+1,0,none⟩), .pointer (some ⟨w.heap.size+1+1,0,none⟩)]) Qe Qm ?_;refine(uZ w aU w.heap.size (w.heap.size+1) (w.heap.size+1+1) _ _ _ _ _ _ _ F.out.e F.out.b0 F.out.b1 F.out.b2 Qa Qa Qa Qa Qa Qa).mono ?_;rintro e aY ba ⟨rfl,rfl,A,a3,aO,aN⟩;have ay:=a3.cell;have ax:=aO.cell;have aw:=aN.cell;refine(show Leaves _ _ _ _ [] .returning ba from ?_);refine⟨.tuple #[.agg #[.slice none 0 0, .slice none 0 0], .int .i64 (Is (K:Int) q), .int .i64 n],?_,by rw[an.out];exact ot A⟩;simp[results,results22,go_sem,ay,ax,aw]
  |ok pr=>
   obtain⟨p,r⟩:=pr;have a1:oq p<=6000000:=by
    have:=(wd _ _ _ _ _ aF).1;have a3:oq mN=0:=rfl;have:=aT.out.2;omega
   generalize aV:li p=ok
   have aS:=G (show ∀(P:Nat->Prop) (W:World) (H B:Option Addr) (n c m aR:Nat),pt W P (.slice H n c) p.vs->pE W P (.slice B m aR) p.fs->ea W W.heap.size->Calls prog 28 #[.agg #[.slice H n c, .slice B m aR]] W λe w'=>e= .returned (.bool ok)/\au W w' from
    λP W H B n c m aR aO aN aW=>aV▸xi p a1 P W H B n c m aR aO aN aW)
   have an:=G (show mL s=if ok then(p,0,0)else(mN,0,6) by rw[aI.out,wg,aF];simp only[aV]);clear aF aI aV a1
   cases ok with
   |true=>
    have an:=G (show mL s=(p,0,0)from an.out);go_enter_defers func22,ntmps22;go_wp2_with (first|(go_at_call 46;refine(am.out _ (al.out.ext J.out.e)).mono ?_;rintro e aQ ⟨H,c,rfl,ae,A⟩;have d:=G (J.out.ex A);have c1:=d.out.b1.cell;have aq:=d.out.b1.frozen;have c2:=d.out.b2.cell;have ap:=d.out.b2.frozen;have ao:=G (wh (a:= .int .i64 M) (b:= .int .i64 0) (K:Int) d.out ae (by have:=J.out.lt;omega));have af:=G (((d.out.put1 (.int .i64 M)).put2 (.int .i64 0)).ex (aa _ (.cells #[.slice H u.length c, .int .i64 K] 124)));have aK:=d.out.lt;clear A ae am al J d)|(go_at_call 48;refine(qb (4*u.length+8) (by have:=aT.out.1;omega) u (K:Int) _ _ ao.out Qa).mono ?_;intro e aU ai;rw[show dN (4*u.length+8) ⟨[],[]⟩ u=_ from aX.out]at ai;obtain⟨aj,ad,R,ab,ac,V,Z,av,aL,aM⟩:=ai;subst av;have F:=G (af.out.grown aj aK);have ar:=af.out.lt;have az:=G (F.out.put0 (.slice ad R ab) (.slice ac V Z));have aC:=G ((aL.keep (Q:=λb=>w.heap.size+1+1<b) ⟨ah _,λ_ _ _=>rfl⟩ (λb o _=>aA ar o)).keep (Q:=λb=>w.heap.size+1+1<b) (sV (.slice ad R ab) (.slice ac V Z)) (λ_ o _=>o));have aD:=G ((aM.keep (Q:=λb=>w.heap.size+1+1<b) ⟨ah _,λ_ _ _=>rfl⟩ (λb o _=>aA ar o)).keep (Q:=λb=>w.heap.size+1+1<b) (sV (.slice ad R ab) (.slice ac V Z)) (λ_ o _=>o));have aH:=F.out.b0.cell;have aE:=F.out.b0.frozen;clear aj ao af aL aM ar F)|(go_at_call 28;refine(aS.out _ _ _ _ _ _ _ _ aC.out aD.out (gZ aP.out az.out.e)).mono ?_;rintro e a9 ⟨rfl,A⟩;clear aH aE;have I:=G (az.out.ex A);have a5:=G (aC.out.keep (.of_ext A) (Q:=λb=>w.heap.size+1+1<b) (λ_ o _=>o));have a6:=G (aD.out.keep (.of_ext A) (Q:=λb=>w.heap.size+1+1<b) (λ_ o _=>o));have aH:=I.out.b0.cell;have aE:=I.out.b0.frozen;have c1:=I.out.b1.cell;have aq:=I.out.b1.frozen;have c2:=I.out.b2.cell;have ap:=I.out.b2.frozen;clear A aC aD az aS aP));have ag:=G (((I.out.put0 (.slice ad R ab) (.slice ac V Z)).put1 (.int .i64 0)).put2 (.int .i64 0));have be:=G (a5.out.keep (Q:=λb=>w.heap.size<=b) (Bo (.slice ad R ab) (.slice ac V Z) (.int .i64 0) (.int .i64 0)) (λb o _=>by omega));have bf:=G (a6.out.keep (Q:=λb=>w.heap.size<=b) (Bo (.slice ad R ab) (.slice ac V Z) (.int .i64 0) (.int .i64 0)) (λb o _=>by omega));refine leaves_cons (f:=47) (args:= #[.pointer (some ⟨w.heap.size,0,none⟩), .pointer (some ⟨w.heap.size+1,0,none⟩), .pointer (some ⟨w.heap.size+1+1,0,none⟩)]) Qe Qm ?_;refine(qE _ _ _ _).mono ?_;rintro e aY a8 ⟨rfl,rfl,rfl⟩;have ay:=ag.out.b0.cell;have ax:=ag.out.b1.cell;have aw:=ag.out.b2.cell;refine(show Leaves _ _ _ _ [] .returning _ from ?_);refine⟨.tuple #[.agg #[.slice ad R ab, .slice ac V Z], .int .i64 0, .int .i64 0],?_,by rw[an.out];exact⟨ag.out.e,_,_,_,_,_,_,rfl,be.out,bf.out⟩⟩;simp[results,results22,go_sem,ay,ax,aw]
   |false=>
    have an:=G (show mL s=(mN,0,6)from an.out);go_enter_defers func22,ntmps22;go_wp2_with (first|(go_at_call 46;refine(am.out _ (al.out.ext J.out.e)).mono ?_;rintro e aQ ⟨H,c,rfl,ae,A⟩;have d:=G (J.out.ex A);have c1:=d.out.b1.cell;have aq:=d.out.b1.frozen;have c2:=d.out.b2.cell;have ap:=d.out.b2.frozen;have ao:=G (wh (a:= .int .i64 M) (b:= .int .i64 0) (K:Int) d.out ae (by have:=J.out.lt;omega));have af:=G (((d.out.put1 (.int .i64 M)).put2 (.int .i64 0)).ex (aa _ (.cells #[.slice H u.length c, .int .i64 K] 124)));have aK:=d.out.lt;clear A ae am al J d)|(go_at_call 48;refine(qb (4*u.length+8) (by have:=aT.out.1;omega) u (K:Int) _ _ ao.out Qa).mono ?_;intro e aU ai;rw[show dN (4*u.length+8) ⟨[],[]⟩ u=_ from aX.out]at ai;obtain⟨aj,ad,R,ab,ac,V,Z,av,aL,aM⟩:=ai;subst av;have F:=G (af.out.grown aj aK);have ar:=af.out.lt;have az:=G (F.out.put0 (.slice ad R ab) (.slice ac V Z));have aC:=G ((aL.keep (Q:=λb=>w.heap.size+1+1<b) ⟨ah _,λ_ _ _=>rfl⟩ (λb o _=>aA ar o)).keep (Q:=λb=>w.heap.size+1+1<b) (sV (.slice ad R ab) (.slice ac V Z)) (λ_ o _=>o));have aD:=G ((aM.keep (Q:=λb=>w.heap.size+1+1<b) ⟨ah _,λ_ _ _=>rfl⟩ (λb o _=>aA ar o)).keep (Q:=λb=>w.heap.size+1+1<b) (sV (.slice ad R ab) (.slice ac V Z)) (λ_ o _=>o));have aH:=F.out.b0.cell;have aE:=F.out.b0.frozen;clear aj ao af aL aM ar F)|(go_at_call 28;refine(aS.out _ _ _ _ _ _ _ _ aC.out aD.out (gZ aP.out az.out.e)).mono ?_;rintro e a9 ⟨rfl,A⟩;clear aH aE;have I:=G (az.out.ex A);have a5:=G (aC.out.keep (.of_ext A) (Q:=λb=>w.heap.size+1+1<b) (λ_ o _=>o));have a6:=G (aD.out.keep (.of_ext A) (Q:=λb=>w.heap.size+1+1<b) (λ_ o _=>o));have aH:=I.out.b0.cell;have aE:=I.out.b0.frozen;have c1:=I.out.b1.cell;have aq:=I.out.b1.frozen;have c2:=I.out.b2.cell;have ap:=I.out.b2.frozen;clear A aC aD az aS aP));have ag:=G (((I.out.put0 (.slice none 0 0) (.slice none 0 0)).put1 (.int .i64 0)).put2 (.int .i64 6));refine leaves_cons (f:=47) (args:= #[.pointer (some ⟨w.heap.size,0,none⟩), .pointer (some ⟨w.heap.size+1,0,none⟩), .pointer (some ⟨w.heap.size+1+1,0,none⟩)]) Qe Qm ?_;refine(qE _ _ _ _).mono ?_;rintro e aY a8 ⟨rfl,rfl,rfl⟩;have ay:=ag.out.b0.cell;have ax:=ag.out.b1.cell;have aw:=ag.out.b2.cell;refine(show Leaves _ _ _ _ [] .returning _ from ?_);refine⟨.tuple #[.agg #[.slice none 0 0, .slice none 0 0], .int .i64 0, .int .i64 6],?_,by rw[an.out];exact ot ag.out.e⟩;simp[results,results22,go_sem,ay,ax,aw]
 ·have bh:(en !=0)=true:=by simp[bne,hen]
  have bj:(en==0)=false:=by simp[hen]
  have aI:=G (show mL s=(mN,M,en) by unfold mL;rw[aG];exact if_neg hen);clear aG hen bb;go_enter_defers func22,ntmps22;go_wp2_with (go_at_call 46;refine(am.out _ (al.out.ext J.out.e)).mono ?_;rintro e aQ ⟨H,c,rfl,ae,A⟩;have d:=G (J.out.ex A);have c1:=d.out.b1.cell;have aq:=d.out.b1.frozen;have c2:=d.out.b2.cell;have ap:=d.out.b2.frozen;clear A ae am al aP J);have aB:=G ((d.out.put1 (.int .i64 M)).put2 (.int .i64 en));clear c1 aq c2 ap d;generalize (aQ.setCell ⟨w.heap.size+1,0,none⟩ (.int .i64 M)).setCell ⟨w.heap.size+1+1,0,none⟩ (.int .i64 en)=bg at*;have aH:=aB.out.b0.cell;have c1:=aB.out.b1.cell;have c2:=aB.out.b2.cell;have aE:=aB.out.b0.frozen;have aq:=aB.out.b1.frozen;have ap:=aB.out.b2.frozen;go_region;have F:=G ((((aB.out.put0 (.slice none 0 0) (.slice none 0 0)).put1 (.int .i64 M)).put2 (.int .i64 en)).drew);go_wp2_with fail;have ay:=F.out.b0.cell;have ax:=F.out.b1.cell;have aw:=F.out.b2.cell;refine⟨.tuple #[.agg #[.slice none 0 0, .slice none 0 0], .int .i64 M, .int .i64 en],?_,by rw[aI.out];exact ot F.out.e⟩;simp[results,results22,go_sem,ay,ax,aw]
end
end Go.Proofs.YtoedmpgicdekmaaGreatDoor
