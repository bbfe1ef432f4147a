/- Parts of the proof. -/
import Derived.Test.YtddomeddabfinaaGreatDoorTt27
import Derived.Test.YtddomeddabfinaaGreatDoorTt29
import Derived.Test.YtddomeddabfinaaGreatDoorTt30
import Derived.Test.YtddomeddabfinaaGreatDoorTt26
import Derived.Test.YtddomeddabfinaaGreatDoorTt21
import Derived.Test.YtddomeddabfinaaGreatDoorTt28
import Derived.Test.YtddomeddabfinaaGreatDoorTt00
set_option maxRecDepth 100000
set_option maxHeartbeats 8000000
set_option linter.unusedVariables false
set_option linter.unusedSimpArgs false
set_option linter.unusedSectionVars false
namespace Go.Proofs.YtddomeddabfinaaGreatDoor
open IntKind(i64)
open Go.Proofs.Tryz
section
open Go.RowKit
theorem oo {h:MX} {C:Cx} {n:Nat} {x:Ex} (O:wj h C n x):oQ h C (n+1) x:=λa l G o j K c A z M w=>by
 by_cases hl:a.left=0
 ·exact xe h C (n+1) x a l G o j K c A z hl w
 ·exact O a l G o j K c A z hl M w
theorem mU {h:MX} {C:Cx} {n:Nat} {x:St} (ad:uu h C n x):H6 h C (n+1) x:=λa l M o j ab I X V R O z w ac K G A=>by
 by_cases hl:a.left=0
 ·exact wZ h C (n+1) x a l M o j ab I X V R O z w hl K G A
 ·exact ad a l M o j ab I X V R O z w hl ac K G A
theorem DN {h:MX} {C:Cx} {n:Nat} (ad:GS h C n) (ac:FJ h C n):GS h C (n+1):=by
 intro x a I;obtain⟨k,op,nm,tx,v,xs⟩:=x;rw[Ex.wt]at I;have o: ∀y∈xs,Cb C.fn y=true->oQ h C n y:=λy j G=>ad y G (by have:=dG j;omega);rw[Cb]at a;by_cases O:k=1
 ·subst O;exact oo (Dw h C n op nm tx v xs)
 by_cases h3:k=3
 ·subst h3;exact oo (Dv h C n op nm tx v xs Qa)
 rw[if_neg Qa]at a;by_cases h46:k=4\/k=6
 ·rw[if_pos h46,ag]at a;have A:=sa a.2;have K:1<=xs.length:=by simpa using a.1
  cases xs with
  |nil=>simp at K
  |cons y r=>
   have j:=o y Qd (A y Qd);rcases h46 with rfl|rfl
   ·exact oo (Du h C n op nm tx v y r Qa j)
   ·exact oo (Dr h C n op nm tx v y r j)
 rw[if_neg h46]at a;by_cases h5:k=5
 ·subst h5;rw[if_pos rfl]at a;refine oo (Ds h C n op nm tx v xs ?_)
  cases hb:fp nm with
  |none=>
   rw[hb]at a;simp only[ag]at a;exact vN h C n 5 op nm tx v xs Qa Qa hb (by simpa using a.1) (λy j=>o y j (sa a.2 y j)) ac
  |some b=>
   obtain⟨V,ls⟩:=b;rw[hb]at a;simp only[ag]at a;have ab:xs.length=ls.length:=by simpa using a.1.1
   have M:=sM nm;rw[hb]at M;refine vM h C n 5 op nm tx v xs V ls hb (AL h C n 5 op nm tx v xs V ls hb ab M (λae y j=> ?_) (λX R af G=>o _ (ay R) (zZ ls xs a.2 X R af G)) (λy j=> ?_))
   ·have w:=a.1.2;rw[bJ]at w;rcases w with w|w
    ·exact absurd ae (by simpa using w)
    ·have:=List.all_eq_true.1 w y j;simpa using this
   ·have O:=dG j;have w:=y.wt_eq;exact⟨by omega,by omega⟩
 rw[if_neg h5]at a;by_cases h7:k=7
 ·subst h7;rw[if_pos rfl,ag]at a;have A:=sa a.2;have K:2<=xs.length:=by simpa using a.1
  match xs,K,A,o with
  |y::z::r,_,A,o=>exact oo (Dq h C n op nm tx v y z r (o y Qd (A y Qd)) (o z Qd (A z Qd)))
 ·rw[if_neg h7]at a
  cases a
theorem sg (a:MX) (C:Cx) (I:FN C): ∀n m,m<=n->GS a C m/\Im a C m
 |0,m,h=>by
  obtain rfl:m=0:=Qa
  exact⟨λx _ _ K l ac O M aB c ab X J ap=>xe a C 0 x K l ac O M aB c ab X Qa ap,λx _ _ K l ac O M aA az ay ax aw av ab X J au ar G=>wZ a C 0 x K l ac O M aA az ay ax aw av ab X Qa au ar G⟩
 |n+1,m,h=>by
  by_cases hmn:m<=n
  ·exact sg a C I n m hmn
  obtain rfl:m=n+1:=Qa
  have ae:=sg a C I n;have V: ∀m,m<=n->H7 a C m:=λm h=>pX a C m (ae m h).2;have ah: ∀m,m<=n->GS a C m:=λm h=>(ae m h).1;refine⟨DN (ah n (ak _)) (tR a C n (V n (ak _)) I),λx R al=> ?_⟩;obtain⟨k,nm,z,w,o⟩:=x;rw[St.wt]at al;rw[EO]at R;simp only[ag]at R;obtain⟨⟨j,aj⟩,ao,an⟩:=R;have af: ∀m,m<=n-> ∀y∈z,oQ a C m y:=λm h y ad=>ah m h y (sa aj y ad) (by have:=dG ad;omega);have A:=af n (ak _);have ai: ∀m,m<=n->Ea a C m w:=λm h=>V m h w ao Qa;have aq:Ea a C n o:=V n (ak _) o an Qa;by_cases h5:k=5
  ·subst h5;rw[if_pos rfl]at j;exact mU (Dk a C n nm z w o (λe=>by rw[e]at j;simp at j) af ai)
  rw[if_neg h5]at j;by_cases G:k=3
  ·subst G;rw[if_pos rfl]at j;exact mU (Dm a C n nm z w o Qa A (by simpa using j))
  rw[if_neg G]at j;have j:1<=k/\k<=7:=by simpa using j
  obtain rfl|rfl|rfl|rfl|rfl:k=1\/k=2\/k=4\/k=6\/k=7:=Qa
  ·exact mU (Do a C n nm z w o Qa A)
  ·exact mU (Dn a C n nm z w o Qa A)
  ·exact mU (Dl a C n nm z w o A (ai n (ak _)) aq)
  ·exact mU (Dj a C n nm z w o A)
  ·exact mU (Di a C n nm z w o A)
def Ig (o:Oc) (A:Option Addr) (n c:Nat):Array Value:= #[.int i64 o.kind,.int i64 o.call,.int i64 o.a0,.int i64 o.a1,.int i64 o.a2,.slice A n c,.int i64 (o.used:Int)]
structure RW (w:World) (sv sf:Value) (out:Array Value) (ev:Value) (W:World):Prop where
 e:az w W
 b0:aU W w.heap.size 34 #[sv,sf]
 b1:aU W (w.heap.size+1) 42 out
 b2:aU W (w.heap.size+1+1) 28 #[ev]
theorem z' (a:World) (h j:Value) (o:Array Value) (ev:Value):RW a h j o ev (((a.alloc (.cells #[h,j] 34)).alloc (.cells o 42)).alloc (.cells #[ev] 28)):=by
 refine⟨((Z a _).alloc' _).alloc' _,((aw a _ _).alloc _).alloc _,?_,?_⟩
 ·have:=(aw (a.alloc (.cells #[h,j] 34)) 42 o).alloc (.cells #[ev] 28);rwa [World.size_alloc]at this
 ·have:=aw ((a.alloc (.cells #[h,j] 34)).alloc (.cells o 42)) 28 #[ev];rwa [World.size_alloc,World.size_alloc]at this
section
variable {w W W':World} {sv sf ev:Value} {out:Array Value}
theorem RW.ex (h:RW w sv sf out ev W) (a:az W W'):RW w sv sf out ev W':=⟨h.e.trans a,h.b0.ext a,h.b1.ext a,h.b2.ext a⟩
theorem RW.lt (a:RW w sv sf out ev W):w.heap.size+1+1<W.heap.size:=a.b2.lt
theorem RW.mv {S:Nat->Prop} (a:RW w sv sf out ev W) (h:Mv S W W') (j: ∀k,k<=w.heap.size+1+1-> ¬S k):RW w sv sf out ev W':=by
 have A:=a.lt;have z:az w W':=⟨h.os.trans a.e.os,h.tape.trans a.e.tape,h.output.trans a.e.output,aR a.e.size h.size,λk o=>(h.block k Qa (j k Qa)).trans (a.e.obj o)⟩
 exact⟨z,h.blk a.b0 (j _ Qa),h.blk a.b1 (j _ Qa),h.blk a.b2 (j _ Qa)⟩
end
abbrev sX:Array Value:= #[.int i64 0,.int i64 0,.int i64 0,.int i64 0,.int i64 0,.slice none 0 0,.int i64 0]
abbrev Ak (W:World) (g:Nat) (a b c d e f h:Value):World:=((((((W.setCell ⟨g,0,none⟩ a).setCell ⟨g,1,none⟩ b).setCell ⟨g,2,none⟩ c).setCell ⟨g,3,none⟩ d).setCell ⟨g,4,none⟩ e).setCell ⟨g,5,none⟩ f).setCell ⟨g,6,none⟩ h
theorem RW.put {a W:World} {w z ev:Value} (h:RW a w z sX ev W) (j b c d e f g u:Value):RW a w z #[j,b,c,d,e,f,g] u ((Ak W (a.heap.size+1) j b c d e f g).setCell ⟨a.heap.size+1+1,0,none⟩ u):=by
 have A:Mv (λk=>k=a.heap.size+1) W (Ak W (a.heap.size+1) j b c d e f g):=(((((((j6 (λk=>k=a.heap.size+1) W).set (p:=⟨a.heap.size+1,0,none⟩) (λ_=>rfl) j).set (p:=⟨a.heap.size+1,1,none⟩) (λ_=>rfl) b).set (p:=⟨a.heap.size+1,2,none⟩) (λ_=>rfl) c).set (p:=⟨a.heap.size+1,3,none⟩) (λ_=>rfl) d).set (p:=⟨a.heap.size+1,4,none⟩) (λ_=>rfl) e).set (p:=⟨a.heap.size+1,5,none⟩) (λ_=>rfl) f).set (p:=⟨a.heap.size+1,6,none⟩) (λ_=>rfl) g;have o:Mv (λk=>k=a.heap.size+1\/k=a.heap.size+1+1) W ((Ak W (a.heap.size+1) j b c d e f g).setCell ⟨a.heap.size+1+1,0,none⟩ u):=(A.mono λk _ e=> .inl e).set (p:=⟨a.heap.size+1+1,0,none⟩) (λ_=> .inr rfl) u;have K:aU (Ak W (a.heap.size+1) j b c d e f g) (a.heap.size+1) 42 #[j,b,c,d,e,f,g]:=by simpa using((((((h.b1.set 0 j).set 1 b).set 2 c).set 3 d).set 4 e).set 5 f).set 6 g
 have O:=h.lt;have M:az a ((Ak W (a.heap.size+1) j b c d e f g).setCell ⟨a.heap.size+1+1,0,none⟩ u):=⟨o.os.trans h.e.os,o.tape.trans h.e.tape,o.output.trans h.e.output,aR h.e.size o.size,λk G=>(o.block k Qa Qa).trans (h.e.obj G)⟩
 refine⟨M,o.blk h.b0 Qa,K.far (by show _≠a.heap.size+1+1;omega) u,?_⟩;have:=(A.blk h.b2 Qa).set 0 u;simpa using this
theorem xI (a j:World) (ak al:Value) (y:Value) (G:Nat) (w:MX) (o:Oc) (J:List PanicEntry) (H:RW a ak al sX y j) (X:aU j G 122 #[.pointer (some ⟨w.g,0,none⟩)]) (aM:iU w o j) (aO:a.heap.size+1+1<w.g) (av:w.g≠G) (ba:a.heap.size+1+1<G) (aN:w.g<w.hi):
  CallsD prog 47 #[.pointer (some ⟨G,0,none⟩),.pointer (some ⟨a.heap.size+1,0,none⟩),.pointer (some ⟨a.heap.size+1+1,0,none⟩)] (.panicking ({v:=.iface 129 (.agg #[.int i64 o.kind]),recovered:=false}::J)) j λe aH w'=>
   e=.returned (.tuple #[])/\aH=.panicking ({v:=.iface 129 (.agg #[.int i64 o.kind]),recovered:=true}::J)/\ ∃z c,RW a ak al (Ig o z o.data.length c) (.int i64 0) w'/\Sl w' z c o.data:=by
 obtain⟨aG,aF,aE,aD,aC,aB,z,c,A,ad,V⟩:=aM;obtain⟨k,ae,a0,ag,af,aP,used⟩:=o;simp only at A ad V⊢;obtain⟨ac,aL⟩: ∃n,aP.length=n:=⟨_,rfl⟩
 rw[aL]at A⊢;obtain⟨g,bh,bg,bi,lo,ar,aX,bb,aW,bj,a5⟩:=w;simp only at A X aO av V aN⊢;have K:=Z j (.cells #[.int i64 k] 129);have az:=O (aw j 129 #[.int i64 k]);have ay:=O (H.ex K);have ab:=O (A.ext K);have ai:=O (X.ext K);have ax:=O (ad.ext K);have a8:=H.lt;have a9:=A.lt;have a7:=X.lt;clear K H A X ad;refine callsD_of_wpS func47 rfl λbc bd aK=> ?_;apply wpS_seq;apply wpS_region;simp[wpOpsS,go_sem,recoverD,aK,ntmps47,Exit.thenS];have au: ∀v ah b c:Value,#[ah,b,c]++((Array.replicate 24 undef).setIfInBounds 3 v).setIfInBounds 0 v= #[ah,b,c,v,undef,undef,v,undef,undef,undef,undef,undef,undef,undef,undef,undef,undef,undef,undef,undef,undef,undef,undef,undef,undef,undef,undef]:=by
  intro v ah b c;apply kI;simp[i_]
 rw[au];clear au;apply wpS_seq;apply wpS_region;simp[wpOpsS,go_sem,Exit.thenS];refine wpS_cond (t:=true) (by simp[Act.eval]) ?_;simp only[if_true];refine wpS_of_wp ?_;have a6: ∀(v:Value) (aj:TypeId) (j:World),(Instr.typeAssert (.iface 129 v) aj 129 true).run prog j=.ok (.tuple #[v,.bool true]) j:=λv aj j=>by simp[Instr.typeAssert,run_underlying underlying129]
 go_upto_region 5 with fail
 have I:=az.out.cell;have an:=ai.out.cell;have ao:=ab.out.cell;have aJ:=ab.out.frozen;have a4:j.heap.size≠g:=Qa
 have a3:g≠j.heap.size:=Qa
 have aI:G≠g:=λe=>av e.symm;have a2:a.heap.size+1≠g:=Qa
 have a1:a.heap.size+1+1≠g:=Qa
 have aZ:a.heap.size+1≠a.heap.size+1+1:=Qa
 have aY:a.heap.size+1+1≠a.heap.size+1:=Qa
 generalize j.alloc (.cells #[.int i64 k] 129)=R at*
 go_upto_region 6 with fail
 have aq:aU (R.setCell ⟨g,6,none⟩ (.int i64 k)) g 127 #[aG,aF,aE,aD,aC,aB,.int i64 k,.int i64 ae,.int i64 a0,.int i64 ag,.int i64 af,.slice z ac c,.int i64 (used:Int)]:=by simpa using ab.out.set 6 (.int i64 k)
 have M:=O (ay.out.mv (S:=λb=>b=g) ((j6 (λb=>b=g) R).set (p:=⟨g,6,none⟩) (λ_=>rfl) (.int i64 k)) λb I e=>by omega);have aR:=O (ax.out.keepP (P:=λb=>ar<=b) (((j6 (λb=>b=g) R).set (p:=⟨g,6,none⟩) (λ_=>rfl) (.int i64 k)).keepP λb I _ e=>by omega) V);have ap:=(ai.out.far (p:=⟨g,6,none⟩) aI (.int i64 k))
 clear I an ao aJ ab ay ai az ax;generalize R.setCell ⟨g,6,none⟩ (.int i64 k)=aA at*;have an:=ap.cell;have ao:=aq.cell;have bf:=M.out.b1.cell;have be:=M.out.b2.cell;have aV:=M.out.b1.frozen;have aT:=M.out.b2.frozen;clear aq ap;have aS:=O (M.out.put (.int i64 k) (.int i64 ae) (.int i64 a0) (.int i64 ag) (.int i64 af) (.slice z ac c) (.int i64 (used:Int)) (.int i64 0));have aQ:=O (aR.out.keepP (P:=λb=>ar<=b) ((((((((((j6 (λb=>b=a.heap.size+1\/b=a.heap.size+1+1) aA).set (p:=⟨a.heap.size+1,0,none⟩) (λ_=> .inl rfl) (.int i64 k)).set (p:=⟨a.heap.size+1,1,none⟩) (λ_=> .inl rfl) (.int i64 ae)).set (p:=⟨a.heap.size+1,2,none⟩) (λ_=> .inl rfl) (.int i64 a0)).set (p:=⟨a.heap.size+1,3,none⟩) (λ_=> .inl rfl) (.int i64 ag)).set (p:=⟨a.heap.size+1,4,none⟩) (λ_=> .inl rfl) (.int i64 af)).set (p:=⟨a.heap.size+1,5,none⟩) (λ_=> .inl rfl) (.slice z ac c)).set (p:=⟨a.heap.size+1,6,none⟩) (λ_=> .inl rfl) (.int i64 (used:Int))).set (p:=⟨a.heap.size+1+1,0,none⟩) (λ_=> .inr rfl) (.int i64 0)).keepP λb I _ e=>by omega) V);go_wp2_with fail;refine⟨rfl,_,rfl,.tuple #[],?_,rfl,rfl,z,c,aS.out,aQ.out⟩;simp[results,results47]
end
section
theorem rE: ∀(vs:List Vr) (s:List UInt8),(∀v∈vs,v.nm≠s)->f8 vs s=[]
 | [],s,_=>rfl
 |v::r,s,h=>by
  rw[f8,if_neg (λe=>h v Qd e.1.symm)];exact rE r s λu a=>h u (by simp[a])
theorem rD: ∀(vs:List Vr) (u:Vr) (s:List UInt8),(∀v∈vs,v.nm≠u.nm)->f8 (vs++[u]) s=if s=u.nm/\0<u.sz then List.replicate u.sz.toNat 0 else f8 vs s
 | [],u,s,_=>by
  show f8 [u] s=_;rw[f8];rfl
 |v::r,u,s,h=>by
  show f8 (v::(r++[u])) s=_;rw[f8,f8];by_cases e:s=v.nm/\0<v.sz
  ·have o: ¬s=u.nm:=λa=>h v Qd (e.1.symm.trans a);rw[if_pos e,if_neg (λa=>o a.1),if_pos e]
  ·rw[if_neg e,if_neg e];exact rD r u s λx j=>h x (by simp[j])
theorem tX: ∀(a:List Fc) (u:Fc) (s:List UInt8),(∀f∈a,f.nm≠u.nm)->jA (a++[u]) s=if s=u.nm then u else jA a s
 | [],u,s,_=>by
  show jA [u] s=_;rw[jA,jA,jA]
 |f::r,u,s,h=>by
  show jA (f::(r++[u])) s=_;rw[jA,jA];by_cases e:s=f.nm
  ·have o: ¬s=u.nm:=λw=>h f Qd (e.symm.trans w);rw[if_pos e,if_neg o,if_pos e]
  ·rw[if_neg e,if_neg e];exact tX r u s λx j=>h x (by simp[j])
theorem qM {α:Type} (l:List α) (a:Nat) (h:a<l.length):l.take (a+1)=l.take a++[l[a]]:=by rw[List.take_add_one,aO h];rfl
theorem si {α h:Type} (l:List α) (f:α->h) (o:(l.map f).Pairwise (· ≠ ·)) (a:Nat) (z:a<l.length): ∀x∈l.take a,f x≠f l[a]:=by
 intro x j;obtain⟨i,w,rfl⟩:=List.mem_iff_getElem.1 j;rw[bN]at w;rw[gW];have:=List.pairwise_iff_getElem.1 o i a Qh (by simpa using z) Qa;simpa using this
theorem y6 (vs:List Vr) (j:(vs.map (·.nm)).Pairwise (· ≠ ·)) (a:Nat) (h:a<vs.length) (s:List UInt8):f8 (vs.take (a+1)) s=if s=vs[a].nm/\0<vs[a].sz then List.replicate vs[a].sz.toNat 0 else f8 (vs.take a) s:=by
 rw[qM vs a h];exact rD _ _ s (si vs (·.nm) j a h)
theorem Bl (a:List Fc) (o:(a.map (·.nm)).Pairwise (· ≠ ·)) (h:Nat) (j:h<a.length) (s:List UInt8):jA (a.take (h+1)) s=if s=a[h].nm then a[h]else jA (a.take h) s:=by
 rw[qM a h j];exact tX _ _ s (si a (·.nm) o h j)
theorem xv {p:Pg} (j:ig p=.ok ()):(p.vs.map (·.nm)).Pairwise (· ≠ ·)/\(p.fs.map (·.nm)).Pairwise (· ≠ ·):=by
 unfold ig at j;obtain⟨g,w,_⟩:=dM j;have a:=uF p;rw[w,e_]at a;unfold vJ at a;obtain⟨_,o,_⟩:=dM a;have h:=(wD _ _ o).2;exact⟨(List.pairwise_append.1 h).1,(List.pairwise_append.1 h).2.1⟩
theorem xk: ∀(h:List Fc) (s:List UInt8),jA h s∈h\/jA h s=⟨[],[],[]⟩
 | [],s=> .inr rfl
 |f::r,s=>by
  rw[jA];split
  ·exact .inl Qd
  ·rcases xk r s with a|a
   ·exact .inl (by simp[a])
   ·exact .inr a
end
section
open Go.RowKit
abbrev zF:Value:=.agg #[.string ⟨#[]⟩,.slice none 0 0,.slice none 0 0]
structure PM (n0:Nat) (lf:Int) (rv:Value) (ar:List UInt8->List UInt8) (rb:List UInt8->Nat) (fnL:List UInt8->Fc) (W:World):Prop where
 g:aU W (n0+3) 127 #[.map (some n0),.map (some (n0+1)),.map (some (n0+2)),rv,.int i64 lf,.int i64 0,.int i64 0,.int i64 0,.int i64 0,.int i64 0,.int i64 0,.slice none 0 0,.int i64 0]
 m:aU W (n0+4) 122 #[.pointer (some ⟨n0+3,0,none⟩)]
 f: ∃L,cd W n0 L/\ ∀s,∃pv bv,(L s).getD zF=.agg #[.string (J (fnL s).nm),pv,bv]/\mQ W (λb=>b<n0) pv (fnL s).ps/\db W (λb=>b<n0) bv (fnL s).body
 i:cd W (n0+1) (λ_=>none)
 a: ∃L,cd W (n0+2) L/\ ∀s,(L s).getD (.slice none 0 0)=if ar s=[]then .slice none 0 0 else .slice (some ⟨rb s,0,none⟩) (ar s).length (ar s).length
 row: ∀s,ar s≠ []->aU W (rb s) 5 (Cf (ar s))/\n0+5<=rb s/\(ar s).length<=2000
 inj: ∀s t,ar s≠ []->ar t≠ []->rb s=rb t->s=t
section
variable {n0:Nat} {lf:Int} {rv:Value} {ar:List UInt8->List UInt8} {rb:List UInt8->Nat} {fnL:List UInt8->Fc} {W W':World}
theorem PM.lt (a:PM n0 lf rv ar rb fnL W):n0+4<W.heap.size:=a.m.lt
theorem PM.ext (j:PM n0 lf rv ar rb fnL W) (h:az W W'):PM n0 lf rv ar rb fnL W':=by
 obtain⟨ad,V,R⟩:=j.f;obtain⟨ac,ab,I⟩:=j.a;refine⟨j.g.ext h,j.m.ext h,⟨ad,V.ext h,λs=> ?_⟩,j.i.ext h,⟨ac,ab.ext h,I⟩,λs O=> ?_,j.inj⟩
 ·obtain⟨G,X,e,M,K⟩:=R s;exact⟨G,X,e,M.keep (.of_ext h) λb o _=>o,K.keep (.of_ext h) λb o _=>o⟩
 ·obtain⟨A,z,w⟩:=j.row s O;exact⟨A.ext h,z,w⟩
theorem PM.addA {nm:List UInt8} {g n:Nat} {L:KF} (o:PM n0 lf rv ar rb fnL W) (ak:0<n) (ab:n<=2000) (af: ∀s,(L s).getD (.slice none 0 0)=if ar s=[]then .slice none 0 0 else .slice (some ⟨rb s,0,none⟩) (ar s).length (ar s).length)
  (ad:n0+5<=g) (G: ∀s,ar s≠ []->rb s≠g) (ae:Rw W g 5 (List.replicate n 0)) (ac:cd W' (n0+2) (L.upd nm (.slice (some ⟨g,0,none⟩) n n))) (h:W.grownBy W' (some (n0+2))):
  PM n0 lf rv (λs=>if s=nm then List.replicate n 0 else ar s) (λs=>if s=nm then g else rb s) fnL W':=by
 obtain⟨aj,ah,ag⟩:=o.f;have j: ∀k,k≠n0+2->some k≠some (n0+2):=λk z e=>z (by injection e);have z:cR (λb=>b<n0) W W':=.of_grown h λb A e=>by injection e with e;omega
 have I:List.replicate n (0:UInt8)≠ []:=λe=>by have:=congrArg List.length e;simp at this;omega
 refine⟨o.g.grown h (j _ Qa),o.m.grown h (j _ Qa),⟨aj,ah.grown h (j _ Qa),λs=> ?_⟩,o.i.grown h (j _ Qa),⟨_,ac,λs=> ?_⟩,λs a=> ?_,λs t a w e=> ?_⟩
 ·obtain⟨R,ai,e,X,V⟩:=ag s;exact⟨R,ai,e,X.keep z λb A _=>A,V.keep z λb A _=>A⟩
 ·unfold KF.upd;by_cases e:s=nm
  ·rw[if_pos e];simp only[if_pos e];rw[if_neg I,lq];rfl
  ·rw[if_neg e];simp only[if_neg e];exact af s
 ·by_cases e:s=nm
  ·simp only[if_pos e];exact⟨(show Rw W g 5 (List.replicate n 0)from ae).grown h (j _ Qa),ad,by rw[lq];exact ab⟩
  ·simp only[if_neg e]at a⊢;obtain⟨O,M,K⟩:=o.row s a;exact⟨O.grown h (j _ Qa),M,K⟩
 ·by_cases e1:s=nm
  ·by_cases e2:t=nm
   ·rw[e1,e2]
   ·simp only[if_pos e1,if_neg e2]at e w;exact absurd e.symm (G t w)
  ·by_cases e2:t=nm
   ·simp only[if_neg e1,if_pos e2]at e a;exact absurd e (G s a)
   ·simp only[if_neg e1,if_neg e2]at e a w;exact o.inj s t a w e
theorem PM.addF {f:Fc} {j o:Value} {L:KF} (A:PM n0 lf rv ar rb fnL W) (ac: ∀s,∃j o,(L s).getD zF=.agg #[.string (J (fnL s).nm),j,o]/\mQ W (λb=>b<n0) j (fnL s).ps/\db W (λb=>b<n0) o (fnL s).body)
  (I:mQ W (λb=>b<n0) j f.ps) (h:db W (λb=>b<n0) o f.body) (ab:cd W' n0 (L.upd f.nm (.agg #[.string (J f.nm),j,o]))) (z:W.grownBy W' (some n0)):
  PM n0 lf rv ar rb (λs=>if s=f.nm then f else fnL s) W':=by
 obtain⟨af,ae,ad⟩:=A.a;have G: ∀k,k≠n0->some k≠some n0:=λk w e=>w (by injection e);have w:cR (λb=>b<n0) W W':=.of_grown z λb h e=>by injection e with e;omega
 refine⟨A.g.grown z (G _ Qa),A.m.grown z (G _ Qa),⟨_,ab,λs=> ?_⟩,A.i.grown z (G _ Qa),⟨af,ae.grown z (G _ Qa),ad⟩,λs X=> ?_,A.inj⟩
 ·unfold KF.upd;by_cases e:s=f.nm
  ·rw[if_pos e];simp only[if_pos e];exact⟨j,o,rfl,I.keep w λb h _=>h,h.keep w λb h _=>h⟩
  ·rw[if_neg e];simp only[if_neg e];obtain⟨j,o,e,V,R⟩:=ac s;exact⟨j,o,e,V.keep w λb h _=>h,R.keep w λb h _=>h⟩
 ·obtain⟨O,M,K⟩:=A.row s X;exact⟨O.grown z (G _ Qa),M,K⟩
theorem PM.congr {h:List UInt8->List UInt8} {a:List UInt8->Fc} (w:PM n0 lf rv ar rb fnL W) (o:ar=h) (j:fnL=a):PM n0 lf rv h rb a W:=by subst o;subst j;exact w
end
theorem E7 (a:World) (lf:Int) (j:Value):PM a.heap.size lf j (λ_=>[]) (λ_=>0) (λ_=>⟨[],[],[]⟩)
  (((((a.alloc (.map #[] 0)).alloc (.map #[] 0)).alloc (.map #[] 0)).alloc (.cells #[.map (some a.heap.size),.map (some (a.heap.size+1)),.map (some (a.heap.size+1+1)),j,.int i64 lf,.int i64 0,.int i64 0,.int i64 0,.int i64 0,.int i64 0,.int i64 0,.slice none 0 0,.int i64 0] 127)).alloc (.cells #[.pointer (some ⟨a.heap.size+1+1+1,0,none⟩)] 122)):=by
 generalize R:(#[.map (some a.heap.size),.map (some (a.heap.size+1)),.map (some (a.heap.size+1+1)),j,.int i64 lf,.int i64 0,.int i64 0,.int i64 0,.int i64 0,.int i64 0,.int i64 0,.slice none 0 0,.int i64 0]:Array Value)=cs;have V:=Z (a.alloc (.map #[] 0)) (.map #[] 0);have K:=Z ((a.alloc (.map #[] 0)).alloc (.map #[] 0)) (.map #[] 0);have w:=Z (((a.alloc (.map #[] 0)).alloc (.map #[] 0)).alloc (.map #[] 0)) (.cells cs 127);have h:=Z ((((a.alloc (.map #[] 0)).alloc (.map #[] 0)).alloc (.map #[] 0)).alloc (.cells cs 127)) (.cells #[.pointer (some ⟨a.heap.size+1+1+1,0,none⟩)] 122);have G:=(((iw a).ext V).ext K).ext (w.trans h);have A:=((iw (a.alloc (.map #[] 0))).ext K).ext (w.trans h);have z:=(iw ((a.alloc (.map #[] 0)).alloc (.map #[] 0))).ext (w.trans h);have O:=(aw (((a.alloc (.map #[] 0)).alloc (.map #[] 0)).alloc (.map #[] 0)) 127 cs).ext h;have M:=aw ((((a.alloc (.map #[] 0)).alloc (.map #[] 0)).alloc (.map #[] 0)).alloc (.cells cs 127)) 122 #[.pointer (some ⟨a.heap.size+1+1+1,0,none⟩)];simp only[World.size_alloc]at G A z O M;subst R;exact⟨O,M,⟨_,G,λs=>⟨_,_,rfl,mQ.nil_ _ _,.nil _ _⟩⟩,A,⟨_,z,λs=>rfl⟩,λs o=>absurd rfl o,λs t o=>absurd rfl o⟩
theorem Gh {p:Pg} {K:Rs} {h:Nat} {lf:Int} {w:Value} {z:List UInt8->Nat} {W:World} (j:PM h lf w (f8 p.vs) z (jA p.fs) W) (I: -9223372036854775808<=lf) (X:lf<=9223372036854775807) (ac:lD W (λb=>b<h) w K) (ad:BT W) (ae:0<h):
  ∃o:MX,o.g=h+3/\o.hi=W.heap.size/\o.lo=h/\o.mv=h+4/\o.bf=h/\MA o (cx p K) (Dp p lf.toNat) W:=by
 obtain⟨M,ag,af⟩:=j.f;have aj:=j.lt;refine⟨⟨h+3,h,h+1,h+2,h,W.heap.size,z,λs=>(M s).getD zF,w,λs=>(f8 p.vs s).length,h+4⟩,rfl,rfl,rfl,rfl,rfl,?_⟩;refine⟨⟨by simp only;omega,by simp only;omega,by simp only;omega,by simp only[MX.S];omega,by simp only[MX.S];omega,by simp only[MX.S];omega,by simp only[MX.S];omega⟩,⟨lf,rfl,I,X,j.g⟩,⟨M,ag,λs=>rfl⟩,λs=> ?_,⟨_,j.i,λs=>rfl⟩,j.a,λs ab=> ?_,j.inj,ac,aI _,aI _,λx=>by show jH 0;decide,ad,ae,ak _,λs=>rfl⟩
 ·obtain⟨O,ah,e,V,R⟩:=af s;exact⟨O,ah,e,V,R⟩
 ·obtain⟨G,ai,A⟩:=j.row s ab;have:=G.lt;exact⟨G,by simp only[MX.S];omega,by simp only;omega,by have A:(f8 p.vs s).length<=2000:=A;show(f8 p.vs s).length<=_;omega⟩
theorem Gy {p:Pg} (G:Rs) (o:gx p=true) (A:ig p=.ok ()) (K:jo p<=6000000):FN (cx p G):=by
 have w:=(tB o A).2;have a: ∀s,fP (jA p.fs s).body<=6000000/\(jA p.fs s).ps.length<=6000000/\ ∀q∈(jA p.fs s).ps,q.length<=1073741824:=λs=>by
  rcases xk p.fs s with h|h
  ·have R:=oH h;have O:fP (jA p.fs s).body<=(jA p.fs s).wt:=by unfold Fc.wt;omega
   have M:(jA p.fs s).ps.length<=(jA p.fs s).wt:=by
    have:=jv (λ_:List UInt8=>1) (λs=>s.length+1) (jA p.fs s).ps (λv _=>by omega);rw[gv]at this;unfold Fc.wt;omega
   exact⟨by omega,by omega,λy j=>by have:=Ar j;omega⟩
  ·rw[h];exact⟨by simp[fP],by simp,λq z=>by cases z⟩
 exact⟨w,λs=>(a s).1,λs=>(a s).2.1,λs=>(a s).2.2⟩
def Cd (o:Oc) (A:Option Addr) (c:Nat):Value:=.agg #[.int i64 o.kind,.int i64 o.call,.int i64 o.a0,.int i64 o.a1,.int i64 o.a2,.slice A o.data.length c,.int i64 (o.used:Int)]
theorem uZ {tmps:Array Value} {a W:World} {R V y:Value} {w:Nat} {j:MX} {o:Oc} {k:Int} {Q:Ending->World->Prop} (M:tmps.getD 6 undef=.pointer (some ⟨a.heap.size+1,0,none⟩)) (K:tmps.getD 7 undef=.pointer (some ⟨a.heap.size+1+1,0,none⟩)) (ab:o.kind=k)
  (H:RW a R V sX y W) (I:aU W w 122 #[.pointer (some ⟨j.g,0,none⟩)]) (ad:iU j o W) (ah:a.heap.size+1+1<j.g) (ag:j.g≠w) (af:a.heap.size+1+1<w) (ae:j.g<j.hi)
  (ac: ∀z c A,az a A->Sl A z c o.data->Q (.returned (.tuple #[Cd o z c,.int i64 0])) A):
  Leaves prog Tryz.f17 tmps Q [{target:=.fn (Fn.func 47) #[.pointer (some ⟨w,0,none⟩),.pointer (some ⟨a.heap.size+1,0,none⟩),.pointer (some ⟨a.heap.size+1+1,0,none⟩)],args:= #[]}] (.panicking [{v:=.iface 129 (.agg #[.int i64 k]),recovered:=false}]) W:=by
 subst ab;refine leaves_cons (f:=47) (args:= #[.pointer (some ⟨w,0,none⟩),.pointer (some ⟨a.heap.size+1,0,none⟩),.pointer (some ⟨a.heap.size+1+1,0,none⟩)]) Qd Qk ?_;refine(xI a W _ _ _ w j o _ H I ad ah ag af ae).mono ?_;rintro e ak aj ⟨rfl,rfl,z,c,G,X⟩;have O:=G.b1.cell;have ai:=G.b2.cell;unfold Ig at O;rw[aA]at M K;refine(show Leaves _ _ _ _ [] .returning _ from ?_);refine⟨.tuple #[Cd o z c,.int i64 0],?_,ac z c _ G.e X⟩;simp[results,results17,go_sem,M,K,O,ai,Cd]
end
section
def NZ {α:Type} (x:Except Er α):Prop:=match x with
 | .ok _=>True
 | .error e=>e.2≠0
theorem NZ.then {α h:Type} {x:Except Er α} {k:α->Except Er h} (o:NZ x) (j: ∀a,NZ (k a)):NZ (CR.then x k):=by
 cases x with
 |error e=>exact o
 |ok a=>exact j a
theorem wW {α:Type} (a:α):NZ (.ok a:Except Er α):=trivial
theorem eP {α:Type} {c:Prop} [Decidable c] {x y:Except Er α} (h:NZ x) (a:NZ y):NZ (if c then x else y):=by split<;>assumption
theorem AD (g:Gl) (lo:Ls) (s:List UInt8):NZ (qb g lo s):=eP trivial (eP (by show(16:Int)≠0;decide) (by show(15:Int)≠0;decide))
theorem vE (g:Gl) (lo:Ls) (s:List UInt8):NZ (md g lo s):=eP trivial (eP (by show(16:Int)≠0;decide) (by show(15:Int)≠0;decide))
mutual
theorem Gn (g:Gl) (lo:Ls): ∀x:Ex,NZ (oM g lo x)
 | .mk k op nm tx v a=>by
  rw[oM];refine eP (AD _ _ _) (eP ((vE _ _ _).then λ_=>Dd g lo a) (eP (by show(16:Int)≠0;decide) (eP ?_ (eP (Dd g lo a) trivial))));split
  ·show(15:Int)≠0;decide
  ·exact eP (Gp g lo nm (fp nm) 0 a) (by show(16:Int)≠0;decide)
theorem Dd (g:Gl) (lo:Ls): ∀l:List Ex,NZ (oL g lo l)
 | []=>trivial
 |y::r=>by rw[oL];exact(Gn g lo y).then λ_=>Dd g lo r
theorem Gp (g:Gl) (lo:Ls) (nm:List UInt8) (b:Bi): ∀(i:Nat) (l:List Ex),NZ (oU g lo nm b i l)
 | _,[]=>trivial
 |i,y::r=>by
  rw[oU];exact(eP (Gn g lo y) (eP (by show(16:Int)≠0;decide) (eP (vE _ _ _) (wW _)))).then λ_=>Gp g lo nm b (i+1) r
end
mutual
theorem Gm (g:Gl): ∀(x:St) (lo:Ls),NZ (sJ g lo x)
 | .mk k nm ex bd el,lo=>by
  rw[sJ];exact(eP (AD _ _ _) (eP (vE _ _ _) (wW _))).then λ_=>(Dd g lo ex).then λ_=>(eP (eP (by show(9:Int)≠0;decide) (wW _)) (wW _)).then λh=>(wX g bd h).then λa=>wX g el a
theorem wX (g:Gl): ∀(l:List St) (lo:Ls),NZ (gm g lo l)
 | [],lo=>trivial
 |s::r,lo=>by rw[gm];exact(Gm g s lo).then λa=>wX g r a
end
theorem Eo (g:Gl): ∀(l:List (List UInt8)) (lo:Ls),NZ (ou g lo l)
 | [],lo=>trivial
 |s::r,lo=>by rw[ou];exact eP (by show(9:Int)≠0;decide) (Eo g r _)
theorem wU: ∀(l:List Vr) (g:Gl),NZ (kP g l)
 | [],g=>trivial
 |v::r,g=>by rw[kP];exact eP (by show(9:Int)≠0;decide) (wU r _)
theorem wV: ∀(l:List Fc) (g:Gl),NZ (jq g l)
 | [],g=>trivial
 |v::r,g=>by rw[jq];exact eP (by show(9:Int)≠0;decide) (wV r _)
theorem Ep (g:Gl): ∀(l:List Fc),NZ (ky g l)
 | []=>trivial
 |f::r=>by rw[ky];exact(Eo g _ _).then λlo=>(wX g _ lo).then λ_=>Ep g r
theorem AE: ∀(l:List Fc),NZ (gJ l)
 | []=>trivial
 |f::r=>by rw[gJ];exact eP (by show(6:Int)≠0;decide) (AE r)
theorem E' (p:Pg):NZ (ig p):=by
 unfold ig ng;refine NZ.then ((wU _ _).then λg=>(wV _ g).then λg=> ?_) λg=>(Ep g _).then λ_=>AE _;split
 ·show(_:Int)≠0;decide
 ·exact eP (by show(16:Int)≠0;decide) trivial
end
section
open Go.RowKit
def wa (p:Pg) (R:Rs) (steps:Int) (w:World) (e:Ending) (w':World):Prop:=az w w'/\if(gF p).2=0 then ∃A c,e=.returned (.tuple #[Cd (kn p R steps.toNat) A c,.int i64 0])/\Sl w' A c (kn p R steps.toNat).data else e=.returned (.tuple #[.agg sX,.int i64 1])
theorem zh {P:Program} {a:World} {j:Oper} {h:Act} {z:Act->World->Prop} {Q:Exit->Act->World->Prop} {t e:TypeId} (R:qt P t e) (s c:Operand) (K:j.op=.makeSlice t s c)
  (n:Nat) (M:n<=1073741824) (o w:IntKind) (A:h.eval s=.int o (n:Int)) (O:h.eval c=.int w (n:Int))
  (ab: ∀w',Rw w' a.heap.size e (List.replicate n 0)->az a w'->w'.heap.size=a.heap.size+1->z (h.put j.dst (.slice (some ⟨a.heap.size,0,none⟩) n n)) w'):j.wp P h a z Q:=by
 obtain⟨w',G,I,X,V⟩:=yg (P:=P) R o w n M a;unfold Oper.wp execOp;simp only[K,Sem.run_bind,Sem.run_pure,A,O,G,Result.andThen_ok];exact ab w' I X V
theorem lD.mono {h:World} {P Q:Nat->Prop} {v:Value} {K:Rs} (j:lD h P v K) (A: ∀b,P b->b<h.heap.size->Q b):lD h Q v K:=by
 obtain⟨ai,c,rfl,j⟩:=j;refine⟨ai,c,rfl,j.imp id fun⟨ae,ad,b,X,ha,ac,z,ah,ag,ab⟩=>⟨ae,ad,b,X,ha,A b ac z,z,ah,ag,λi I=> ?_⟩⟩;obtain⟨R,O,o,M⟩:=ab i I;refine⟨R,O,o,λG V e w=>A G (M G V e w) ?_⟩;rcases o.rd with af|⟨b3,o3,a,hb3,_⟩
 ·exact absurd af w
 ·rw[e]at a;injection a with a;injection a with a _;omega
theorem CG {p:Pg} {w:Rs} {o:Int} {j w':World} {a:Oc} {h:Option Addr} {c:Nat} (K:az j w') (G:(gF p).2=0) (A:kn p w o.toNat=a) (z:Sl w' h c a.data):wa p w o j (.returned (.tuple #[Cd a h c,.int i64 0])) w':=by
 subst A;refine⟨K,?_⟩;rw[if_pos G];exact⟨h,c,rfl,z⟩
theorem CN {j:World} {P:Nat->Prop} {w:Option Addr} {n c:Nat} {vs:List Vr} (h:ik j P (.slice w n c) vs) (i:Nat) (o:i<vs.length): ∃b a,w=some ⟨b,a,none⟩/\P b/\b<j.heap.size/\j.cell? ⟨b,a+i*2,none⟩=some (.string (J vs[i].nm))/\j.cell? ⟨b,a+i*2+1,none⟩=some (.int i64 vs[i].sz):=by
 obtain⟨M,K,e,h⟩:=h;injection e with G A z;subst G A z;rcases h with h|⟨_,_,b,a,rfl,hP,hb,hc⟩
 ·subst h;simp at o
 ·exact⟨b,a,rfl,hP,hb,(hc i o).1,(hc i o).2⟩
theorem Cm (p:Pg) (cb:jo p<=6000000) (av:gx p=true) (aT:ig p=.ok ()) (P:Nat->Prop) (w:World) (aH B:Option Addr) (n c m d:Nat) (bQ:ik w P (.slice aH n c) p.vs) (bV:jl w P (.slice B m d) p.fs) (bh:dP w w.heap.size) (bE:BT w) (A:Rs) (b9:Value) (bB:lD w P b9 A) (M:Int) (ce: -9223372036854775808<=M) (cd:M<=9223372036854775807):
  Calls prog 17 #[.agg #[.slice aH n c,.slice B m d],b9,.int i64 M] w (wa p A M w):=by
 have dJ:= @run_makeMap prog;have bu: ∀(fn:Fn) (first cu:Array Value) (w:World),(Instr.makeFunc fn first cu).run prog w=.ok (.func fn first cu) w:=λ_ _ _ _=>rfl;have cg:n=p.vs.length:=by obtain⟨dD,dm,e,_⟩:=bQ;injection e
 have ch:m=p.fs.length:=by obtain⟨dD,dm,e,_⟩:=bV;injection e
 obtain⟨aX,aQ,cX,_⟩:=id bB;subst cX;obtain⟨a1,cn⟩: ∃x,A.length=x:=⟨_,rfl⟩
 rw[cn]at bB⊢;obtain⟨dW,bS⟩: ∃x,p.vs.length=x:=⟨_,rfl⟩
 obtain⟨dX,bT⟩: ∃x,p.fs.length=x:=⟨_,rfl⟩
 have cD:=O bS;have cE:=O bT;rw[bS]at cg;rw[bT]at ch;subst cg ch
 have dq:=O (show ∀v∈p.vs,v.nm.length<=1073741824/\v.sz<=2000 from λv cc=>by
  have aj:=Aq cc;unfold gx at av;simp only[ag]at av;have ai:=List.all_eq_true.1 av.1.1.1.1 v cc;unfold pd at ai;simp only[ag,decide_eq_true_eq]at ai
  exact⟨by omega,ai.2⟩)
 have dy:=O (show ∀f∈p.fs,f.nm.length<=1073741824 from λf c7=>by
  have aj:=oH c7;have ai:=wS (f:=f)
  omega)
 have cN:=O (xv aT).1;have dA:=O (xv aT).2;have dv:=O (tB av aT).1;have cO:=O (Gy A av aT cb);have c2:n<=20/\m<=20:=by
  unfold gx at av;simp only[ag,decide_eq_true_eq]at av;omega
 obtain⟨dQ,dR⟩:=c2;have bF:=O (z' w (.slice aH n c) (.slice B m d) sX (.int i64 0));have cw:=O (bQ.keep (Q:=λb=>b<w.heap.size) ⟨ak _,λ_ _ _=>rfl⟩ (λb aj ai=>ai));have cL:=O (bV.keep (Q:=λb=>b<w.heap.size) ⟨ak _,λ_ _ _=>rfl⟩ (λb aj ai=>ai));have ds:=O (bB.mono (Q:=λb=>b<w.heap.size) λb _ o=>o);have bP:gF p=([],0):=by unfold gF;rw[if_pos av,aT]
 have cP:=O (λW (o:az w W)=>show Calls prog 13 #[.agg #[.slice aH n c,.slice B m d]] W λe w'=>e=.returned (.tuple #[.string ⟨#[]⟩,.int i64 0])/\az W w' from by
  have:=mB p cb (λb=>b<w.heap.size) W aH B n c m d (cw.out.keep (.of_ext o) (λb K _=>K)) (cL.out.keep (.of_ext o) (λb K _=>K)) (dN bh o) (bE.ext o);rw[bP]at this
  exact this)
 have dx:=O (show(gF p).2=0 by rw[bP]);have dB:=O bE;have cy:=O (aE ce cd);have dM:0<w.heap.size:=by obtain⟨t,fr,o⟩:=bE;exact(Array.getElem?_eq_some_iff.1 o).1
 have aC:=bF.out.b0.cell;clear bQ bV bh bE av aT bB ce cd bS bT cn bP;go_enter_defers func17,ntmps17;go_wp2_with (go_at_call 13;refine(cP.out _ bF.out.e).mono ?_;rintro e ac ⟨rfl,ah⟩;have aD:=O (bF.out.ex ah);have cC:=O (E7 ac M (.slice aX a1 aQ));have cM:=O (((((Z ac (.map #[] 0)).alloc' (.map #[] 0)).alloc' (.map #[] 0)).alloc' (.cells #[.map (some ac.heap.size),.map (some (ac.heap.size+1)),.map (some (ac.heap.size+1+1)),.slice aX a1 aQ,.int i64 M,.int i64 0,.int i64 0,.int i64 0,.int i64 0,.int i64 0,.int i64 0,.slice none 0 0,.int i64 0] 127)).alloc' (.cells #[.pointer (some ⟨ac.heap.size+1+1+1,0,none⟩)] 122));have cv:=O (aD.out.ex cM.out);clear aC;have aC:=cv.out.b0.cell;clear ah cP bF);clear aC;have aG:=O (show w.heap.size+1+1<ac.heap.size from aD.out.lt);generalize ac.heap.size=z at*;have bZ:z+1+1=z+2:=rfl;have dl:z+1+1+1=z+3:=rfl;have dk:z+1+1+1+1=z+4:=rfl;simp only[bZ,dl,dk]at*;have du:=O (show PM z M (.slice aX a1 aQ) (f8 (p.vs.take 0)) (λ_=>0) (jA []) _ from cC.out.congr rfl rfl);clear cC cM aD
 go_loopw [34] (λaL wr=> ∃(G:Nat) (bq:List UInt8->Nat),aL=.int i64 (G:Int)/\G<=n/\Hid (RW w (.slice aH n c) (.slice B m d) sX (.int i64 0) wr)/\Hid (PM z M (.slice aX a1 aQ) (f8 (p.vs.take G)) bq (jA []) wr)) (λaL _=>n-(intOf aL).toNat)
 case atStart=>exact⟨0,λ_=>0,rfl,aI _,cv,du⟩
 case round=>
  obtain⟨G,bq,rfl,dK,bn,bo⟩:=hrel;generalize wr=a5 at*;by_cases hlt:G<n
  ·have c4:(G:Int)<n:=Qa
   have bv:G<p.vs.length:=by have:=cD.out;omega
   obtain⟨b,af,rfl,K,aV,aK,aj⟩:=CN cw.out G bv;have br:=dq.out _ (ay bv);have bd:=y6 p.vs cN.out G bv;obtain⟨y,aJ⟩: ∃y,p.vs[G]=y:=⟨_,rfl⟩
   rw[aJ]at aK aj br;have bd: ∀s,f8 (p.vs.take (G+1)) s=if s=y.nm/\0<y.sz then List.replicate y.sz.toNat 0 else f8 (p.vs.take G) s:=λs=>by rw[bd s,aJ]
   have bM:=si p.vs (·.nm) cN.out G bv;rw[aJ]at bM;have c1:f8 (p.vs.take G) y.nm=[]:=rE _ _ bM;clear aJ bM;obtain⟨nm,a9⟩:=y;simp only at aK aj br bd c1;have cr:=(bn.out.e.cell b _ aV).trans aK;have cq:=(bn.out.e.cell b _ aV).trans aj;have aA:=Z a5 (.cells #[.string (J nm),.int i64 a9] 85);have aD:=O (bn.out.ex aA);have an:=O (bo.out.ext aA);have a4:=O (aw a5 85 #[.string (J nm),.int i64 a9]);have dI:=br.1;clear aK aj aA;by_cases hsz:0<a9
   ·obtain⟨k,rfl⟩:=d6 (show 0<=a9 by omega);have aN:0<k:=Qa
    have cl:(λs=>if s=nm then List.replicate k 0 else f8 (p.vs.take G) s)=f8 (p.vs.take (G+1)):=funext λs=>by
     rw[bd s];by_cases e:s=nm
     ·rw[if_pos e,if_pos ⟨e,hsz⟩,eS]
     ·rw[if_neg e,if_neg (λo=>e o.1)]
    have dC:=O cl;clear cl;have c6:k<=2000:=by have:=br.2;omega
    have cj:=a4.out.cell;go_wp2_with fail;obtain⟨L,bj,bi⟩:=an.out.a;have bI:=O bj;have bH:=O bi;have dH:z+4<a5.heap.size:=bo.out.lt;clear bj bi cj;refine aB 9 8 [(8,λx=> ∃g,x=.slice (some ⟨g,0,none⟩) k k,λx W=> ∃g,x=.slice (some ⟨g,0,none⟩) k k/\a5.heap.size<g/\Rw W g 5 (List.replicate k 0))] mixed Qb ⟨λx W dn ⟨g,e,ax,aM⟩ ah=>⟨g,e,ax,aM.ext ah⟩,trivial⟩ ?_
    iterate 8 (refine sx ?_ (λac ab=> ?_) ?_;rotate_left;(focus have bY:=(an.out.m.ext ab.un).cell;have di:=(an.out.g.ext ab.un).cell;have dh:=(a4.out.ext ab.un).cell;clear ab;go_simp<;>with_reducible rfl);simp only[a8,a7,a6,aZ,aY])
    refine bg _ _ Qe rfl ⟨_,0,rfl⟩ Qd (λb8 ab ar dp bU=> ?_) ?_
    ·have cV:=dz ab.un;rw[World.size_alloc]at cV;clear ar ab;refine zh bt _ _ rfl k Qa i64 i64 rfl rfl λb7 aM ah ad=> ?_;exact bU _ _ ah ⟨_,rfl⟩ ⟨_,rfl,by omega,aM⟩
    rintro _ ⟨g,rfl⟩;simp only[a8,a7,a6,aZ,aY];intro I bb ar;obtain⟨dS,aP,dL,cf⟩:=ar _ (.head _);injection aP with aP;injection aP with aP;injection aP with aP;subst aP;have ao:=O bb.un;have dr:=O cf;clear ar bb cf;simp only[ae,au];go_wp2_with (at_mapUpdate;refine cZ Ii rfl _ _ _ rfl (bI.out.ext ao.out) rfl Qg rfl _ rfl ?_;intro bK bc aO;have bp:=O (((an.out.ext ao.out).addA aN c6 bH.out Qa (λs ad=>by have:=((bo.out.row s ad).1).lt;omega) dr.out bc aO).congr dC.out rfl);have b1:=O ((aD.out.ex ao.out).mv (.of_grown (S:=λb=>b=z+2) aO λb e=>by injection e with e;exact e.symm) λb K e=>by have:=aG.out;omega);clear bc aO);go_roundw
    case rel=>exact⟨G+1,_,by go_num,by omega,b1,bp⟩
    case measure=>simp[intOf];omega
   ·have dG: ¬(0:Int)<a9:=hsz;have bp:=O (an.out.congr (show _=f8 (p.vs.take (G+1))from funext λs=>by rw[bd s,if_neg (λo=>hsz o.2)]) rfl);have cj:=a4.out.cell;go_wp2_with fail;go_roundw
    case rel=>exact⟨G+1,_,by go_num,by omega,aD,bp⟩
    case measure=>simp[intOf];omega
  ·obtain rfl:G=n:=Qa
   have c4: ¬(G:Int)<G:=Qa
   have da:p.vs.take G=p.vs:=bC (by have:=cD.out;omega);rw[da]at bo;have aC:=bn.out.b0.cell;go_wp2_with fail;clear aC;have dt:=O (show PM z M (.slice aX a1 aQ) (f8 p.vs) bq (jA (p.fs.take 0)) a5 from bo.out)
   go_loopw [54] (λaL wr=> ∃(i:Nat),aL=.int i64 (i:Int)/\i<=m/\Hid (RW w (.slice aH G c) (.slice B m d) sX (.int i64 0) wr)/\Hid (PM z M (.slice aX a1 aQ) (f8 p.vs) bq (jA (p.fs.take i)) wr)) (λaL _=>m-(intOf aL).toNat)
   case atStart=>exact⟨0,rfl,aI _,bn,dt⟩
   case round=>
    obtain⟨i,rfl,j,aq,aF⟩:=hrel;generalize wr=al at*;by_cases hli:i<m
    ·have c5:(i:Int)<m:=Qa
     have bO:i<p.fs.length:=by have:=cE.out;omega
     obtain⟨b,af,ba,bm,rfl,aV,dO,aK,aj,ai,bx,bz⟩:=o8 cL.out i bO;have ci:=dy.out _ (ay bO);have bw:=Bl p.fs dA.out i bO;obtain⟨y,aJ⟩: ∃y,p.fs[i]=y:=⟨_,rfl⟩
     have bw: ∀s,jA (p.fs.take (i+1)) s=if s=y.nm then y else jA (p.fs.take i) s:=λs=>by rw[bw s,aJ]
     rw[aJ]at aK bx bz ci;clear aJ;obtain⟨cQ,cs,cY,dg⟩:=id bx;obtain⟨cR,ct,c9,_⟩:=bz.form;subst cY c9;have cr:=(aq.out.e.cell b _ aV).trans aK;have cq:=(aq.out.e.cell b _ aV).trans aj;have bZ:=(aq.out.e.cell b _ aV).trans ai;have aA:=Z al (.cells #[.string (J y.nm),.slice cQ y.ps.length cs,.slice cR y.body.length ct] 59);have aD:=O (aq.out.ex aA);have an:=O (aF.out.ext aA);have a4:=O (aw al 59 #[.string (J y.nm),.slice cQ y.ps.length cs,.slice cR y.body.length ct]);have bL: ∀b,b<w.heap.size->b<z:=λb K=>by have:=aG.out;omega
     have cz:=O ((bx.keep (Q:=λb=>b<z) (.of_ext aq.out.e) (λb K _=>bL b K)).keep (.of_ext aA) (Q:=λb=>b<z) λb K _=>K);have cB:=O ((bz.keep (Q:=λb=>b<z) (.of_ext aq.out.e) (λb K _=>bL b K)).keep (.of_ext aA) (Q:=λb=>b<z) λb K _=>K);have cK:=O (show(λs=>if s=y.nm then y else jA (p.fs.take i) s)=jA (p.fs.take (i+1))from funext λs=>(bw s).symm);obtain⟨L,bj,bi⟩:=an.out.f;have bI:=O bj;have bH:=O bi;obtain⟨cT,cS,cU⟩:=y;simp only at cr cq bZ ci cz cB cK a4 an aD bI bH;clear aK aj ai aA bj bi bx dg bz bw bL;go_wp2_with fail;refine aB 7 1 [] mixed Qb trivial ?_
     iterate 7 (refine sx ?_ (λac ab=> ?_) ?_;rotate_left;(focus have bY:=(an.out.m.ext ab.un).cell;have di:=(an.out.g.ext ab.un).cell;have dh:=(a4.out.ext ab.un).cell;clear ab;go_simp<;>with_reducible rfl);simp only[a8,a7,a6,aZ,aY])
     intro I bb _;have ao:=O bb.un;clear bb;simp only[ae,au];have dw:=O (show ∀s,∃ba bm,(L s).getD zF=.agg #[.string (J (jA (p.fs.take i) s).nm),ba,bm]/\mQ I (λb=>b<z) ba (jA (p.fs.take i) s).ps/\db I (λb=>b<z) bm (jA (p.fs.take i) s).body from λs=>let⟨ba,bm,e,q1,q2⟩:=bH.out s;⟨ba,bm,e,q1.keep (.of_ext ao.out) λb K _=>K,q2.keep (.of_ext ao.out) λb K _=>K⟩);go_wp2_with (at_mapUpdate;refine cZ Ih rfl _ _ _ rfl (bI.out.ext ao.out) rfl Qg rfl _ rfl ?_;intro bK bc aO;have bp:=O (((an.out.ext ao.out).addF (f:=⟨cT,cS,cU⟩) dw.out (cz.out.keep (.of_ext ao.out) λb K _=>K) (cB.out.keep (.of_ext ao.out) λb K _=>K) bc aO).congr rfl cK.out);have b1:=O ((aD.out.ex ao.out).mv (.of_grown (S:=λb=>b=z) aO λb e=>by injection e with e;exact e.symm) λb K e=>by have:=aG.out;omega);clear bc aO);go_roundw
     case rel=>exact⟨i+1,by go_num,by omega,b1,bp⟩
     case measure=>simp[intOf];omega
    ·obtain rfl:i=m:=Qa
     have c5: ¬(i:Int)<i:=Qa
     have dc:p.fs.take i=p.fs:=bC (by have:=cE.out;omega);rw[dc]at aF;go_wp2_with fail;obtain⟨X,aW,de,dd,be,bf,bD⟩:=Gh aF.out cy.out.1 cy.out.2 ((ds.out.keep (.of_ext aq.out.e)).mono (Q:=λb=>b<z) (λb K _=>by have:=aG.out;omega)) (dB.out.ext aq.out.e) (by have:=aG.out;omega);obtain⟨bJ,bX⟩: ∃x,gK (λs l y=>st (cx p A) (2*M.toNat) s l y) (jA p.fs bW) [] (Dp p M.toNat)=x:=⟨_,rfl⟩
     have cA:=O (show kn p A M.toNat=(match (bJ.then λv s=>(gZ A s 0 (v%256) 0 0 []).then λ_ s=> .error s.long:ER Unit)with| .error af=>af| .ok (_,s)=>s.long)from by rw[<-bX];rfl);have cm: ∀W,az al W->Calls prog 48 #[.pointer (some ⟨z+3,0,none⟩),X.fv bW,.slice none 0 0] W (wg X (cx p A) W bJ):=λW ah=>by
      have:=tR X (cx p A) (2*M.toNat) (pX X (cx p A) _ (sg X (cx p A) cO.out _ _ (ak _)).2) cO.out bW (Dp p M.toNat) W none 0 [] (bD.ext ah) (ak _) (B6.nil_ W _) (λx cW=>by cases cW) (by rw[show((cx p A).fn bW).ps=[]from dv.out];exact aI _);simp only[MX.p,aW]at this;rw[show gK (λs l y=>st (cx p A) (2*M.toNat) s l y) ((cx p A).fn bW) [] (Dp p M.toNat)=bJ from bX]at this;exact this
     have b3:=O cm;have dZ:=O bD;have cF:=O (bD.mf.ext (kE (aS al)));have dY:=O (aE aW (aE de (aE dd (aE be bf))));clear cm bD bX;have cI:=O (fun(tmps:Array Value) (W:World) (af:Oc) (df:RW w (.slice aH G c) (.slice B i d) sX (.int i64 0) W) (c3:aU W (z+4) 122 #[.pointer (some ⟨z+3,0,none⟩)]) (R:iU X af W) (aM:kn p A M.toNat=af) (k:Int) (aN:af.kind=k) (bl:tmps.getD 6 undef=.pointer (some ⟨w.heap.size+1,0,none⟩)) (bk:tmps.getD 7 undef=.pointer (some ⟨w.heap.size+1+1,0,none⟩))=>show Leaves prog Tryz.f17 tmps (wa p A M w) [{target:=.fn (Fn.func 47) #[.pointer (some ⟨z+4,0,none⟩),.pointer (some ⟨w.heap.size+1,0,none⟩),.pointer (some ⟨w.heap.size+1+1,0,none⟩)],args:= #[]}] (.panicking [{v:=.iface 129 (.agg #[.int i64 k]),recovered:=false}]) W from uZ bl bk aN df (by rw[aW];exact c3) R (by have:=aG.out;omega) Qa (by have:=aG.out;omega) (by have:=aF.out.lt;omega) (λaH c dn ah ad=>CG ah dx.out aM ad));rcases bJ with aR|⟨v,s2⟩
     ·have ap:kn p A M.toNat=aR:=cA.out;have a2:=O (b3.out _ (kE (aS al)));have a3:=O (fun(tmps:Array Value) (W:World) (V:Mv X.S al.drew W) (R:iU X aR W) bl bk=>cI.out tmps W aR ((aq.out.ex (kE (aS _))).mv V (λk aN ad=>by have:=aG.out;have:=ad.1.1;omega)) (V.blk aF.out.m.drew (λo=>o.1.2 be.symm)) R ap _ rfl bl bk);have bN:=cF.out;have aC:=bN.c0;rw[aW,bf]at aC;have bY:=(aF.out.m.ext (kE (aS al))).cell;have dj:(Instr.lookup 123 (.map (some z)) (.string ⟨#[109,97,105,110]⟩) false).run prog al.drew=.ok (X.fv bW) al.drew:=by
       have:=bN.look (s:=bW) Qc;rw[bf]at this;exact this
      clear bN b3 ap;refine lL mixed ?_;refine bA [0,1] Qb Qd (λi j=> ?_);have j:i=0\/i=1:=by simpa using j
      rcases j with rfl|rfl
      ·refine a_ rfl Qe ?_;go_simp;try simp only[a8,a7,a6,aZ,aY]
       refine bA [1] Qb Qd (λi j=> ?_);obtain rfl:i=1:=by simpa using j
       refine a_ rfl Qe ?_;go_simp;try simp only[a8,a7,a6,aZ,aY]
       refine bA [2] Qb Qd (λi j=> ?_);obtain rfl:i=2:=by simpa using j
       refine a_ rfl Qe ?_;go_simp;try simp only[a8,a7,a6,aZ,aY]
       refine bA [3] Qb Qd (λi j=> ?_);obtain rfl:i=3:=by simpa using j
       refine a_ rfl Qe ?_;go_simp;try simp only[a8,a7,a6,aZ,aY]
       refine bA [4] Qb Qd (λi j=> ?_);obtain rfl:i=4:=by simpa using j
       refine a_ rfl Qe ?_;go_simp;try simp only[a8,a7,a6,aZ,aY]
       refine bA [5] Qb Qd (λi j=> ?_);obtain rfl:i=5:=by simpa using j
       refine a_ rfl Qe ?_;go_simp;try simp only[a8,a7,a6,aZ,aY]
       refine bA [6] Qb Qd (λi j=> ?_);obtain rfl:i=6:=by simpa using j
       refine a_ rfl Qe ?_;go_simp;refine a2.out.mono ?_;intro e I o;obtain⟨V,rfl,R⟩:=o.err_;exact a3.out _ I V R rfl rfl
      ·refine a_ rfl Qe ?_;go_simp;try simp only[a8,a7,a6,aZ,aY]
       refine bA [0,2] Qb Qd (λi j=> ?_);have j:i=0\/i=2:=by simpa using j
       rcases j with rfl|rfl
       ·refine a_ rfl Qe ?_;go_simp;try simp only[a8,a7,a6,aZ,aY]
        refine bA [2] Qb Qd (λi j=> ?_);obtain rfl:i=2:=by simpa using j
        refine a_ rfl Qe ?_;go_simp;try simp only[a8,a7,a6,aZ,aY]
        refine bA [3] Qb Qd (λi j=> ?_);obtain rfl:i=3:=by simpa using j
        refine a_ rfl Qe ?_;go_simp;try simp only[a8,a7,a6,aZ,aY]
        refine bA [4] Qb Qd (λi j=> ?_);obtain rfl:i=4:=by simpa using j
        refine a_ rfl Qe ?_;go_simp;try simp only[a8,a7,a6,aZ,aY]
        refine bA [5] Qb Qd (λi j=> ?_);obtain rfl:i=5:=by simpa using j
        refine a_ rfl Qe ?_;go_simp;try simp only[a8,a7,a6,aZ,aY]
        refine bA [6] Qb Qd (λi j=> ?_);obtain rfl:i=6:=by simpa using j
        refine a_ rfl Qe ?_;go_simp;refine a2.out.mono ?_;intro e I o;obtain⟨V,rfl,R⟩:=o.err_;exact a3.out _ I V R rfl rfl
       ·refine a_ rfl Qe ?_;go_simp;try simp only[a8,a7,a6,aZ,aY]
        refine bA [0,3] Qb Qd (λi j=> ?_);have j:i=0\/i=3:=by simpa using j
        rcases j with rfl|rfl
        ·refine a_ rfl Qe ?_;go_simp;try simp only[a8,a7,a6,aZ,aY]
         refine bA [3] Qb Qd (λi j=> ?_);obtain rfl:i=3:=by simpa using j
         refine a_ rfl Qe ?_;go_simp;try simp only[a8,a7,a6,aZ,aY]
         refine bA [4] Qb Qd (λi j=> ?_);obtain rfl:i=4:=by simpa using j
         refine a_ rfl Qe ?_;go_simp;try simp only[a8,a7,a6,aZ,aY]
         refine bA [5] Qb Qd (λi j=> ?_);obtain rfl:i=5:=by simpa using j
         refine a_ rfl Qe ?_;go_simp;try simp only[a8,a7,a6,aZ,aY]
         refine bA [6] Qb Qd (λi j=> ?_);obtain rfl:i=6:=by simpa using j
         refine a_ rfl Qe ?_;go_simp;refine a2.out.mono ?_;intro e I o;obtain⟨V,rfl,R⟩:=o.err_;exact a3.out _ I V R rfl rfl
        ·refine a_ rfl Qe ?_;go_simp;try simp only[a8,a7,a6,aZ,aY]
         refine bA [0,4] Qb Qd (λi j=> ?_);have j:i=0\/i=4:=by simpa using j
         rcases j with rfl|rfl
         ·refine a_ rfl Qe ?_;go_simp;try simp only[a8,a7,a6,aZ,aY]
          refine bA [4] Qb Qd (λi j=> ?_);obtain rfl:i=4:=by simpa using j
          refine a_ rfl Qe ?_;go_simp;try simp only[a8,a7,a6,aZ,aY]
          refine bA [5] Qb Qd (λi j=> ?_);obtain rfl:i=5:=by simpa using j
          refine a_ rfl Qe ?_;go_simp;try simp only[a8,a7,a6,aZ,aY]
          refine bA [6] Qb Qd (λi j=> ?_);obtain rfl:i=6:=by simpa using j
          refine a_ rfl Qe ?_;go_simp;refine a2.out.mono ?_;intro e I o;obtain⟨V,rfl,R⟩:=o.err_;exact a3.out _ I V R rfl rfl
         ·refine a_ rfl Qe ?_;go_simp;try simp only[a8,a7,a6,aZ,aY]
          refine bA [0,5] Qb Qd (λi j=> ?_);have j:i=0\/i=5:=by simpa using j
          rcases j with rfl|rfl
          ·refine a_ rfl Qe ?_;go_simp;try simp only[a8,a7,a6,aZ,aY]
           refine bA [5] Qb Qd (λi j=> ?_);obtain rfl:i=5:=by simpa using j
           refine a_ rfl Qe ?_;go_simp;try simp only[a8,a7,a6,aZ,aY]
           refine bA [6] Qb Qd (λi j=> ?_);obtain rfl:i=6:=by simpa using j
           refine a_ rfl Qe ?_;go_simp;refine a2.out.mono ?_;intro e I o;obtain⟨V,rfl,R⟩:=o.err_;exact a3.out _ I V R rfl rfl
          ·refine a_ rfl Qe ?_;go_simp;try simp only[a8,a7,a6,aZ,aY]
           refine bA [0] Qb Qd (λi j=> ?_);obtain rfl:i=0:=by simpa using j
           refine a_ rfl Qe ?_;go_simp;try simp only[a8,a7,a6,aZ,aY]
           refine bA [6] Qb Qd (λi j=> ?_);obtain rfl:i=6:=by simpa using j
           refine a_ rfl Qe ?_;go_simp;refine a2.out.mono ?_;intro e I o;obtain⟨V,rfl,R⟩:=o.err_;exact a3.out _ I V R rfl rfl
     ·refine kJ X 7 8 [(6,λx=>x=.int .i32 v,λ_ W=>MA X (cx p A) s2 W)] 6 mixed Qb ⟨λ_ _ _ o ah=>o.ext ah,trivial⟩ ⟨.inl rfl,trivial⟩ ?_
      iterate 6 (refine sx ?_ (λac ab=> ?_) ?_;rotate_left;(focus have bu:=ab.2 cF.out;have aC:=bu.c0;rw[aW,bf]at aC;have bY:=(ab.1.un.blk aF.out.m (λo=>o.1.2 be.symm)).cell;have dj:(Instr.lookup 123 (.map (some z)) (.string ⟨#[109,97,105,110]⟩) false).run prog ac=.ok (X.fv bW) ac:=(by have:=bu.look (s:=bW) Qc;rw[bf]at this;exact this);clear ab bu;go_simp<;>with_reducible rfl);simp only[a8,a7,a6,aZ,aY])
      refine bR _ _ Qe rfl ⟨_,rfl⟩ rfl (λb8 bh ar dp bU=> ?_) ?_
      ·clear ar;have c8:=b3.out b8 bh.un;clear bh;go_simp;refine c8.mono ?_;intro e I o;obtain⟨V,rfl,cp⟩:=o.ok_;exact bU _ _ (UF.of_ma V cp) rfl cp
      rintro _ rfl;simp only[a8,a7,a6,aZ,aY];intro bK ca ar;have cG:=O ca;have b6:=O (ar _ (.head _));clear ca ar;simp only[ae,au];have dT:=(cG.out.blk aF.out.m (λo=>o.1.2 be.symm)).cell;have dE:IntKind.u8.wrap v=v%256:=by simp[IntKind.wrap,IntKind.signed,IntKind.bits]
      have dF:IntKind.i64.wrap (v%256)=v%256:=by
       have aj:0<=v%256:=Int.emod_nonneg _ Qc;have ai:v%256<256:=Int.emod_lt_of_pos _ Qc;simp[IntKind.wrap,IntKind.signed,IntKind.bits];omega
      have bG:=O (λW (o:MA X (cx p A) s2 W)=>show Calls prog 49 #[.pointer (some ⟨z+3,0,none⟩),.int i64 0,.agg #[.int i64 (v%256),.int i64 0,.int i64 0],.slice none 0 0] W (D' X (cx p A) W (gZ A s2 0 (v%256) 0 0 []))from by
       have:=ny X (cx p A) s2 W o 0 (v%256) 0 0 [] none 0 (kC W) Qd (λb af e=>by cases e);simp only[MX.p,aW]at this
       exact this)
      have cJ:=O (λW (ax:bK.grownBy W (some X.g))=>show Mv X.S al W from cG.out.trans (.ms_g b6.out.ok ax));have cH:=O (fun(tmps:Array Value) (W:World) (af:Oc) (V:Mv X.S al W) (R:iU X af W) (aM:kn p A M.toNat=af) k aN bl bk=>cI.out tmps W af (aq.out.mv V (λk aN ad=>by have:=aG.out;have:=ad.1.1;omega)) (V.blk aF.out.m (λo=>o.1.2 be.symm)) R aM k aN bl bk);have ap:=cA.out;rw[gh]at ap;rcases ad:gZ A s2 0 (v%256) 0 0 []with aR|⟨r,s3⟩
      ·rw[ad]at ap;have b2:=O (show kn p A M.toNat=aR from ap);clear ap;go_wp2_with (go_at_call 49;refine(bG.out _ b6.out).mono ?_;intro e b7 o;rw[ad]at o;obtain⟨ax,o⟩:=o;obtain⟨ck,R⟩:=o;unfold jT at ck;subst ck;have b4:=O (cJ.out _ ax);have b5:=O R;clear ax R bG);exact cH.out _ _ aR b4.out b5.out b2.out _ rfl rfl rfl
      ·rw[ad]at ap;have b2:=O (show kn p A M.toNat=s3.long from ap);clear ap;go_wp2_with (go_at_call 49;refine(bG.out _ b6.out).mono ?_;intro e b7 o;rw[ad]at o;obtain⟨ax,o⟩:=o;obtain⟨co,dV,dU,rfl,_,_⟩:=o;have b4:=O (cJ.out _ ax);have b5:=O (co.halt 3);clear ax co bG);exact cH.out _ _ s3.long b4.out b5.out b2.out 3 rfl rfl rfl
theorem Ew {p:Pg} (a:(gF p).2=0):gx p=true/\ig p=.ok ():=by
 unfold gF at a;split at a
 ·rename_i j;refine⟨j,?_⟩;have h:=E' p
  cases hc:ig p with
  |ok u=>rfl
  |error e=>
   rw[hc]at a h;exact absurd a h
 ·exact absurd a Qc
theorem zq (p:Pg) (ai:jo p<=6000000) (j:(gF p).2≠0) (P:Nat->Prop) (a:World) (R B:Option Addr) (n c m d:Nat) (ad:ik a P (.slice R n c) p.vs) (af:jl a P (.slice B m d) p.fs) (ae:dP a a.heap.size) (ag:BT a) (X:Rs) (ah:Value) (w:Int):
  Calls prog 17 #[.agg #[.slice R n c,.slice B m d],ah,.int i64 w] a (wa p X w a):=by
 have K:=O (z' a (.slice R n c) (.slice B m d) sX (.int i64 0));have aq:=O (ad.keep (Q:=λb=>b<a.heap.size) ⟨ak _,λ_ _ _=>rfl⟩ (λb al V=>V));have au:=O (af.keep (Q:=λb=>b<a.heap.size) ⟨ak _,λ_ _ _=>rfl⟩ (λb al V=>V));have M:=O (λW (G:az a W)=>mB p ai (λb=>b<a.heap.size) W R B n c m d (aq.out.keep (.of_ext G) (λb z _=>z)) (au.out.keep (.of_ext G) (λb z _=>z)) (dN ae G) (ag.ext G));have aC:=O j;have ar:=O (fun(W:World) (A:az a W)=>show wa p X w a (.returned (.tuple #[.agg sX,.int i64 1])) W from⟨A,by rw[if_neg j]⟩);have ap:=K.out.b0.cell;clear ad af ae ag;obtain⟨ay,ab⟩: ∃x,(gF p).1=x:=⟨_,rfl⟩
 obtain⟨ao,ac⟩: ∃x,(gF p).2=x:=⟨_,rfl⟩
 rw[ac]at j M;rw[ab]at M;have z:(ao !=0)=true:=by simpa using j
 clear ab ac j;generalize wa p X w a=Q at*;go_enter_defers func17,ntmps17;go_wp2_with (go_at_call 13;refine(M.out _ K.out.e).mono ?_;rintro e ax ⟨rfl,A⟩;have o:=O (K.out.ex A);clear ap;have aB:=o.out.b1.cell;have aw:=o.out.b1.frozen;have aA:=o.out.b2.cell;have av:=o.out.b2.frozen;clear A M K);have I:=O (o.out.put (.int i64 0) (.int i64 0) (.int i64 0) (.int i64 0) (.int i64 0) (.slice none 0 0) (.int i64 0) (.int i64 1));have an:=I.out.b1.cell;have J:=I.out.b2.cell;have aj:=ar.out _ I.out.e;refine⟨.tuple #[.agg sX,.int i64 1],?_,aj⟩;simp[results,results17,go_sem,an,J]
theorem pp (p:Pg) (A:jo p<=6000000) (P:Nat->Prop) (a:World) (z B:Option Addr) (n c m d:Nat) (G:ik a P (.slice z n c) p.vs) (M:jl a P (.slice B m d) p.fs) (K:dP a a.heap.size) (O:BT a) (w:Rs) (o:Value) (X:lD a P o w) (j:Int) (V: -9223372036854775808<=j) (R:j<=9223372036854775807):
  Calls prog 17 #[.agg #[.slice z n c,.slice B m d],o,.int i64 j] a (wa p w j a):=by
 by_cases h:(gF p).2=0
 ·obtain⟨ab,I⟩:=Ew h;exact Cm p A ab I P a z B n c m d G M K O w o X j V R
 ·exact zq p A h P a z B n c m d G M K O w o j
end
end Go.Proofs.YtddomeddabfinaaGreatDoor
