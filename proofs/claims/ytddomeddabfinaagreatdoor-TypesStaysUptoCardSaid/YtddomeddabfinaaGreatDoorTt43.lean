/- Parts of the proof. -/
import Derived.Test.YtddomeddabfinaaGreatDoorTt00
import Derived.Test.YtddomeddabfinaaGreatDoorTt33
import Derived.Test.YtddomeddabfinaaGreatDoorTt42
import Derived.Test.YtddomeddabfinaaGreatDoorTt26
import Derived.Test.YtddomeddabfinaaGreatDoorTt10
import Derived.Test.YtddomeddabfinaaGreatDoorTt07
set_option maxRecDepth 100000
set_option maxHeartbeats 8000000
set_option linter.unusedVariables false
set_option linter.unusedSimpArgs false
set_option linter.unusedSectionVars false
namespace Go.Proofs.YtddomeddabfinaaGreatDoor
open Go.Proofs.Tryz
section
open Go.RowKit
theorem lD.xt {a w':World} {v:Value} {h:Rs} {P:Nat->Prop} (o:lD a P v h) (j:az a w'):lD w' P v h:=o.keep (.of_ext j)
theorem G_ {h:World} {g:Nat} {t:TypeId} {K G A z w o j:Value} (M:aU h g t #[K,G,A,z,w,o,j]) (a b c d e f i:Value):aU (h.setCells g 0 [a,b,c,d,e,f,i]) g t #[a,b,c,d,e,f,i]:=by
 have:=((((((M.set 0 a).set 1 b).set 2 c).set 3 d).set 4 e).set 5 f).set 6 i;simpa[World.setCells]using this
theorem vC {a W:World} {g:Nat} {t:TypeId} (o:az W a) (j:W.heap.size<=g) (w:aU a g t sX) (h b c d e f i:Value):
  az W (a.setCells g 0 [h,b,c,d,e,f,i])/\aU (a.setCells g 0 [h,b,c,d,e,f,i]) g t #[h,b,c,d,e,f,i]:=⟨mz o j _,G_ w h b c d e f i⟩
theorem Sl.off {h:World} {o:Option Addr} {c:Nat} {l:List UInt8} {g:Nat} {t:TypeId} (M:Sl h o c l) (w:aU h g t sX): ∀b a,o=some ⟨b,a,none⟩->l≠ []->b≠g:=by
 intro b a G j e;subst e;rcases M.rd with K|⟨b',o',ha,_,hc⟩
 ·exact j K
 ·rw[G]at ha;injection ha with ha;injection ha with A z;subst A z;have:=hc 0 (List.length_pos_iff.2 j);rw[w.cell]at this;rcases a with _|_|_|_|_|_|_|a<;>simp at this
theorem Sl.put7 {a:World} {o:Option Addr} {c:Nat} {l:List UInt8} {g:Nat} {t:TypeId} (j:Sl a o c l) (h:aU a g t sX) (vs:List Value):Sl (a.setCells g 0 vs) o c l:=
 j.keepP (P:=λb=>b≠g) (.of_grown (dx g vs 0 a) (λb h e=>h (by injection e))) (j.off h)
theorem ek {a w':World} {P:Nat->Prop} {v:Value} {l:List Vr} (o:ik a P v l) (h:az a w'):ik w' P v l:=o.keep (.of_ext h) (λ_ j _=>j)
theorem em {a w':World} {P:Nat->Prop} {v:Value} {l:List Fc} (o:jl a P v l) (h:az a w'):jl w' P v l:=o.keep (.of_ext h) (λ_ j _=>j)
theorem Bm (h:Rs) (j:h.length<=1000000000) (P:Nat->Prop) (a:World) (v:Value) (o:lD a P v h):Calls prog 16 #[v] a λe w'=>(∃b:Bool,e=.returned (.bool b))/\az a w':=Bn h j P a v o
theorem C5 {h:Rs} (w:h.length<=1000000000) {P:Nat->Prop} {a:World} {v:Value} (G:lD a P v h):Calls prog 18 #[v] a λe w'=>az a w'/\ ∃j n c,e=.returned (.slice j n c)/\lD w' (λ_=>True) (.slice j n c) h:=
 (Aw h w P a v G).mono λe w' z=>by
  obtain⟨K,O,A,o⟩:=z;have M:=o.mono (Q:=λ_=>True) (λ_ _ _=>trivial);obtain⟨j,n,c,rfl,_⟩:=o.form;exact⟨K,j,n,c,A,M⟩
theorem El (p:Pg) (I:jo p<=6000000) (af:(gF p).2=0) (K:Rs) (n:Nat) (an:n<=1000000) {k d X b c:Int} {l:List UInt8} {u:Nat} (ad:kn p K n=⟨k,d,X,b,c,l,u⟩) {q:Nat} (ac:l.length=q) (h W:World) (R:az h W) (M B C:Option Addr) (w G z A O V:Nat) (ab:dP h h.heap.size) (aj:BT h) (ag:ik W (λ_=>True) (.slice M w G) p.vs) (ai:jl W (λ_=>True) (.slice B z A) p.fs) (ah:lD W (λ_=>True) (.slice C O V) K):
  Calls prog 17 #[.agg #[.slice M w G,.slice B z A],.slice C O V,.int .i64 (n:Int)] W λe w'=>az W w'/\ ∃o j,e=.returned (.tuple #[.agg #[.int .i64 k,.int .i64 d,.int .i64 X,.int .i64 b,.int .i64 c,.slice o q j,.int .i64 (u:Int)],.int .i64 0])/\Sl w' o j l:=
 (pp p I _ W M B w G z A ag ai (dN ab R) (aj.ext R) K _ ah (n:Int) Qa Qa).mono λe w' ae=>by
  obtain⟨al,a⟩:=ae;rw[if_pos af]at a;have J:(n:Int).toNat=n:=rfl;rw[J,ad]at a;obtain⟨o,j,a,ak⟩:=a;subst ac;exact⟨al,o,j,a,ak⟩
theorem Gf (p:Pg) (R:jo p<=6000000) (I:(gF p).2≠0) (O:Rs) (n:Nat) (ag:n<=1000000) (a W:World) (G:az a W) (z B C:Option Addr) (h w j o A M:Nat) (V:dP a a.heap.size) (ae:BT a) (ab:ik W (λ_=>True) (.slice z h w) p.vs) (ad:jl W (λ_=>True) (.slice B j o) p.fs) (ac:lD W (λ_=>True) (.slice C A M) O):
  Calls prog 17 #[.agg #[.slice z h w,.slice B j o],.slice C A M,.int .i64 (n:Int)] W λe w'=>az W w'/\e=.returned (.tuple #[.agg sX,.int .i64 1]):=
 (pp p R _ W z B h w j o ab ad (dN V G) (ae.ext G) O _ ac (n:Int) Qa Qa).mono λe w' X=>by
  obtain⟨af,K⟩:=X;rw[if_neg I]at K;exact⟨af,K⟩
abbrev FG (v:Value):Prop:= ∃A n c,v=.slice A n c
def y9 (R:Rs) (v:Value) (w:World):Prop:= ∀A n c,v=.slice A n c->lD w (λ_=>True) (.slice A n c) R
theorem y9.ext {h:Rs} {v:Value} {a w':World} (o:y9 h v a) (j:az a w'):y9 h v w':=λw n c e=>(o w n c e).xt j
abbrev FH (k d a b c:Int) (q:Nat) (u:Int) (x:Int) (v:Value):Prop:= ∃A2 c2,v=.tuple #[.agg #[.int .i64 k,.int .i64 d,.int .i64 a,.int .i64 b,.int .i64 c,.slice A2 q c2,.int .i64 u],.int .i64 x]
def FM (l:List UInt8) (v:Value) (w:World):Prop:= ∀k d a b c A2 q c2 u x,v=.tuple #[.agg #[k,d,a,b,c,.slice A2 q c2,u],x]->Sl w A2 c2 l
theorem FM.ext {l:List UInt8} {v:Value} {a w':World} (j:FM l v a) (h:az a w'):FM l v w':=λk d w b c z q o u x e=>(j k d w b c z q o u x e).ext h
theorem vV {l:List UInt8} {j:World} {k d o b c:Value} {h:Option Addr} {q a:Nat} {u x:Value} (w:Sl j h a l):FM l (.tuple #[.agg #[k,d,o,b,c,.slice h q a,u],x]) j:=λk d o b c h q a u x e=>by
 simp only[Value.tuple.injEq,fB,d_,Value.agg.injEq,d5]at e;obtain⟨⟨_,_,_,_,_,⟨rfl,_,rfl⟩,_⟩,_⟩:=e;exact w
theorem kN (l:List Vr):(eB l).length=l.length*2:=by
 induction l with
 |nil=>rfl
 |cons x r ih=>
  have:eB (x::r)=nN x++eB r:=by simp[eB]
  rw[this,ac,ih];simp only[nN,ah,ai];omega
theorem ik.cells {o:World} {P:Nat->Prop} {M:Option Addr} {m d:Nat} {q:List Vr} (z:ik o P (.slice M m d) q):q.length=m/\(m=0\/m<=d/\ ∃b h,M=some ⟨b,h,none⟩/\b<o.heap.size/\ ∀a y,(eB q)[a]? =some y->o.cell? ⟨b,h+a,none⟩=some y):=by
 obtain⟨ac,ab,O,z⟩:=z;injection O with w K R;subst w K R;refine⟨rfl,?_⟩;rcases z with rfl|⟨w,K,b,h,ha,_,hb,hc⟩
 ·exact .inl rfl
 ·refine .inr ⟨w,b,h,ha,hb,λa y j=> ?_⟩;have V:a<q.length*2:=by
   have:=(List.getElem?_eq_some_iff.1 j).1;rwa [kN]at this
  have G:a/2<q.length:=Qa
  have A:a=a/2*2+a%2:=Qa
  rw[A,il _ (a/2) G (a%2) Qa]at j;obtain⟨I,X⟩:=hc (a/2) G;rw[A,<-dT];generalize a%2=r at*;have:r=0\/r=1:=Qa
  rcases this with rfl|rfl<;>(simp only[nN,fx,fA,gV]at j;subst j;assumption)
theorem ik.of_row {a:World} {base:Nat} {e:TypeId} {v:Value} {n:Nat} {q:List Vr} (K:a.ownsRow base e 2 v n (eB q)) (w:q.length=n):ik a (λb=>base<=b) v q:=by
 subst w;rcases K.2 with⟨rfl,G⟩|⟨g,cap,cur,rfl,hb,hg,hnc,hcm,hcs,ht⟩
 ·have:q=[]:=ax G;subst this;exact⟨none,0,rfl,.inl rfl⟩
 ·have o: ∀h y,(eB q)[h]? =some y->a.cell? ⟨g,h,none⟩=some y:=λh y j=>by
   rw[cell_of_row a g h cur e (0,0) hg];rw[<-ht,bL]at j;split at j
   ·simpa using j
   ·cases j
  refine⟨_,cap,rfl,.inr ⟨hnc,hcm,g,0,rfl,hb,(Array.getElem?_eq_some_iff.1 hg).1,λi A=> ?_⟩⟩;have r:=λk z=>il q i A k z;rw[aG];exact⟨o _ _ (r 0 Qa),o _ _ (r 1 Qa)⟩
end
end Go.Proofs.YtddomeddabfinaaGreatDoor
