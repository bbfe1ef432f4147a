/- Parts of the proof. -/
import Derived.BigQuiet
import Derived.Test.YtoedmpgicdekmaaGreatDoorCl04
import Derived.Maps.AppendAt
import Derived.Test.YtoedmpgicdekmaaGreatDoorCl00
import Derived.Test.YtoedmpgicdekmaaGreatDoorCl01
import Derived.WalkLawsBesides
set_option maxRecDepth 100000
set_option maxHeartbeats 8000000
set_option linter.unusedVariables false
set_option linter.unusedSimpArgs false
set_option linter.defProp false
set_option linter.unusedSectionVars false
namespace Go.Proofs.YtoedmpgicdekmaaGreatDoor
open Go.Proofs.Tryz
section
open Go.RowKit
theorem j7: ∀(a:List co) (i:Nat) (d:i<a.length) (k:Nat),k<4->(lA a)[i*4+k]? =(gE a[i])[k]?
 |t::a,0,d,k,hk=>by
  show(gE t++lA a)[0*4+k]? =(gE t)[k]?;rw[aY,aE,be (by simpa[gE]using hk)]
 |t::a,i+1,d,k,hk=>by
  have h:i<a.length:=by simpa using d
  show(gE t++lA a)[(i+1)*4+k]? =(gE a[i])[k]?;rw[bD (by simp[gE];omega),<-j7 a i h k hk]
  congr 1
  simp[gE];omega
structure xU (w:World) (A:Option Addr) (cap:Nat) (ts:List co):Prop where
 le:ts.length<=cap
 max:cap<=maxLen
 rd:ts=[]\/ ∃b off,A=some ⟨b,off,none⟩/\b<w.heap.size/\ ∀i,(h:i<ts.length)->w.cell? ⟨b,off+i*4,none⟩=some (.int .i64 ts[i].k)/\w.cell? ⟨b,off+i*4+1,none⟩=some (.string (ak ts[i].t))/\
  w.cell? ⟨b,off+i*4+2,none⟩=some (.int .i64 ts[i].v)/\w.cell? ⟨b,off+i*4+3,none⟩=some (.int .i64 ts[i].f)
theorem xU.ext {o w':World} {y:Option Addr} {w:Nat} {u:List co} (h:xU o y w u) (a:au o w'):xU w' y w u:=
 ⟨h.le,h.max,h.rd.imp id fun⟨b,off,ha,d,A⟩=>⟨b,off,ha,aA d a.size,λi z=>
  let⟨h1,h2,h3,h4⟩:=A i z;⟨(a.cell b _ d).trans h1,(a.cell b _ d).trans h2,(a.cell b _ d).trans h3,(a.cell b _ d).trans h4⟩⟩⟩
theorem xU.at_ {a:World} {o:Option Addr} {y:Nat} {d:List co} (w:xU a o y d) (i:Nat) (h:i<d.length):
  ∃b off,o=some ⟨b,off,none⟩/\b<a.heap.size/\a.cell? ⟨b,off+i*4,none⟩=some (.int .i64 d[i].k)/\a.cell? ⟨b,off+i*4+1,none⟩=some (.string (ak d[i].t))/\
  a.cell? ⟨b,off+i*4+2,none⟩=some (.int .i64 d[i].v)/\a.cell? ⟨b,off+i*4+3,none⟩=some (.int .i64 d[i].f):=by
 rcases w.rd with u|⟨b,off,ha,hb,hc⟩
 ·subst u;simp at h
 ·exact⟨b,off,ha,hb,hc i h⟩
theorem iM.tks {d:World} {base:Nat} {e:TypeId} {H:Option Addr} {n G:Nat} {a:List co} (J:iM d base e (.slice H n G) a):n=a.length/\xU d H G a:=by
 rcases J.2 with⟨y,I⟩|⟨g,c,cur,y,hb,hg,hnc,hcm,hcs,ht⟩
 ·injection y with F A z;subst F A z;have:a=[]:=aX I;subst this;exact⟨rfl,by simp,by simp[maxLen], .inl rfl⟩
 ·injection y with F A z;subst F A z;refine⟨rfl,hnc,hcm, .inr ⟨g,0,rfl,(Array.getElem?_eq_some_iff.1 hg).1,λi o=> ?_⟩⟩;have u: ∀j w,(lA a)[j]? =some w->d.cell? ⟨g,j,none⟩=some w:=λj w h=>by
   rw[cell_of_row d g j cur e (0,0) hg];rw[<-ht,b_]at h;split at h
   ·simpa using h
   ·cases h
  have V:=j7 a i o 0 Qa;have R:=j7 a i o 1 Qa;have M:=j7 a i o 2 Qa;have K:=j7 a i o 3 Qa;rw[aE];exact⟨u _ _ V,u _ _ R,u _ _ M,u _ _ K⟩
theorem vI (l:List UInt8) (a:World) (d:EZ a):Calls prog 46 #[.string (ak l)] a λe w'=>xS 188 a.heap.size (gY l) e w'/\au a w':=by
 by_cases hl:l.length<=100000
 ·exact vH l hl a d
 ·have w:(ak l).size=l.length:=a7 l;have u:=G (rr l);have o:4000<l.length:=Qa
  have y:(4000:Int)<l.length:=Qa
  go_enter func46,ntmps46;go_wp2_with fail;exact bodyPost_ret (v:= .tuple #[.slice none 0 0, .int .i64 4000, .int .i64 6]) (by simp[results,results46,go_sem]) rfl ⟨by rw[u.out o];exact⟨none,0,rfl,iM.nil_ _ _ _⟩,aG _⟩
inductive dL (w:World) (P:Nat->Prop):Value->List Ex->Prop where
 |nil (A:Option Addr) (c:Nat):dL w P (.slice A 0 c) []
 |row (b o n c:Nat) (xs:List Ex) (av:Nat->Value) (hP:P b) (hb:b<w.heap.size) (hn:xs.length=n) (hnc:n<=c) (hm:c<=maxLen)
   (hc: ∀i,(h:i<xs.length)->w.cell? ⟨b,o+i*6,none⟩=some (.int .i64 xs[i].k)/\w.cell? ⟨b,o+i*6+1,none⟩=some (.string (ak xs[i].op))/\w.cell? ⟨b,o+i*6+2,none⟩=some (.string (ak xs[i].nm))/\
    w.cell? ⟨b,o+i*6+3,none⟩=some (.string (ak xs[i].tx))/\w.cell? ⟨b,o+i*6+4,none⟩=some (.int .i64 xs[i].v)/\w.cell? ⟨b,o+i*6+5,none⟩=some (av i))
   (hs: ∀i,(h:i<xs.length)->dL w P (av i) (Ex.args xs[i])):dL w P (.slice (some ⟨b,o,none⟩) n c) xs
structure dE (P:Nat->Prop) (w w':World):Prop where
 size:w.heap.size<=w'.heap.size
 block: ∀b,P b->b<w.heap.size->w'.heap[b]? =w.heap[b]?
theorem dE.cell {P:Nat->Prop} {d w':World} (w:dE P d w') {b:Nat} (h:Nat) (u:P b) (o:b<d.heap.size):w'.cell? ⟨b,h,none⟩=d.cell? ⟨b,h,none⟩:=
 World.cell?_of_block (w:=d) (a:=⟨b,h,none⟩) (w.block b u o)
theorem dE.of_grown {P:Nat->Prop} {a w':World} {row:Option Nat} (d:a.grownBy w' row) (h: ∀b,P b->some b≠row):dE P a w':=⟨d.size,λb u o=>d.block b o (h b u)⟩
theorem dE.of_ext {P:Nat->Prop} {a w':World} (d:au a w'):dE P a w':=⟨d.size,λb _ h=>d.obj h⟩
theorem dL.keep {w w':World} {P Q:Nat->Prop} {v:Value} {xs:List Ex} (I:dL w P v xs) (a:dE P w w') (h: ∀b,P b->b<w.heap.size->Q b):dL w' Q v xs:=by
 induction I with
 |nil A c=>exact .nil A c
 |row b o n c xs av hP hb hn hnc hm hc hs ih=>
  refine .row b o n c xs av (h b hP hb) (aA hb a.size) hn hnc hm (λi d=> ?_) ih;obtain⟨H,G,F,z,y,u⟩:=hc i d;exact⟨(a.cell _ hP hb).trans H,(a.cell _ hP hb).trans G,(a.cell _ hP hb).trans F,(a.cell _ hP hb).trans z,(a.cell _ hP hb).trans y,(a.cell _ hP hb).trans u⟩
theorem dL.mono {a:World} {P Q:Nat->Prop} {v:Value} {xs:List Ex} (h:dL a P v xs) (d: ∀b,P b->b<a.heap.size->Q b):dL a Q v xs:=h.keep ⟨ah _,λ_ _ _=>rfl⟩ d
theorem dL.form {h:World} {P:Nat->Prop} {v:Value} {xs:List Ex} (o:dL h P v xs): ∃a c,v= .slice a xs.length c/\(xs=[]\/xs.length<=c/\c<=maxLen/\ ∃b d,a=some ⟨b,d,none⟩/\b<h.heap.size):=by
 cases o with
 |nil a c=>exact⟨a,c,rfl, .inl rfl⟩
 |row b d n c xs av hP hb hn hnc hm hc hs=>exact⟨_,c,by rw[hn], .inr ⟨by omega,hm,b,d,rfl,hb⟩⟩
theorem dL.at_ {a:World} {P:Nat->Prop} {u:Option Addr} {n c:Nat} {xs:List Ex} (H:dL a P (.slice u n c) xs) (i:Nat) (h:i<xs.length):
  ∃b d o,u=some ⟨b,d,none⟩/\b<a.heap.size/\P b/\a.cell? ⟨b,d+i*6,none⟩=some (.int .i64 xs[i].k)/\a.cell? ⟨b,d+i*6+1,none⟩=some (.string (ak xs[i].op))/\a.cell? ⟨b,d+i*6+2,none⟩=some (.string (ak xs[i].nm))/\
   a.cell? ⟨b,d+i*6+3,none⟩=some (.string (ak xs[i].tx))/\a.cell? ⟨b,d+i*6+4,none⟩=some (.int .i64 xs[i].v)/\a.cell? ⟨b,d+i*6+5,none⟩=some o/\dL a P o (Ex.args xs[i]):=by
 cases H with
 |nil=>simp at h
 |row b d n c xs av hP hb hn hnc hm hc hs=>
  obtain⟨G,F,A,z,y,w⟩:=hc i h;exact⟨b,d,av i,rfl,hb,hP,G,F,A,z,y,w,hs i h⟩
def yX (x:Ex) (a:Value):List Value:=[.int .i64 x.k, .string (ak x.op), .string (ak x.nm), .string (ak x.tx), .int .i64 x.v,a]
def gR (l:List (Ex×Value)):List Value:=l.flatMap λp=>yX p.1 p.2
theorem nJ: ∀l:List (Ex×Value),(gR l).length=l.length*6
 | []=>rfl
 |p::l=>by
  have:=nJ l;simp only[gR,bG,ac,yX,ag,ai]at this⊢;omega
theorem rN (a b:List (Ex×Value)):gR (a++b)=gR a++gR b:=by simp[gR]
theorem rM: ∀(l:List (Ex×Value)) (i:Nat) (a:i<l.length) (k:Nat),k<6->(gR l)[i*6+k]? =(yX l[i].1 l[i].2)[k]?
 | [],i,a,k,hk=>by simp at a
 |p::l,0,a,k,hk=>by
  simp only[gR,bG,aY,aE,aF];rw[be (by simp[yX];omega)]
 |p::l,i+1,a,k,hk=>by
  have:=rM l i (by simpa using a) k hk;simp only[gR,bG,aP]at this⊢;rw[bD (by simp[yX];omega),<-this]
  congr 1
  simp[yX];omega
def ik (w:World) (base:Nat) (e:TypeId) (v:Value) (l:List (Ex×Value)):Prop:=
 w.ownsRow base e 6 v l.length (gR l)/\ ∀p,p∈l->dL w (λb=>base<=b/\some b≠v.ownBlock) p.2 p.1.args
theorem ik.nil_ (a:World) (base:Nat) (e:TypeId):ik a base e (.slice none 0 0) []:=⟨World.ownsRow_nil a base e 6,λp d=>by cases d⟩
theorem ik.grown {d w':World} {base:Nat} {e:TypeId} {v:Value} {l:List (Ex×Value)} {row:Option Nat} (a:ik d base e v l) (o:d.grownBy w' row) (h: ∀k,row=some k->k<base):ik w' base e v l:=by
 refine⟨World.ownsRow.kept a.1 o ?_,λp w=> ?_⟩
 ·cases hv:v.ownBlock with
  |none=>exact .inl rfl
  |some k=>
   refine .inr λe=> ?_;have:=(World.ownsRow.lt a.1 k hv).1;have:=h k e.symm;omega
 ·exact(a.2 p w).keep (.of_grown o λb u e=>by have:=h b e.symm;omega) λb u _=>u
theorem ik.rd {d:World} {base:Nat} {e:TypeId} {v:Value} {l:List (Ex×Value)} (z:ik d base e v l):dL d (λb=>base<=b) v (l.map (·.1)):=by
 rcases z.1.2 with⟨rfl,G⟩|⟨g,cap,cur,rfl,y,hg,hnc,hcm,hcs,ht⟩
 ·have:l=[]:=aX G;subst this;exact .nil _ _
 ·have A:g<d.heap.size:=(Array.getElem?_eq_some_iff.1 hg).1;have a: ∀j u,(gR l)[j]? =some u->d.cell? ⟨g,j,none⟩=some u:=λj u o=>by
   rw[cell_of_row d g j cur e (0,0) hg];rw[<-ht,b_]at o;split at o
   ·simpa using o
   ·cases o
  refine .row g 0 l.length cap _ (λi=>if z:i<l.length then l[i].2 else .slice none 0 0) y A Qe hnc hcm (λi w=> ?_) (λi w=> ?_)
  ·have h:i<l.length:=by simpa using w
   have q:=λk F=>rM l i h k F;have e0:(l.map (·.1))[i]=l[i].1:=Qe
   rw[e0,dif_pos h,aE];exact⟨a _ _ (q 0 Qa),a _ _ (q 1 Qa),a _ _ (q 2 Qa),a _ _ (q 3 Qa),a _ _ (q 4 Qa),a _ _ (q 5 Qa)⟩
  ·have h:i<l.length:=by simpa using w
   have e0:(l.map (·.1))[i]=l[i].1:=Qe
   rw[e0,dif_pos h];exact(z.2 l[i] (ay h)).mono λb y _=>y.1
theorem dL.one {o:World} {P:Nat->Prop} {h:Nat} {e:TypeId} {x:Ex} {u:Value} (d:aM o h e #[.int .i64 x.k, .string (ak x.op), .string (ak x.nm), .string (ak x.tx), .int .i64 x.v,u]) (w:P h) (y:dL o P u x.args):dL o P (.slice (some ⟨h,0,none⟩) 1 1) [x]:=by
 refine .row h 0 1 1 [x] (λ_=>u) w d.lt rfl (ah _) (by simp[maxLen]) (λi a=> ?_) (λi a=> ?_)
 ·have a:i=0:=by simpa using a
  subst a;exact⟨d.cell 0,d.cell 1,d.cell 2,d.cell 3,d.cell 4,d.cell 5⟩
 ·have a:i=0:=by simpa using a
  subst a;exact y
theorem dL.two {o:World} {P:Nat->Prop} {u:Nat} {e:TypeId} {x d:Ex} {w b:Value} (a:aM o u e #[.int .i64 x.k, .string (ak x.op), .string (ak x.nm), .string (ak x.tx), .int .i64 x.v,w, .int .i64 d.k, .string (ak d.op), .string (ak d.nm), .string (ak d.tx), .int .i64 d.v,b]) (y:P u) (A:dL o P w x.args) (z:dL o P b d.args):dL o P (.slice (some ⟨u,0,none⟩) 2 2) [x,d]:=by
 refine .row u 0 2 2 [x,d] (λi=>if i=0 then w else b) y a.lt rfl (ah _) (by simp[maxLen]) (λi h=> ?_) (λi h=> ?_)
 ·have h:i<2:=h;obtain rfl|rfl:i=0\/i=1:=Qa
  ·exact⟨a.cell 0,a.cell 1,a.cell 2,a.cell 3,a.cell 4,a.cell 5⟩
  ·exact⟨a.cell 6,a.cell 7,a.cell 8,a.cell 9,a.cell 10,a.cell 11⟩
 ·have h:i<2:=h;obtain rfl|rfl:i=0\/i=1:=Qa
  ·exact A
  ·exact z
structure mY (P:Program) (t e:TypeId) (size bytes:Nat) (z:Value):Prop where
 under:P.underlying t=some (.slice e)
 info:(P.info? e).map (λi=>(i.zero,i.size,i.bytes))=some (some z,size,bytes)
 cells:z.cells.size=size
 pos:0<size
theorem uh {P:Program} {w:World} {t e:TypeId} {a y:Nat} {A:Value} (o:mY P t e a y A) (ty:TypeId) (base:Nat) (v:Value) (n:Nat) (xs:List Value) (M:w.ownsRow base e a v n xs) (g:Nat) (d:List Value)
  (Z:w.heap[g]? =some (.cells d.toArray e (0,0))) (R:d.length=a) (ad: ∀u∈d,u.oneCell'=true) (af:n<=1073741824) (J:y<=1000) (aa:base<=w.heap.size):
  ∃z cap' w',(Builtin.append_ #[t,t] ty #[v, .slice (some ⟨g,0,none⟩) 1 1]).run P w= .ok (.slice (some ⟨z,0,none⟩) (n+1) cap') w'/\w'.ownsRow base e a (.slice (some ⟨z,0,none⟩) (n+1) cap') (n+1) (xs++d)/\w.grownBy w' v.ownBlock/\
   (some z=v.ownBlock\/z=w.heap.size):=by
 obtain⟨i,X,I,H,G⟩:=info_parts o.info;obtain⟨v',w',K,F,ac,_,h⟩:=run_append_own_at (P:=P) w base t ty e i A a y o.under X I H G o.cells o.pos v n xs M ⟨g,0,none⟩ 1 1 d (by rw[R,cP])
  (λj ae V=>by
   rw[Addr.add_lit,aE,cell_of_row w g j _ e (0,0) Z];simpa using V) ad Qh (by
    have:(n+1)*y<=(n+1)*1000:=gu _ J
    omega) aa
 rcases F.2 with⟨_,ag⟩|⟨g',cap',cur,rfl,hx⟩
 ·omega
 ·refine⟨g',cap',w',K,F,ac,?_⟩;rcases h with h|h
  ·exact .inl h
  ·exact .inr (ab h)
theorem eV {P:Program} {a:World} {ops:Array Oper} {rest:List Oper} {h:Oper} {y:Act} {Q:Exit->Act->World->Prop} {t e:TypeId} {w A:Nat} {F:Value} (ab:mY P t e w A F) (V:h.guard=none) (s x:Operand)
  (M:h.op= .call {callee:= .builtin .append,args:= #[s,x],argTypes:= #[t,t]}) (base:Nat) (v:Value) (n:Nat) (xs:List Value) (I:y.eval s=v) (K:a.ownsRow base e w v n xs)
  (g:Nat) (o:List Value) (H:y.eval x= .slice (some ⟨g,0,none⟩) 1 1) (X:a.heap[g]? =some (.cells o.toArray e (0,0))) (R:o.length=w) (z: ∀u∈o,u.oneCell'=true) (aa:n<=1073741824) (G:A<=1000) (Z:base<=a.heap.size)
  (af: ∀d cap' w',w'.ownsRow base e w (.slice (some ⟨d,0,none⟩) (n+1) cap') (n+1) (xs++o)->a.grownBy w' v.ownBlock->(some d=v.ownBlock\/d=a.heap.size)->
   wpList P ops Q rest (y.put h.dst (.slice (some ⟨d,0,none⟩) (n+1) cap')) w'):
  wpList P ops Q (h::rest) y a:=by
 obtain⟨d,cap',w',J,z,ae,ad⟩:=uh (P:=P) (w:=a) ab h.type base v n xs K g o X R z aa G Z;refine wpList_plain V λag ac=> ?_;unfold Oper.wp execOp;simp only[M,resolve,invoke,builtin,Sem.run_bind,Sem.run_pure,Result.andThen_ok,dt,b7,du,I,H,J];exact ac _ _ (af d cap' w' z ae ad)
theorem xf {P:Program} {a:World} {w:Oper} {y:Act} {F:Act->World->Prop} {Q:Exit->Act->World->Prop} {t e:TypeId} {o A:Nat} {G:Value} (ab:mY P t e o A G) (s x:Operand)
  (R:w.op= .call {callee:= .builtin .append,args:= #[s,x],argTypes:= #[t,t]}) (base:Nat) (v:Value) (n:Nat) (xs:List Value) (J:y.eval s=v) (M:a.ownsRow base e o v n xs)
  (g:Nat) (h:List Value) (I:y.eval x= .slice (some ⟨g,0,none⟩) 1 1) (X:a.heap[g]? =some (.cells h.toArray e (0,0))) (V:h.length=o) (z: ∀u∈h,u.oneCell'=true) (aa:n<=1073741824) (H:A<=1000) (Z:base<=a.heap.size)
  (ae: ∀d cap' w',w'.ownsRow base e o (.slice (some ⟨d,0,none⟩) (n+1) cap') (n+1) (xs++h)->a.grownBy w' v.ownBlock->(some d=v.ownBlock\/d=a.heap.size)->
   F (y.put w.dst (.slice (some ⟨d,0,none⟩) (n+1) cap')) w'):
  w.wp P y a F Q:=by
 obtain⟨d,cap',w',K,z,ad,ac⟩:=uh (P:=P) (w:=a) ab w.type base v n xs M g h X V z aa H Z;unfold Oper.wp execOp;simp only[R,resolve,invoke,builtin,Sem.run_bind,Sem.run_pure,Result.andThen_ok,dt,b7,du,J,I,K];exact ae d cap' w' z ad ac
theorem ik.snoc {a w':World} {base:Nat} {e:TypeId} {v:Value} {l:List (Ex×Value)} {x:Ex} {y:Value} {h w:Nat} (H:ik a base e v l) (ha:dL a (λb=>base<=b/\some b≠v.ownBlock) y x.args)
  (F:w'.ownsRow base e 6 (.slice (some ⟨h,0,none⟩) (l.length+1) w) (l.length+1) (gR l++yX x y)) (G:a.grownBy w' v.ownBlock) (u:some h=v.ownBlock\/h=a.heap.size):
  ik w' base e (.slice (some ⟨h,0,none⟩) (l.length+1) w) (l++[(x,y)]):=by
 have A:dE (λb=>base<=b/\some b≠v.ownBlock) a w':= .of_grown G λb o=>o.2;have z: ∀b,(base<=b/\some b≠v.ownBlock)->b<a.heap.size->(base<=b/\some b≠Value.ownBlock (.slice (some ⟨h,0,none⟩) (l.length+1) w)):=λb o I=>by
  refine⟨o.1,λe=> ?_⟩;have e:b=h:=ab e;rcases u with u|u
  ·exact o.2 (by rw[e,u])
  ·omega
 refine⟨by rw[ac,rN];simpa[gR]using F,λp d=> ?_⟩;rcases List.mem_append.1 d with d|d
 ·exact(H.2 p d).keep A z
 ·rw[cH]at d;subst d;exact ha.keep A z
inductive ed (w:World) (P:Nat->Prop):Value->List St->Prop where
 |nil (A:Option Addr) (c:Nat):ed w P (.slice A 0 c) []
 |row (b o n c:Nat) (xs:List St) (es bs ls:Nat->Value) (hP:P b) (hb:b<w.heap.size) (hn:xs.length=n) (hnc:n<=c) (hm:c<=maxLen)
   (hc: ∀i,(h:i<xs.length)->w.cell? ⟨b,o+i*5,none⟩=some (.int .i64 xs[i].k)/\w.cell? ⟨b,o+i*5+1,none⟩=some (.string (ak xs[i].nm))/\w.cell? ⟨b,o+i*5+2,none⟩=some (es i)/\
    w.cell? ⟨b,o+i*5+3,none⟩=some (bs i)/\w.cell? ⟨b,o+i*5+4,none⟩=some (ls i))
   (he: ∀i,(h:i<xs.length)->dL w P (es i) (St.ex xs[i]))
   (hs: ∀i,(h:i<xs.length)->ed w P (bs i) (St.body xs[i]))
   (hl: ∀i,(h:i<xs.length)->ed w P (ls i) (St.els xs[i])):ed w P (.slice (some ⟨b,o,none⟩) n c) xs
theorem ed.keep {w w':World} {P Q:Nat->Prop} {v:Value} {xs:List St} (H:ed w P v xs) (a:dE P w w') (h: ∀b,P b->b<w.heap.size->Q b):ed w' Q v xs:=by
 induction H with
 |nil A c=>exact .nil A c
 |row b o n c xs es bs ls hP hb hn hnc hm hc he hs hl ih1 ih2=>
  refine .row b o n c xs es bs ls (h b hP hb) (aA hb a.size) hn hnc hm (λi d=> ?_) (λi d=>(he i d).keep a h) ih1 ih2;obtain⟨G,F,z,y,u⟩:=hc i d;exact⟨(a.cell _ hP hb).trans G,(a.cell _ hP hb).trans F,(a.cell _ hP hb).trans z,(a.cell _ hP hb).trans y,(a.cell _ hP hb).trans u⟩
theorem ed.mono {a:World} {P Q:Nat->Prop} {v:Value} {xs:List St} (h:ed a P v xs) (d: ∀b,P b->b<a.heap.size->Q b):ed a Q v xs:=h.keep ⟨ah _,λ_ _ _=>rfl⟩ d
theorem ed.form {h:World} {P:Nat->Prop} {v:Value} {xs:List St} (o:ed h P v xs): ∃a c,v= .slice a xs.length c/\(xs=[]\/xs.length<=c/\c<=maxLen/\ ∃b d,a=some ⟨b,d,none⟩/\b<h.heap.size):=by
 cases o with
 |nil a c=>exact⟨a,c,rfl, .inl rfl⟩
 |row b d n c xs es bs ls hP hb hn hnc hm hc he hs hl=>exact⟨_,c,by rw[hn], .inr ⟨by omega,hm,b,d,rfl,hb⟩⟩
theorem ed.at_ {a:World} {P:Nat->Prop} {w:Option Addr} {n c:Nat} {xs:List St} (H:ed a P (.slice w n c) xs) (i:Nat) (h:i<xs.length):
  ∃b d u v o,w=some ⟨b,d,none⟩/\b<a.heap.size/\P b/\a.cell? ⟨b,d+i*5,none⟩=some (.int .i64 xs[i].k)/\a.cell? ⟨b,d+i*5+1,none⟩=some (.string (ak xs[i].nm))/\a.cell? ⟨b,d+i*5+2,none⟩=some u/\
   a.cell? ⟨b,d+i*5+3,none⟩=some v/\a.cell? ⟨b,d+i*5+4,none⟩=some o/\dL a P u (St.ex xs[i])/\ed a P v (St.body xs[i])/\ed a P o (St.els xs[i]):=by
 cases H with
 |nil=>simp at h
 |row b d n c xs es bs ls hP hb hn hnc hm hc he hs hl=>
  obtain⟨G,F,A,z,y⟩:=hc i h;exact⟨b,d,es i,bs i,ls i,rfl,hb,hP,G,F,A,z,y,he i h,hs i h,hl i h⟩
structure SV where
 s:St
 e:Value
 b:Value
 l:Value
def zC (p:SV):List Value:=[.int .i64 p.s.k, .string (ak p.s.nm),p.e,p.b,p.l]
def eX (l:List SV):List Value:=l.flatMap zC
theorem kE: ∀l:List SV,(eX l).length=l.length*5
 | []=>rfl
 |p::l=>by
  have:=kE l;simp only[eX,bG,ac,zC,ag,ai]at this⊢;omega
theorem rz (a b:List SV):eX (a++b)=eX a++eX b:=by simp[eX]
theorem lZ: ∀(l:List SV) (i:Nat) (a:i<l.length) (k:Nat),k<5->(eX l)[i*5+k]? =(zC l[i])[k]?
 | [],i,a,k,hk=>by simp at a
 |p::l,0,a,k,hk=>by
  simp only[eX,bG,aY,aE,aF];rw[be (by simp[zC];omega)]
 |p::l,i+1,a,k,hk=>by
  have:=lZ l i (by simpa using a) k hk;simp only[eX,bG,aP]at this⊢;rw[bD (by simp[zC];omega),<-this]
  congr 1
  simp[zC];omega
def SV.ok (w:World) (P:Nat->Prop) (p:SV):Prop:=dL w P p.e p.s.ex/\ed w P p.b p.s.body/\ed w P p.l p.s.els
theorem SV.ok.keep {w w':World} {P Q:Nat->Prop} {p:SV} (h:p.ok w P) (a:dE P w w') (d: ∀b,P b->b<w.heap.size->Q b):p.ok w' Q:=⟨h.1.keep a d,h.2.1.keep a d,h.2.2.keep a d⟩
def jD (w:World) (base:Nat) (e:TypeId) (v:Value) (l:List SV):Prop:=
 w.ownsRow base e 5 v l.length (eX l)/\ ∀p,p∈l->p.ok w (λb=>base<=b/\some b≠v.ownBlock)
theorem jD.nil_ (a:World) (base:Nat) (e:TypeId):jD a base e (.slice none 0 0) []:=⟨World.ownsRow_nil a base e 5,λp d=>by cases d⟩
theorem jD.grown {d w':World} {base:Nat} {e:TypeId} {v:Value} {l:List SV} {row:Option Nat} (a:jD d base e v l) (o:d.grownBy w' row) (h: ∀k,row=some k->k<base):jD w' base e v l:=by
 refine⟨World.ownsRow.kept a.1 o ?_,λp w=> ?_⟩
 ·cases hv:v.ownBlock with
  |none=>exact .inl rfl
  |some k=>
   refine .inr λe=> ?_;have:=(World.ownsRow.lt a.1 k hv).1;have:=h k e.symm;omega
 ·exact(a.2 p w).keep (.of_grown o λb u e=>by have:=h b e.symm;omega) λb u _=>u
theorem jD.ext {a w':World} {base:Nat} {e:TypeId} {v:Value} {l:List SV} (o:jD a base e v l) (h:au a w'):jD w' base e v l:=o.grown (h.grownBy none) (λk d=>by cases d)
theorem jD.rd {h:World} {base:Nat} {e:TypeId} {v:Value} {l:List SV} (o:jD h base e v l):ed h (λb=>base<=b) v (l.map (·.s)):=by
 rcases o.1.2 with⟨rfl,H⟩|⟨g,cap,cur,rfl,A,hg,hnc,hcm,hcs,ht⟩
 ·have:l=[]:=aX H;subst this;exact .nil _ _
 ·have F:g<h.heap.size:=(Array.getElem?_eq_some_iff.1 hg).1;have u: ∀j y,(eX l)[j]? =some y->h.cell? ⟨g,j,none⟩=some y:=λj y w=>by
   rw[cell_of_row h g j cur e (0,0) hg];rw[<-ht,b_]at w;split at w
   ·simpa using w
   ·cases w
  have z: ∀i (d:i<l.length),SV.ok h (λb=>base<=b) l[i]:=λi d=>(o.2 l[i] (ay d)).keep ⟨ah _,λ_ _ _=>rfl⟩ λb A _=>A.1;refine .row g 0 l.length cap _ (λi=>if o:i<l.length then l[i].e else .slice none 0 0) (λi=>if o:i<l.length then l[i].b else .slice none 0 0) (λi=>if o:i<l.length then l[i].l else .slice none 0 0) A F Qe hnc hcm (λi d=> ?_) (λi d=> ?_) (λi d=> ?_) (λi d=> ?_)
  ·have a:i<l.length:=by simpa using d
   have q:=λk G=>lZ l i a k G;have e0:(l.map (·.s))[i]=l[i].s:=Qe
   rw[e0,dif_pos a,dif_pos a,dif_pos a,aE];exact⟨u _ _ (q 0 Qa),u _ _ (q 1 Qa),u _ _ (q 2 Qa),u _ _ (q 3 Qa),u _ _ (q 4 Qa)⟩
  all_goals
   have a:i<l.length:=by simpa using d
   have e0:(l.map (·.s))[i]=l[i].s:=Qe
   rw[e0,dif_pos a]
  ·exact(z i a).1
  ·exact(z i a).2.1
  ·exact(z i a).2.2
theorem jD.snoc {a w':World} {base:Nat} {e:TypeId} {v:Value} {l:List SV} {p:SV} {h w:Nat} (G:jD a base e v l) (ha:p.ok a (λb=>base<=b/\some b≠v.ownBlock))
  (A:w'.ownsRow base e 5 (.slice (some ⟨h,0,none⟩) (l.length+1) w) (l.length+1) (eX l++zC p)) (F:a.grownBy w' v.ownBlock) (u:some h=v.ownBlock\/h=a.heap.size):
  jD w' base e (.slice (some ⟨h,0,none⟩) (l.length+1) w) (l++[p]):=by
 have z:dE (λb=>base<=b/\some b≠v.ownBlock) a w':= .of_grown F λb o=>o.2;have y: ∀b,(base<=b/\some b≠v.ownBlock)->b<a.heap.size->(base<=b/\some b≠Value.ownBlock (.slice (some ⟨h,0,none⟩) (l.length+1) w)):=λb o H=>by
  refine⟨o.1,λe=> ?_⟩;have e:b=h:=ab e;rcases u with u|u
  ·exact o.2 (by rw[e,u])
  ·omega
 refine⟨by rw[ac,rz];simpa[eX]using A,λq d=> ?_⟩;rcases List.mem_append.1 d with d|d
 ·exact(G.2 q d).keep z y
 ·rw[cH]at d;subst d;exact ha.keep z y
def PA (w:World) (g:Nat) (l:List co) (en:Int):Prop:=
 ∃A c,aM w g 124 #[.slice A l.length c, .int .i64 en]/\xU w A c l/\ ∀b off,A=some ⟨b,off,none⟩->l≠ []->b<g
theorem PA.lt {a:World} {g:Nat} {l:List co} {en:Int} (d:PA a g l en):g<a.heap.size:=let⟨_,_,hb,_⟩:=d;hb.lt
theorem PA.ext {a w':World} {g:Nat} {l:List co} {en:Int} (h:PA a g l en) (d:au a w'):PA w' g l en:=let⟨A,c,hb,ht,hn⟩:=h;⟨A,c,hb.ext d,ht.ext d,hn⟩
theorem PA.grown {d w':World} {g:Nat} {l:List co} {en:Int} {row:Option Nat} (I:PA d g l en) (w:d.grownBy w' row) (A: ∀k,row=some k->g<k):PA w' g l en:=by
 obtain⟨J,c,z,u,y⟩:=I;refine⟨J,c,(w.block g z.lt (λe=>by have:=A g e.symm;omega)).trans z,⟨u.le,u.max,?_⟩,y⟩;by_cases hl:l=[]
 ·exact .inl hl
 rcases u.rd with H|⟨b,off,ha,hlt,hc⟩
 ·exact absurd H hl
 ·have K:=y b off ha hl;have G:=w.block b hlt (λe=>by have:=A b e.symm;omega);have o: ∀h,w'.cell? ⟨b,h,none⟩=d.cell? ⟨b,h,none⟩:=λh=>World.cell?_of_block (w:=d) (a:=⟨b,h,none⟩) G;exact .inr ⟨b,off,ha,aA hlt w.size,λi F=>let⟨q0,q1,q2,q3⟩:=hc i F;⟨(o _).trans q0,(o _).trans q1,(o _).trans q2,(o _).trans q3⟩⟩
theorem PA.next {d:World} {g:Nat} {t:co} {r:List co} {en:Int} {b off c:Nat} (M:aM d g 124 #[.slice (some ⟨b,off,none⟩) (t::r).length c, .int .i64 en]) (y:xU d (some ⟨b,off,none⟩) c (t::r)) (H:b<g) (I:b<d.heap.size)
  (o c':Nat) (R:(c=1/\o=off/\c'=0)\/(¬c=1/\o=off+4/\c'=c-1)):PA (d.setCell ⟨g,0,none⟩ (.slice (some ⟨b,o,none⟩) r.length c')) g r en/\d.grownBy (d.setCell ⟨g,0,none⟩ (.slice (some ⟨b,o,none⟩) r.length c')) (some g):=by
 have J:=y.le;have aa:=y.max;simp only[ag]at J;refine⟨⟨_,c',M.set 0 _,⟨by omega,by omega,?_⟩,λad Z e _=> ?_⟩,⟨rfl,rfl,rfl,by simp[World.setCell],λk _ K=>Below.heap_setCell d _ _ k (λe=>K (by rw[e]))⟩⟩
 ·rcases R with⟨ac,_,_⟩|⟨_,rfl,_⟩
  ·exact .inl (aX Qa)
  ·refine .inr ⟨b,off+4,rfl,by simpa[World.setCell]using I,λi ab=> ?_⟩;obtain⟨b2,X,h,_,G,F,A,z⟩:=y.at_ (i+1) Qg;injection h with h;injection h with h V;subst h V;have w: ∀u v,(d.setCell ⟨g,0,none⟩ v).cell? ⟨b,u,none⟩=d.cell? ⟨b,u,none⟩:=λu v=>World.cell?_of_block (w:=d) (a:=⟨b,u,none⟩) (Below.heap_setCell d ⟨g,0,none⟩ v b (by show b≠g;omega));have en:off+4+i*4=off+(i+1)*4:=Qa
   simp only[aP]at G F A z;rw[en,w,w,w,w];exact⟨G,F,A,z⟩
 ·injection e with e;injection e with e;subst e;exact H
def a_ (en:Int) (q:List co) (n:Int):Ending:= .panicked [{v:= .iface 120 (.agg #[.int .i64 (Is en q), .int .i64 n]),recovered:=false}]
theorem eY (g:Nat) (l:List co) (en:Int) (a:World) (M:PA a g l en):Calls prog 158 #[.pointer (some ⟨g,0,none⟩)] a λe w'=>e= .returned (.agg #[.int .i64 (cV l).k, .string (ak (cV l).t), .int .i64 (cV l).v, .int .i64 (cV l).f])/\au a w':=by
 obtain⟨Z,c,y,u,z⟩:=M;have K:=(y.alloc (.cells #[.int .i64 0, .string ⟨#[]⟩, .int .i64 0, .int .i64 0] 188)).cell
 cases l with
 |nil=>
  clear y u z;go_enter func158,ntmps158;go_wp2_with fail;exact bodyPost_ret (v:= .agg #[.int .i64 0, .string ⟨#[]⟩, .int .i64 0, .int .i64 0]) (by simp[results,results158,go_sem]) rfl ⟨rfl,aa a _⟩
 |cons t r=>
  obtain⟨b,off,rfl,o,H,G,F,A⟩:=u.at_ 0 Qe;have d:au a (a.alloc (.cells #[.int .i64 0, .string ⟨#[]⟩, .int .i64 0, .int .i64 0] 188)):=aa a _;have J:=(d.cell b _ o).trans H;have c1:=(d.cell b _ o).trans G;have c2:=(d.cell b _ o).trans F;have I:=(d.cell b _ o).trans A;simp only[aY,bm,aF]at J c1 c2 I;obtain⟨n,w⟩: ∃n,(t::r).length=n:=⟨_,rfl⟩
  rw[w]at K;have X:0<n:=by rw[<-w];exact Nat.succ_pos _
  have R:(0:Int)<n:=Qa
  have V:((n:Int)==0)=false:=by rw[Qn];omega
  obtain⟨k,tx,v,f⟩:=t;simp only at J c1 c2 I;clear y u z w d H G F A;go_enter func158,ntmps158;go_wp2_with fail;exact bodyPost_ret (v:= .agg #[.int .i64 k, .string (ak tx), .int .i64 v, .int .i64 f]) (by simp[results,results158,go_sem]) rfl ⟨rfl,aa a _⟩
theorem qv (g:Nat) (l:List co) (en n:Int) (a:World) (F:PA a g l en):Calls prog 159 #[.pointer (some ⟨g,0,none⟩), .int .i64 n] a λe w'=>e=a_ en l n/\au a w':=by
 obtain⟨J,c,u,d,y⟩:=F;have A:=u.cell
 cases l with
 |nil=>
  clear u d y;go_enter func159,ntmps159;go_wp2_with fail;exact⟨rfl,rfl,aG _⟩
 |cons t r=>
  obtain⟨b,off,rfl,I,w,c1,c2,z⟩:=d.at_ 0 Qe;simp only[aY,bm,aF]at w c1 c2 z;obtain⟨m,o⟩: ∃n,(t::r).length=n:=⟨_,rfl⟩
  rw[o]at A;have H:0<m:=by rw[<-o];exact Nat.succ_pos _
  have G:(0:Int)<m:=Qa
  obtain⟨k,tx,v,f⟩:=t;simp only at w c1 c2 z;clear u d y o w c1 c2;go_enter func159,ntmps159;go_wp2_with fail;exact⟨rfl,rfl,aG _⟩
theorem ir (g:Nat) (l:List co) (en:Int) (s:List UInt8) (a:World) (w:PA a g l en):Calls prog 157 #[.pointer (some ⟨g,0,none⟩), .string (ak s)] a λe w'=>e= .returned (.bool (dB s l))/\au a w':=by
 have d:=G (eY g l en a w);have o:=G (show dB s l=(((cV l).k==5||(cV l).k==2)&&(cV l).t==s)from rfl);clear w;generalize cV l=t at*;obtain⟨k,tx,v,f⟩:=t;simp only at d o
 cases h5:(k==5)<;>cases h2:(k==2)<;>cases hs:(tx==s);all_goals
  rw[h5,h2,hs]at o;go_enter func157,ntmps157;go_wp2_with (go_at_call 158;refine d.out.mono ?_;rintro e z ⟨rfl,u⟩;have y:=G (u.alloc' (.cells #[.int .i64 k, .string (ak tx), .int .i64 v, .int .i64 f] 188));clear u d);go_ret;exact⟨by rw[o.out];rfl,y.out⟩
theorem cT (g:Nat) (l:List co) (en:Int) (s:List UInt8) (w:World) (o:PA w g l en):Calls prog 97 #[.pointer (some ⟨g,0,none⟩), .string (ak s)] w λe w'=>e= .returned (.bool (dB s l))/\PA w' g (if dB s l then l.tail else l) en/\w.grownBy w' (some g):=by
 have d:=G (ir g l en s w o)
 cases hi:dB s l with
 |false=>
  rw[hi]at d;have H:=G o;clear o;go_enter func97,ntmps97;go_wp2_with (go_at_call 157;refine d.out.mono ?_;rintro e K ⟨rfl,a⟩;have u:=G a;clear a d);go_ret;exact⟨rfl,H.out.ext u.out,u.out.grownBy _⟩
 |true=>
  rw[hi]at d;have H:=G o;obtain⟨t,r,rfl⟩: ∃t r,l=t::r:=by
   cases l with
   |nil=>exact absurd rfl (nE hi)
   |cons t r=>exact⟨t,r,rfl⟩
  clear o hi;go_enter func97,ntmps97;go_wp2_with (go_at_call 157;refine d.out.mono ?_;rintro e K ⟨rfl,a⟩;obtain⟨V,c,y,z,I⟩:=H.out.ext a;obtain⟨b,off,rfl,J,_⟩:=z.at_ 0 Qe;have R:=y.cell;have M:=y.frozen;have u:=G a;clear a d)
  ·obtain⟨F,A⟩:=PA.next y z (I b off rfl Qe) J off 0 (.inl ⟨by assumption,rfl,rfl⟩);go_ret;exact⟨rfl,F,am (u.out.grownBy _) A⟩
  ·obtain⟨F,A⟩:=PA.next y z (I b off rfl Qe) J (off+4) (c-1) (.inr ⟨by assumption,rfl,rfl⟩);go_ret;exact⟨rfl,F,am (u.out.grownBy _) A⟩
theorem eW (g:Nat) (l:List co) (en:Int) (s:List UInt8) (a:World) (y:PA a g l en) (o:dB s l=true):Calls prog 99 #[.pointer (some ⟨g,0,none⟩), .string (ak s)] a λe w'=>e= .returned (.tuple #[])/\PA w' g l.tail en/\a.grownBy w' (some g):=by
 have d:=G (cT g l en s a y);rw[o]at d;simp only[if_true]at d;clear y o;go_enter func99,ntmps99;go_wp2_with (go_at_call 97;refine d.out.mono ?_;rintro e F ⟨rfl,w,u⟩;have A:=G w;have z:=G u;clear w u d)
 go_end0
 exact⟨rfl,A.out,z.out⟩
theorem gX (g:Nat) (l:List co) (en:Int) (s:List UInt8) (a:World) (z:PA a g l en) (o:dB s l=false):Calls prog 99 #[.pointer (some ⟨g,0,none⟩), .string (ak s)] a λe w'=>e=a_ en l 3/\a.grownBy w' (some g):=by
 have d:=G (cT g l en s a z);rw[o]at d;simp only[aQ,if_false]at d;clear z o;go_enter func99,ntmps99
 go_wp2_with (first
  |(go_at_call 97;refine d.out.mono ?_;rintro e J ⟨rfl,y,w⟩;have H:=G y;have F:=G w;clear y w d)
  |(go_at_call 159;refine(qv g l en 3 _ H.out).mono ?_;unfold a_;rintro e I ⟨rfl,u⟩;have A:=G (am F.out (u.grownBy _));clear u))
 exact⟨rfl,rfl,A.out⟩
theorem qk (g:Nat) (l:List co) (en:Int) (a:World) (o:PA a g l en) (d: ¬(cV l).k=1):Calls prog 100 #[.pointer (some ⟨g,0,none⟩)] a λe w'=>e=a_ en l 3/\a.grownBy w' (some g):=by
 have u:=G (eY g l en a o);have A:=G o;generalize cV l=t at*;obtain⟨k,tx,v,f⟩:=t;simp only at u d;have J:(k==1)=false:=Qn.2 d;clear o d;go_enter func100,ntmps100
 go_wp2_with (first
  |(go_at_call 158;refine u.out.mono ?_;rintro e I ⟨rfl,w⟩;have z:=G (w.alloc' (.cells #[.int .i64 k, .string (ak tx), .int .i64 v, .int .i64 f] 188));clear w u)
  |(go_at_call 159;refine(qv g l en 3 _ (A.out.ext z.out)).mono ?_;unfold a_;rintro e H ⟨rfl,y⟩;have F:=G (z.out.trans y);clear y))
 exact⟨rfl,rfl,F.out.grownBy _⟩
theorem jL (g:Nat) (l:List co) (en:Int) (a:World) (z:PA a g l en) (u:(cV l).k=1):Calls prog 100 #[.pointer (some ⟨g,0,none⟩)] a λe w'=>e= .returned (.string (ak (cV l).t))/\PA w' g l.tail en/\a.grownBy w' (some g):=by
 have F:=G (eY g l en a z);have K:=G z;obtain⟨t,r,rfl⟩: ∃t r,l=t::r:=by
  cases l with
  |nil=>exact absurd u Qd
  |cons t r=>exact⟨t,r,rfl⟩
 clear z;obtain⟨k,tx,v,f⟩:=t;simp only[cV]at F u;obtain rfl:k=1:=u;go_enter func100,ntmps100;go_wp2_with (go_at_call 158;refine F.out.mono ?_;rintro e M ⟨rfl,J⟩;have A:=G (J.alloc' (.cells #[.int .i64 1, .string (ak tx), .int .i64 v, .int .i64 f] 188));obtain⟨X,c,d,o,H⟩:=K.out.ext A.out;obtain⟨b,off,rfl,I,_⟩:=o.at_ 0 Qe;have V:=d.cell;have R:=d.frozen;clear J F)
 ·obtain⟨y,w⟩:=PA.next d o (H b off rfl Qe) I off 0 (.inl ⟨by assumption,rfl,rfl⟩);go_ret;exact⟨rfl,y,am (A.out.grownBy _) w⟩
 ·obtain⟨y,w⟩:=PA.next d o (H b off rfl Qe) I (off+4) (c-1) (.inr ⟨by assumption,rfl,rfl⟩);go_ret;exact⟨rfl,y,am (A.out.grownBy _) w⟩
theorem Bn (s:List UInt8):s=[124,124]\/s=[38,38]\/s=[61,61]\/s=[33,61]\/s=[60]\/s=[60,61]\/s=[62]\/s=[62,61]\/s=[43]\/s=[45]\/s=[42]\/s=[47]\/s=[37]\/
  (((s==[124,124])=false/\(s==[38,38])=false/\(s==[61,61])=false/\(s==[33,61])=false/\(s==[60])=false/\(s==[60,61])=false/\(s==[62])=false/\(s==[62,61])=false/\(s==[43])=false/\(s==[45])=false/\(s==[42])=false/\(s==[47])=false/\(s==[37])=false)/\my s=0):=by
 by_cases h1:s=[124,124]
 ·exact .inl h1
 by_cases h2:s=[38,38]
 ·exact(.inr (.inl h2))
 by_cases h3:s=[61,61]
 ·exact(.inr (.inr (.inl h3)))
 by_cases h4:s=[33,61]
 ·exact(.inr (.inr (.inr (.inl h4))))
 by_cases h5:s=[60]
 ·exact(.inr (.inr (.inr (.inr (.inl h5)))))
 by_cases h6:s=[60,61]
 ·exact(.inr (.inr (.inr (.inr (.inr (.inl h6))))))
 by_cases h7:s=[62]
 ·exact(.inr (.inr (.inr (.inr (.inr (.inr (.inl h7)))))))
 by_cases h8:s=[62,61]
 ·exact(.inr (.inr (.inr (.inr (.inr (.inr (.inr (.inl h8))))))))
 by_cases h9:s=[43]
 ·exact(.inr (.inr (.inr (.inr (.inr (.inr (.inr (.inr (.inl h9)))))))))
 by_cases h10:s=[45]
 ·exact(.inr (.inr (.inr (.inr (.inr (.inr (.inr (.inr (.inr (.inl h10))))))))))
 by_cases h11:s=[42]
 ·exact(.inr (.inr (.inr (.inr (.inr (.inr (.inr (.inr (.inr (.inr (.inl h11)))))))))))
 by_cases h12:s=[47]
 ·exact(.inr (.inr (.inr (.inr (.inr (.inr (.inr (.inr (.inr (.inr (.inr (.inl h12))))))))))))
 by_cases h13:s=[37]
 ·exact(.inr (.inr (.inr (.inr (.inr (.inr (.inr (.inr (.inr (.inr (.inr (.inr (.inl h13)))))))))))))
 refine(.inr (.inr (.inr (.inr (.inr (.inr (.inr (.inr (.inr (.inr (.inr (.inr (.inr ⟨⟨Qn.2 h1,Qn.2 h2,Qn.2 h3,Qn.2 h4,Qn.2 h5,Qn.2 h6,Qn.2 h7,Qn.2 h8,Qn.2 h9,Qn.2 h10,Qn.2 h11,Qn.2 h12,Qn.2 h13⟩,?_⟩)))))))))))));unfold my;rw[if_neg h1,if_neg h2,if_neg h3,if_neg h4,if_neg h5,if_neg h6,if_neg h7,if_neg h8,if_neg h9,if_neg h10,if_neg h11,if_neg h12,if_neg h13]
theorem ma (s:List UInt8) (a:World):Calls prog 167 #[.string (ak s)] a λe w'=>e= .returned (.int .i64 (my s))/\a=w':=by
 rcases Bn s with rfl|rfl|rfl|rfl|rfl|rfl|rfl|rfl|rfl|rfl|rfl|rfl|rfl|⟨⟨e1,e2,e3,e4,e5,e6,e7,e8,e9,e10,e11,e12,e13⟩,hz⟩
 all_goals
  go_enter func167,ntmps167;go_wp2_with fail;go_ret;refine⟨?_,rfl⟩;first|exact congrArg (λn=>Ending.returned (.int .i64 n)) hz.symm|rfl|(simp[my];done)
theorem d_ (b:Nat): ∀(h:List Value) (d:Nat) (a:World),a.grownBy (a.setCells b d h) (some b)
 | [],d,a=>⟨rfl,rfl,rfl,ah _,λ_ _ _=>rfl⟩
 |v::r,d,a=>am (show a.grownBy (a.setCell ⟨b,d,none⟩ v) (some b)from⟨rfl,rfl,rfl,by simp[World.setCell],λk _ o=>Below.heap_setCell a ⟨b,d,none⟩ v k (λe=>o (by rw[e]))⟩) (d_ b r (d+1) _)
theorem ef {w0 h w':World} {g k:Nat} (a:w0.grownBy h (some g)) (d:h.grownBy w' (some k)) (w:w0.heap.size<=k):w0.grownBy w' (some g):=
 ⟨d.os.trans a.os,d.tape.trans a.tape,d.output.trans a.output,ax a.size d.size,λi o u=>(d.block i (aA o a.size) (λe=>by injection e with e;omega)).trans (a.block i o u)⟩
theorem aM.put6 {h:World} {g:Nat} {t:TypeId} {A z y w u o:Value} (F:aM h g t #[A,z,y,w,u,o]) (d b c a e f:Value):aM (h.setCells g 0 [d,b,c,a,e,f]) g t #[d,b,c,a,e,f]:=by
 have:=(((((F.set 0 d).set 1 b).set 2 c).set 3 a).set 4 e).set 5 f;simpa[World.setCells]using this
theorem aM.put5' {h:World} {g:Nat} {t:TypeId} {z y w u o:Value} (A:aM h g t #[z,y,w,u,o]) (d b c a e:Value):aM (h.setCells g 0 [d,b,c,a,e]) g t #[d,b,c,a,e]:=by
 have:=((((A.set 0 d).set 1 b).set 2 c).set 3 a).set 4 e;simpa[World.setCells]using this
def rn (g:Nat) (en:Int) (w:World) (r:PR Ex) (e:Ending) (w':World):Prop:=
 w.grownBy w' (some g)/\match r with
 | .ok (x,q)=> ∃A n c,e= .returned (.agg #[.int .i64 x.k, .string (ak x.op), .string (ak x.nm), .string (ak x.tx), .int .i64 x.v, .slice A n c])/\dL w' (λb=>w.heap.size<=b) (.slice A n c) x.args/\PA w' g q en
 | .error (q,n)=>e=a_ en q n
def fB (f:Nat):Prop:= ∀(n:Int) (l:List co) (en:Int) (w:World) (g:Nat),PA w g l en->1<=n->n<=7->4*l.length+2<=f->Calls prog 204 #[.pointer (some ⟨g,0,none⟩), .int .i64 n] w (rn g en w (cv f n l))
def rX (f:Nat):Prop:= ∀(l:List co) (en:Int) (w:World) (g:Nat),PA w g l en->4*l.length+1<=f->Calls prog 229 #[.pointer (some ⟨g,0,none⟩)] w (rn g en w (dr f l))
def jF (f:Nat):Prop:= ∀(nm:List UInt8) (l:List co) (en:Int) (w:World) (g:Nat),PA w g l en->4*l.length+1<=f->Calls prog 230 #[.pointer (some ⟨g,0,none⟩), .string (ak nm)] w (rn g en w (cX f nm l))
theorem nG {l:List co} {k:Int} (d:(cV l).k=k) (a:k≠0): ∃t r,l=t::r:=by
 cases l with
 |nil=>exact absurd d.symm a
 |cons t r=>exact⟨t,r,rfl⟩
theorem PA.next_a {a:World} {g:Nat} {t:co} {r:List co} {en:Int} {b off c:Nat} (u:aM a g 124 #[.slice (some ⟨b,off,none⟩) (t::r).length c, .int .i64 en]) (d:xU a (some ⟨b,off,none⟩) c (t::r)) (h:b<g) (o:b<a.heap.size) (w:c=1):
  PA (a.setCell ⟨g,0,none⟩ (.slice (some ⟨b,off,none⟩) r.length 0)) g r en/\a.grownBy (a.setCell ⟨g,0,none⟩ (.slice (some ⟨b,off,none⟩) r.length 0)) (some g):=PA.next u d h o _ _ (.inl ⟨w,rfl,rfl⟩)
theorem PA.next_b {a:World} {g:Nat} {t:co} {r:List co} {en:Int} {b off c:Nat} (u:aM a g 124 #[.slice (some ⟨b,off,none⟩) (t::r).length c, .int .i64 en]) (d:xU a (some ⟨b,off,none⟩) c (t::r)) (h:b<g) (o:b<a.heap.size) (w: ¬c=1):
  PA (a.setCell ⟨g,0,none⟩ (.slice (some ⟨b,off+4,none⟩) r.length (c-1))) g r en/\a.grownBy (a.setCell ⟨g,0,none⟩ (.slice (some ⟨b,off+4,none⟩) r.length (c-1))) (some g):=PA.next u d h o _ _ (.inr ⟨w,rfl,rfl⟩)
theorem ic {g:Nat} {en:Int} {a w':World} {r:PR Ex} {q:List co} {n:Int} (d:r= .error (q,n)) (h:a.grownBy w' (some g)):rn g en a r (a_ en q n) w':=by
 subst d;exact⟨h,rfl⟩
theorem qe {f:Nat} {l:List co} (h: ¬(cV l).k=3) (d: ¬(cV l).k=4) (o: ¬(cV l).k=1) (a:(dB vy l||dB xr l)=true):dr (f+1) l=(dr f l.tail).then λx q=> .ok (.mk 6 (cV l).t [] [] 0 [x],q):=by
 rw[dr,if_neg h,if_neg d,if_neg o,if_pos a]
theorem jK {f:Nat} {l:List co} (h: ¬(cV l).k=3) (d: ¬(cV l).k=4) (o: ¬(cV l).k=1) (a:(dB vy l||dB xr l)=false):dr (f+1) l=(cF n_ l).then λ_ r=>(cv f 1 r).then λx r=>(cF l7 r).then λ_ r=> .ok (x,r):=by
 rw[dr,if_neg h,if_neg d,if_neg o,if_neg (by rw[a];simp)]
theorem lM {d W:World} {g u:Nat} {en:Int} {q:List co} {H G F A z y:Value} {r:PR Ex} (x:Ex) (k:Int) (so o h:ByteArray) (v:Int) (a:Option Addr) (n c:Nat) (K:r= .ok (x,q)) (X:x.k=k) (R:ak x.op=so) (V:ak x.nm=o) (J:ak x.tx=h) (I:x.v=v) (M:u=d.heap.size)
  (ad:aM W u 206 #[H,G,F,A,z,y]) (ac:d.grownBy W (some g)) (ab:PA W g q en) (ae:g<d.heap.size) (aa:dL W (λb=>d.heap.size+1<=b) (.slice a n c) x.args):
  (∀i,(W.setCells u 0 [.int .i64 k, .string so, .string o, .string h, .int .i64 v, .slice a n c]).cell? ⟨u,i,none⟩=(#[.int .i64 k, .string so, .string o, .string h, .int .i64 v, .slice a n c]:Array Value)[i]?)/\
  rn g en d r (.returned (.agg #[.int .i64 k, .string so, .string o, .string h, .int .i64 v, .slice a n c])) (W.setCells u 0 [.int .i64 k, .string so, .string o, .string h, .int .i64 v, .slice a n c]):=by
 subst K X R V J I M;have w:=d_ d.heap.size [.int .i64 x.k, .string (ak x.op), .string (ak x.nm), .string (ak x.tx), .int .i64 x.v, .slice a n c] 0 W;refine⟨(aM.put6 ad _ _ _ _ _ _).cell,ef ac w (ah _),a,n,c,rfl,aa.keep (.of_grown w λb Z e=>by injection e with e;omega) λb Z _=>by omega,ab.grown w λk e=>by injection e with e;omega⟩
theorem AL (f:Nat) (l:List co) (en:Int) (a:World) (g:Nat) (o:PA a g l en) (K:(cV l).k=3):Calls prog 229 #[.pointer (some ⟨g,0,none⟩)] a (rn g en a (dr (f+1) l)):=by
 obtain⟨⟨k,tx,v,fr⟩,r,rfl⟩:=nG K Qd;obtain rfl:k=3:=K;have af:=G (show dr (f+1) (⟨3,tx,v,fr⟩::r)= .ok (.mk 1 [] [] [] v [],r)from by rw[dr];rfl);have y:=G (aa a (.cells #[.int .i64 0, .string ⟨#[]⟩, .string ⟨#[]⟩, .string ⟨#[]⟩, .int .i64 0, .slice none 0 0] 206));have ah:=G (aq a 206 #[.int .i64 0, .string ⟨#[]⟩, .string ⟨#[]⟩, .string ⟨#[]⟩, .int .i64 0, .slice none 0 0]);have z:=G (eY g _ en _ (o.ext y.out));have ag:=G o;have ac:=o.lt;clear o;simp only[cV]at z;go_enter func229,ntmps229;go_wp2_with (go_at_call 158;refine z.out.mono ?_;rintro e X ⟨rfl,R⟩;have w:=G (R.alloc' (.cells #[.int .i64 3, .string (ak tx), .int .i64 v, .int .i64 fr] 188));have A:=G (ah.out.ext w.out);have ap:=G (aq X 188 #[.int .i64 3, .string (ak tx), .int .i64 v, .int .i64 fr]);have aj:=A.out.cell;have ai:=A.out.frozen;have Z:a.heap.size≠g:=Qa;have al:g≠a.heap.size:=Qa;clear R z;obtain⟨ar,c,d,u,I⟩:=(ag.out.ext y.out).ext w.out;obtain⟨b,off,rfl,J,_⟩:=u.at_ 0 Qe;have ao:=d.cell;have an:=d.frozen);all_goals
  first|have H:=PA.next_a d u (I b off rfl Qe) J (by assumption)|have H:=PA.next_b d u (I b off rfl Qe) J (by assumption)
  obtain⟨ae,V⟩:=H;have ad:=A.out.grown V (λe=>Z (ab e));obtain⟨F,M⟩:=lM (.mk 1 [] [] [] v []) 1 ⟨#[]⟩ ⟨#[]⟩ ⟨#[]⟩ v none 0 0 af.out rfl rfl rfl rfl rfl rfl ad (am ((y.out.trans w.out).grownBy _) V) ae ac (.nil _ _);simp only[World.setCells,aE,Nat.reduceAdd]at F M;exact bodyPost_ret (v:= .agg #[.int .i64 1, .string ⟨#[]⟩, .string ⟨#[]⟩, .string ⟨#[]⟩, .int .i64 v, .slice none 0 0]) (by simp[results,results229,go_sem,F]) rfl M
theorem AK (f:Nat) (l:List co) (en:Int) (a:World) (g:Nat) (o:PA a g l en) (K:(cV l).k=4):Calls prog 229 #[.pointer (some ⟨g,0,none⟩)] a (rn g en a (dr (f+1) l)):=by
 obtain⟨⟨k,tx,v,fr⟩,r,rfl⟩:=nG K Qd;obtain rfl:k=4:=K;have af:=G (show dr (f+1) (⟨4,tx,v,fr⟩::r)= .ok (.mk 2 [] [] tx 0 [],r)from by rw[dr];rfl);have y:=G (aa a (.cells #[.int .i64 0, .string ⟨#[]⟩, .string ⟨#[]⟩, .string ⟨#[]⟩, .int .i64 0, .slice none 0 0] 206));have ah:=G (aq a 206 #[.int .i64 0, .string ⟨#[]⟩, .string ⟨#[]⟩, .string ⟨#[]⟩, .int .i64 0, .slice none 0 0]);have z:=G (eY g _ en _ (o.ext y.out));have ag:=G o;have ac:=o.lt;clear o;simp only[cV]at z;go_enter func229,ntmps229;go_wp2_with (go_at_call 158;refine z.out.mono ?_;rintro e X ⟨rfl,R⟩;have w:=G (R.alloc' (.cells #[.int .i64 4, .string (ak tx), .int .i64 v, .int .i64 fr] 188));have A:=G (ah.out.ext w.out);have ap:=G (aq X 188 #[.int .i64 4, .string (ak tx), .int .i64 v, .int .i64 fr]);have aj:=A.out.cell;have ai:=A.out.frozen;have Z:a.heap.size≠g:=Qa;have al:g≠a.heap.size:=Qa;clear R z;obtain⟨ar,c,d,u,I⟩:=(ag.out.ext y.out).ext w.out;obtain⟨b,off,rfl,J,_⟩:=u.at_ 0 Qe;have ao:=d.cell;have an:=d.frozen);all_goals
  first|have H:=PA.next_a d u (I b off rfl Qe) J (by assumption)|have H:=PA.next_b d u (I b off rfl Qe) J (by assumption)
  obtain⟨ae,V⟩:=H;have ad:=A.out.grown V (λe=>Z (ab e));obtain⟨F,M⟩:=lM (.mk 2 [] [] tx 0 []) 2 ⟨#[]⟩ ⟨#[]⟩ (ak tx) 0 none 0 0 af.out rfl rfl rfl rfl rfl rfl ad (am ((y.out.trans w.out).grownBy _) V) ae ac (.nil _ _);simp only[World.setCells,aE,Nat.reduceAdd]at F M;exact bodyPost_ret (v:= .agg #[.int .i64 2, .string ⟨#[]⟩, .string ⟨#[]⟩, .string (ak tx), .int .i64 0, .slice none 0 0]) (by simp[results,results229,go_sem,F]) rfl M
theorem yD (f:Nat) (l:List co) (en:Int) (a:World) (g:Nat) (J:PA a g l en) (ar:jF f) (aC:4*l.length+1<=f+1) (aj:(cV l).k=1):Calls prog 229 #[.pointer (some ⟨g,0,none⟩)] a (rn g en a (dr (f+1) l)):=by
 obtain⟨⟨k,nm,v,fr⟩,r,rfl⟩:=nG aj Qd;obtain rfl:k=1:=aj;have K:=G (show dr (f+1) (⟨1,nm,v,fr⟩::r)=cX f nm r from by rw[dr];rfl);have F:=G (aa a (.cells #[.int .i64 0, .string ⟨#[]⟩, .string ⟨#[]⟩, .string ⟨#[]⟩, .int .i64 0, .slice none 0 0] 206));have av:=G (aq a 206 #[.int .i64 0, .string ⟨#[]⟩, .string ⟨#[]⟩, .string ⟨#[]⟩, .int .i64 0, .slice none 0 0]);have H:=G (eY g _ en _ (J.ext F.out));have au:=G J;have aB:=J.lt;clear J;simp only[cV]at H;have an:4*r.length+1<=f:=by simp only[ag]at aC;omega
 cases hpn:cX f nm r with
 |error q=>
  obtain⟨q,n⟩:=q;rw[hpn]at K;go_enter func229,ntmps229;go_wp2_with (first|(go_at_call 158;refine H.out.mono ?_;rintro e M ⟨rfl,z⟩;have o:=G (z.alloc' (.cells #[.int .i64 1, .string (ak nm), .int .i64 v, .int .i64 fr] 188));have u:=G (av.out.ext o.out);have aF:=G (aq M 188 #[.int .i64 1, .string (ak nm), .int .i64 v, .int .i64 fr]);have V:=u.out.cell;have R:=u.out.frozen;have I:a.heap.size≠g:=Qa;have aA:g≠a.heap.size:=Qa;clear z H;have Z:=G ((au.out.ext F.out).ext o.out))|(go_at_call 100;refine(jL g _ en _ Z.out rfl).mono ?_;simp only[cV,List.tail_cons];rintro e ah ⟨rfl,A,d⟩;have X:=G A;have ad:=G (am ((F.out.trans o.out).grownBy _) d);have af:=G (u.out.grown d (λe=>I (ab e)));clear A d)|(go_at_call 230;refine(ar nm r en _ g X.out an).mono ?_;intro e ay y;rw[hpn]at y;obtain⟨w,rfl⟩:=y;unfold a_;have ac:=G (am ad.out w);clear w));exact⟨rfl,ic K.out ac.out⟩
 |ok p=>
  obtain⟨x,q⟩:=p;rw[hpn]at K;have aH:=K;go_enter func229,ntmps229;go_wp2_with (first|(go_at_call 158;refine H.out.mono ?_;rintro e M ⟨rfl,z⟩;have o:=G (z.alloc' (.cells #[.int .i64 1, .string (ak nm), .int .i64 v, .int .i64 fr] 188));have u:=G (av.out.ext o.out);have aF:=G (aq M 188 #[.int .i64 1, .string (ak nm), .int .i64 v, .int .i64 fr]);have V:=u.out.cell;have R:=u.out.frozen;have I:a.heap.size≠g:=Qa;have aA:g≠a.heap.size:=Qa;clear z H;have Z:=G ((au.out.ext F.out).ext o.out))|(go_at_call 100;refine(jL g _ en _ Z.out rfl).mono ?_;simp only[cV,List.tail_cons];rintro e ah ⟨rfl,A,d⟩;have X:=G A;have ad:=G (am ((F.out.trans o.out).grownBy _) d);have af:=G (u.out.grown d (λe=>I (ab e)));clear A d)|(go_at_call 230;refine(ar nm r en _ g X.out an).mono ?_;intro e ay y;rw[hpn]at y;obtain⟨w,aw,n,c,rfl,ao,ap⟩:=y;have ac:=G (am ad.out w);have ae:=G (af.out.grown w (λe=>I (ab e)));have az:a.heap.size+1<=ah.heap.size:=(by have:=af.out.lt;omega);have aG:=G (ao.mono (λb aD _=>ax az aD));have aI:=G ap;clear V R;have V:=ae.out.cell;have R:=ae.out.frozen;clear w ao ap));obtain⟨ai,al⟩:=lM (x) x.k (ak x.op) (ak x.nm) (ak x.tx) x.v aw n c aH.out rfl rfl rfl rfl rfl rfl ae.out ac.out aI.out aB aG.out;simp only[World.setCells,aE,Nat.reduceAdd]at ai al;exact bodyPost_ret (v:= .agg #[.int .i64 x.k, .string (ak x.op), .string (ak x.nm), .string (ak x.tx), .int .i64 x.v, .slice aw n c]) (by simp[results,results229,go_sem,ai]) rfl al
theorem we (f:Nat) (l:List co) (en:Int) (z:World) (g:Nat) (d:PA z g l en) (aQ:rX f) (a1:4*l.length+1<=f+1) (ao: ¬(cV l).k=3) (an: ¬(cV l).k=4) (ap: ¬(cV l).k=1) (aj:dB vy l=true):Calls prog 229 #[.pointer (some ⟨g,0,none⟩)] z (rn g en z (dr (f+1) l)):=by
 obtain⟨⟨k,tx,v,fr⟩,r,rfl⟩: ∃t r,l=t::r:=by
  cases l with
  |nil=>exact absurd rfl (nE aj)
  |cons t r=>exact⟨t,r,rfl⟩
 simp only[cV]at ao an ap;have bp:(k==3)=false:=Qn.2 ao;have bn:(k==4)=false:=Qn.2 an;have bq:(k==1)=false:=Qn.2 ap;have aD:=G (show dr (f+1) (⟨k,tx,v,fr⟩::r)=(dr f r).then λx q=> .ok (.mk 6 tx [] [] 0 [x],q)from qe ao an ap (by rw[aj];rfl));have aP:4*r.length+1<=f:=by simp only[ag]at a1;omega
 have aB:=G (aa z (.cells #[.int .i64 0, .string ⟨#[]⟩, .string ⟨#[]⟩, .string ⟨#[]⟩, .int .i64 0, .slice none 0 0] 206));have aV:=G (aq z 206 #[.int .i64 0, .string ⟨#[]⟩, .string ⟨#[]⟩, .string ⟨#[]⟩, .int .i64 0, .slice none 0 0]);have aH:=G (eY g _ en _ (d.ext aB.out));have bf:=G d;have aZ:=d.lt;clear d;simp only[cV]at aH;go_enter func229,ntmps229;go_wp2_with (first|(go_at_call 158;refine aH.out.mono ?_;rintro e F ⟨rfl,A⟩;have bk:z.heap.size<F.heap.size:=(by have:=aV.out.lt;have:=dm A;omega);have aA:=G (A.alloc' (.cells #[.int .i64 k, .string (ak tx), .int .i64 v, .int .i64 fr] 188));have aK:=G (aV.out.ext aA.out);have bc:=G (aq F 188 #[.int .i64 k, .string (ak tx), .int .i64 v, .int .i64 fr]);have ac:=aK.out.cell;have Z:=aK.out.frozen;have aM:z.heap.size≠g:=Qa;have bl:g≠z.heap.size:=Qa;clear A aH;have aG:=G ((bf.out.ext aB.out).ext aA.out))|(go_at_call 157;refine(ir g _ en vy _ aG.out).mono ?_;rw[aj];rintro e bh ⟨rfl,A⟩;have ba:=G (aA.out.trans A);have be:=G (aG.out.ext A);have aI:=G (aK.out.ext A);have bb:=G (bc.out.ext A);clear ac Z;have ac:=aI.out.cell;have Z:=aI.out.frozen;clear aG;obtain⟨u,c,a,X,ai⟩:=be.out;obtain⟨b,off,rfl,al,_⟩:=X.at_ 0 Qe;have a4:=a.cell;have a3:=a.frozen;clear A));all_goals
  first|have aN:=PA.next_a a X (ai b off rfl Qe) al (by assumption)|have aN:=PA.next_b a X (ai b off rfl Qe) al (by assumption)
  obtain⟨aR,ad⟩:=aN;have ah:F.heap.size≠g:=Qa
  have aT:=G (am ((aB.out.trans ba.out).grownBy (some g)) ad);have aU:=G (aI.out.grown ad (λe=>aM (ab e)));have aS:=G (bb.out.grown ad (λe=>ah (ab e)));have aF:=G aR;clear a X ai al a4 a3 ac Z ad aR;generalize World.setCell _ _ _=V at*
  cases hpp:dr f r with
  |error p=>
   obtain⟨q,n⟩:=p;rw[hpp]at aD;refine cM 6 12 [(3,λv=>v= .agg #[.int .i64 0, .string ⟨#[]⟩, .string ⟨#[]⟩, .string ⟨#[]⟩, .int .i64 0, .slice none 0 0],λ_ _=>False),(4,λv=> ∃I,v= .slice (some ⟨I,0,none⟩) 1 1,λ_ _=>True)] 3 (some g) mixed Qb ⟨λ_ _ _ d _=>d,λ_ _ _ d _=>d,trivial⟩ ⟨.inl rfl, .inr λ_ _ _ d _=>d,trivial⟩ ?_;repeat (refine sx ?_ (λF w=> ?_) ?_;rotate_left;(focus have a9:=(aS.out.grown (aJ w) (λe=>ah (ab e))).cell;clear w;go_simp<;>with_reducible rfl);simp only[bA,bx,bw,br,bo])
   refine dD _ _ Qf rfl ⟨_,rfl⟩ rfl (λy H o az K=> ?_) ?_
   ·clear o;have ar:=aQ r en y g (aF.out.ext H.un) aP;have aC:=G H.un;clear H;go_simp;refine ar.mono ?_;intro e aW M;rw[hpp]at M;obtain⟨au,rfl⟩:=M;unfold a_;intro bt a2;exact⟨a2,ic aD.out (am aT.out (am (aC.out.grownBy _) au))⟩
   rintro _ rfl;simp only[bA,bx,bw,br,bo];refine cS _ _ Qf rfl ⟨_,0,rfl⟩ Qe (λy w o az K=> ?_) ?_
   ·clear o;go_simp;exact K _ _ (aa y _) ⟨_,rfl⟩ trivial
   rintro _ ⟨I,rfl⟩;simp only[bA,bx,bw,br,bo];repeat (refine sx ?_ (λF w=> ?_) ?_;rotate_left;(focus go_simp<;>with_reducible rfl);simp only[bA,bx,bw,br,bo])
   intro y bj o;exact(o _ (.tail _ (.head _))).elim
  |ok p=>
   obtain⟨x,q⟩:=p;have bd:=G (show dr (f+1) (⟨k,tx,v,fr⟩::r)= .ok (.mk 6 tx [] [] 0 [x],q)from by rw[aD.out,hpp];rfl);have bm:g<V.heap.size:=aF.out.lt;have aY:z.heap.size+1<=V.heap.size:=aU.out.lt
   refine cM 6 12 [(3,λv=> ∃u n c,v= .agg #[.int .i64 x.k, .string (ak x.op), .string (ak x.nm), .string (ak x.tx), .int .i64 x.v, .slice u n c],λv R=> ∀u n c,v= .agg #[.int .i64 x.k, .string (ak x.op), .string (ak x.nm), .string (ak x.tx), .int .i64 x.v, .slice u n c]->dL R (λb=>V.heap.size<=b) (.slice u n c) x.args/\PA R g q en),
     (4,λv=> ∃I,v= .slice (some ⟨I,0,none⟩) 1 1,λv R=>dL R (λb=>V.heap.size<=b) v [x])] 3 (some g) mixed Qb
    ⟨λ_ _ _ d J u n c e=>⟨(d u n c e).1.keep (.of_ext J) (λ_ a _=>a),(d u n c e).2.ext J⟩,λ_ _ _ d J=>d.keep (.of_ext J) (λ_ a _=>a),trivial⟩
    ⟨.inl rfl, .inr λ_ _ _ d J=>d.keep (.of_grown J λb a e=>by injection e with e;omega) (λ_ a _=>a),trivial⟩ ?_
   repeat (refine sx ?_ (λF w=> ?_) ?_;rotate_left;(focus have a9:=(aS.out.grown (aJ w) (λe=>ah (ab e))).cell;clear w;go_simp<;>with_reducible rfl);simp only[bA,bx,bw,br,bo])
   refine dD _ _ Qf rfl ⟨_,none,0,0,rfl⟩ rfl (λy H o az K=> ?_) ?_
   ·clear o;have ar:=aQ r en y g (aF.out.ext H.un) aP;have aC:=G H.un;clear H;go_simp;refine ar.mono ?_;intro e aW M;rw[hpp]at M;obtain⟨au,u,n,c,rfl,a5,a6⟩:=M;exact K _ _ au ⟨_,_,_,rfl⟩ (λbu bi c' e=>by injection e with e;simp only[fX,dM,eR,and_true,true_and]at e;obtain⟨rfl,rfl,rfl⟩:=e;exact⟨a5.mono (λb a _=>ax (dm aC.out) a),a6⟩)
   rintro _ ⟨u,n,c,rfl⟩;simp only[bA,bx,bw,br,bo];refine cS _ _ Qf rfl ⟨_,0,rfl⟩ Qe (λy w o az K=> ?_) ?_
   ·have ay:=(o _ (.head _) Qb) u n c rfl;have aX:=(aJ w).size;clear o w;go_simp;exact K _ _ (aa y _) ⟨_,rfl⟩ (dL.one (aq y _ _) aX (ay.1.keep (.of_ext (aa y _)) (λ_ a _=>a)))
   rintro _ ⟨I,rfl⟩;simp only[bA,bx,bw,br,bo];repeat (refine sx ?_ (λF w=> ?_) ?_;rotate_left;(focus go_simp<;>with_reducible rfl);simp only[bA,bx,bw,br,bo])
   intro bg af o;have a8:=o _ (.head _);have ay:=(o _ (.tail _ (.head _)) u n c rfl).2;clear o;simp only[ae,aw];have a7:=am aT.out (aJ af);have av:=aU.out.grown (aJ af) (λe=>aM (ab e));have ac:=av.cell;have Z:=av.frozen;clear af;go_wp2_with fail;obtain⟨aL,aO⟩:=lM (.mk 6 tx [] [] 0 [x]) 6 (ak tx) ⟨#[]⟩ ⟨#[]⟩ 0 (some ⟨I,0,none⟩) 1 1 bd.out rfl rfl rfl rfl rfl rfl av a7 ay aZ (a8.mono λb a _=>ax aY a);simp only[World.setCells,aE,Nat.reduceAdd]at aL aO;exact bodyPost_ret (v:= .agg #[.int .i64 6, .string (ak tx), .string ⟨#[]⟩, .string ⟨#[]⟩, .int .i64 0, .slice (some ⟨I,0,none⟩) 1 1]) (by simp[results,results229,go_sem,aL]) rfl aO
theorem AM (f:Nat) (l:List co) (en:Int) (A:World) (g:Nat) (d:PA A g l en) (aT:rX f) (a4:4*l.length+1<=f+1) (ao: ¬(cV l).k=3) (an: ¬(cV l).k=4) (ap: ¬(cV l).k=1) (aQ:dB vy l=false) (ai:dB xr l=true):Calls prog 229 #[.pointer (some ⟨g,0,none⟩)] A (rn g en A (dr (f+1) l)):=by
 obtain⟨⟨k,tx,v,fr⟩,r,rfl⟩: ∃t r,l=t::r:=by
  cases l with
  |nil=>exact absurd rfl (nE ai)
  |cons t r=>exact⟨t,r,rfl⟩
 simp only[cV]at ao an ap;have bB:(k==3)=false:=Qn.2 ao;have bz:(k==4)=false:=Qn.2 an;have bC:(k==1)=false:=Qn.2 ap;have aD:=G (show dr (f+1) (⟨k,tx,v,fr⟩::r)=(dr f r).then λx q=> .ok (.mk 6 tx [] [] 0 [x],q)from qe ao an ap (by rw[aQ,ai];rfl));have aS:4*r.length+1<=f:=by simp only[ag]at a4;omega
 have aB:=G (aa A (.cells #[.int .i64 0, .string ⟨#[]⟩, .string ⟨#[]⟩, .string ⟨#[]⟩, .int .i64 0, .slice none 0 0] 206));have aY:=G (aq A 206 #[.int .i64 0, .string ⟨#[]⟩, .string ⟨#[]⟩, .string ⟨#[]⟩, .int .i64 0, .slice none 0 0]);have aI:=G (eY g _ en _ (d.ext aB.out));have bk:=G d;have a3:=d.lt;clear d;simp only[cV]at aI;go_enter func229,ntmps229;go_wp2_with (first|(go_at_call 158;refine aI.out.mono ?_;rintro e F ⟨rfl,u⟩;have bt:A.heap.size<F.heap.size:=(by have:=aY.out.lt;have:=dm u;omega);have aA:=G (u.alloc' (.cells #[.int .i64 k, .string (ak tx), .int .i64 v, .int .i64 fr] 188));have aM:=G (aY.out.ext aA.out);have bh:=G (aq F 188 #[.int .i64 k, .string (ak tx), .int .i64 v, .int .i64 fr]);have M:=aM.out.cell;have K:=aM.out.frozen;have aO:A.heap.size≠g:=Qa;have bu:g≠A.heap.size:=Qa;clear u aI;have aH:=G ((bk.out.ext aB.out).ext aA.out))|(go_at_call 157;refine(ir g _ en vy _ aH.out).mono ?_;rw[aQ];rintro e bn ⟨rfl,u⟩;have be:=G (aA.out.trans u);have aG:=G (aH.out.ext u);have aL:=G (aM.out.ext u);have bg:=G (bh.out.ext u);clear M K;have M:=aL.out.cell;have K:=aL.out.frozen;clear aH)|(go_at_call 157;refine(ir g _ en xr _ aG.out).mono ?_;rw[ai];rintro e bm ⟨rfl,u⟩;have bd:=G (be.out.trans u);have bj:=G (aG.out.ext u);have aK:=G (aL.out.ext u);have bf:=G (bg.out.ext u);clear M K;have M:=aK.out.cell;have K:=aK.out.frozen;clear aG;obtain⟨w,c,a,ac,aj⟩:=bj.out;obtain⟨b,off,rfl,al,_⟩:=ac.at_ 0 Qe;have a7:=a.cell;have a6:=a.frozen;clear u));all_goals
  first|have aP:=PA.next_a a ac (aj b off rfl Qe) al (by assumption)|have aP:=PA.next_b a ac (aj b off rfl Qe) al (by assumption)
  obtain⟨aU,ad⟩:=aP;have ah:F.heap.size≠g:=Qa
  have aW:=G (am ((aB.out.trans bd.out).grownBy (some g)) ad);have aX:=G (aK.out.grown ad (λe=>aO (ab e)));have aV:=G (bf.out.grown ad (λe=>ah (ab e)));have aF:=G aU;clear a ac aj al a7 a6 M K ad aU;generalize World.setCell _ _ _=Z at*
  cases hpp:dr f r with
  |error p=>
   obtain⟨q,n⟩:=p;rw[hpp]at aD;refine cM 6 12 [(3,λv=>v= .agg #[.int .i64 0, .string ⟨#[]⟩, .string ⟨#[]⟩, .string ⟨#[]⟩, .int .i64 0, .slice none 0 0],λ_ _=>False),(4,λv=> ∃I,v= .slice (some ⟨I,0,none⟩) 1 1,λ_ _=>True)] 3 (some g) mixed Qb ⟨λ_ _ _ d _=>d,λ_ _ _ d _=>d,trivial⟩ ⟨.inl rfl, .inr λ_ _ _ d _=>d,trivial⟩ ?_;repeat (refine sx ?_ (λF y=> ?_) ?_;rotate_left;(focus have bc:=(aV.out.grown (aJ y) (λe=>ah (ab e))).cell;clear y;go_simp<;>with_reducible rfl);simp only[bA,bx,bw,br,bo])
   refine dD _ _ Qf rfl ⟨_,rfl⟩ rfl (λz H o az R=> ?_) ?_
   ·clear o;have ar:=aT r en z g (aF.out.ext H.un) aS;have aC:=G H.un;clear H;go_simp;refine ar.mono ?_;intro e aZ V;rw[hpp]at V;obtain⟨au,rfl⟩:=V;unfold a_;intro bD a5;exact⟨a5,ic aD.out (am aW.out (am (aC.out.grownBy _) au))⟩
   rintro _ rfl;simp only[bA,bx,bw,br,bo];refine cS _ _ Qf rfl ⟨_,0,rfl⟩ Qe (λz y o az R=> ?_) ?_
   ·clear o;go_simp;exact R _ _ (aa z _) ⟨_,rfl⟩ trivial
   rintro _ ⟨I,rfl⟩;simp only[bA,bx,bw,br,bo];repeat (refine sx ?_ (λF y=> ?_) ?_;rotate_left;(focus go_simp<;>with_reducible rfl);simp only[bA,bx,bw,br,bo])
   intro z bq o;exact(o _ (.tail _ (.head _))).elim
  |ok p=>
   obtain⟨x,q⟩:=p;have bi:=G (show dr (f+1) (⟨k,tx,v,fr⟩::r)= .ok (.mk 6 tx [] [] 0 [x],q)from by rw[aD.out,hpp];rfl);have bv:g<Z.heap.size:=aF.out.lt;have a2:A.heap.size+1<=Z.heap.size:=aX.out.lt
   refine cM 6 12 [(3,λv=> ∃w n c,v= .agg #[.int .i64 x.k, .string (ak x.op), .string (ak x.nm), .string (ak x.tx), .int .i64 x.v, .slice w n c],λv X=> ∀w n c,v= .agg #[.int .i64 x.k, .string (ak x.op), .string (ak x.nm), .string (ak x.tx), .int .i64 x.v, .slice w n c]->dL X (λb=>Z.heap.size<=b) (.slice w n c) x.args/\PA X g q en),
     (4,λv=> ∃I,v= .slice (some ⟨I,0,none⟩) 1 1,λv X=>dL X (λb=>Z.heap.size<=b) v [x])] 3 (some g) mixed Qb
    ⟨λ_ _ _ d J w n c e=>⟨(d w n c e).1.keep (.of_ext J) (λ_ a _=>a),(d w n c e).2.ext J⟩,λ_ _ _ d J=>d.keep (.of_ext J) (λ_ a _=>a),trivial⟩
    ⟨.inl rfl, .inr λ_ _ _ d J=>d.keep (.of_grown J λb a e=>by injection e with e;omega) (λ_ a _=>a),trivial⟩ ?_
   repeat (refine sx ?_ (λF y=> ?_) ?_;rotate_left;(focus have bc:=(aV.out.grown (aJ y) (λe=>ah (ab e))).cell;clear y;go_simp<;>with_reducible rfl);simp only[bA,bx,bw,br,bo])
   refine dD _ _ Qf rfl ⟨_,none,0,0,rfl⟩ rfl (λz H o az R=> ?_) ?_
   ·clear o;have ar:=aT r en z g (aF.out.ext H.un) aS;have aC:=G H.un;clear H;go_simp;refine ar.mono ?_;intro e aZ V;rw[hpp]at V;obtain⟨au,w,n,c,rfl,a8,a9⟩:=V;exact R _ _ au ⟨_,_,_,rfl⟩ (λbE bp c' e=>by injection e with e;simp only[fX,dM,eR,and_true,true_and]at e;obtain⟨rfl,rfl,rfl⟩:=e;exact⟨a8.mono (λb a _=>ax (dm aC.out) a),a9⟩)
   rintro _ ⟨w,n,c,rfl⟩;simp only[bA,bx,bw,br,bo];refine cS _ _ Qf rfl ⟨_,0,rfl⟩ Qe (λz y o az R=> ?_) ?_
   ·have ay:=(o _ (.head _) Qb) w n c rfl;have a1:=(aJ y).size;clear o y;go_simp;exact R _ _ (aa z _) ⟨_,rfl⟩ (dL.one (aq z _ _) a1 (ay.1.keep (.of_ext (aa z _)) (λ_ a _=>a)))
   rintro _ ⟨I,rfl⟩;simp only[bA,bx,bw,br,bo];repeat (refine sx ?_ (λF y=> ?_) ?_;rotate_left;(focus go_simp<;>with_reducible rfl);simp only[bA,bx,bw,br,bo])
   intro bl af o;have bb:=o _ (.head _);have ay:=(o _ (.tail _ (.head _)) w n c rfl).2;clear o;simp only[ae,aw];have ba:=am aW.out (aJ af);have av:=aX.out.grown (aJ af) (λe=>aO (ab e));have M:=av.cell;have K:=av.frozen;clear af;go_wp2_with fail;obtain⟨aN,aR⟩:=lM (.mk 6 tx [] [] 0 [x]) 6 (ak tx) ⟨#[]⟩ ⟨#[]⟩ 0 (some ⟨I,0,none⟩) 1 1 bi.out rfl rfl rfl rfl rfl rfl av ba ay a3 (bb.mono λb a _=>ax a2 a);simp only[World.setCells,aE,Nat.reduceAdd]at aN aR;exact bodyPost_ret (v:= .agg #[.int .i64 6, .string (ak tx), .string ⟨#[]⟩, .string ⟨#[]⟩, .int .i64 0, .slice (some ⟨I,0,none⟩) 1 1]) (by simp[results,results229,go_sem,aN]) rfl aR
theorem yH (f:Nat) (l:List co) (en:Int) (d:World) (g:Nat) (w:PA d g l en) (aE:fB f) (aA:4*l.length+1<=f+1) (z: ¬(cV l).k=3) (y: ¬(cV l).k=4) (A: ¬(cV l).k=1) (Z:dB vy l=false) (X:dB xr l=false) (ab:dB n_ l=false):Calls prog 229 #[.pointer (some ⟨g,0,none⟩)] d (rn g en d (dr (f+1) l)):=by
 have ad:=G (jK (f:=f) z y A (by rw[Z,X];rfl));have H:=G (aa d (.cells #[.int .i64 0, .string ⟨#[]⟩, .string ⟨#[]⟩, .string ⟨#[]⟩, .int .i64 0, .slice none 0 0] 206));have af:=G (aq d 206 #[.int .i64 0, .string ⟨#[]⟩, .string ⟨#[]⟩, .string ⟨#[]⟩, .int .i64 0, .slice none 0 0]);have K:=G (eY g _ en _ (w.ext H.out));have ao:=G w;have az:=w.lt;clear w;have al:=G (show dr (f+1) l= .error (l,3)from by rw[ad.out];unfold cF;rw[ab];rfl);clear ad;generalize cV l=t at*;obtain⟨k,tx,v,fr⟩:=t;simp only at z y A K;have aC:(k==3)=false:=Qn.2 z;have aB:(k==4)=false:=Qn.2 y;have aD:(k==1)=false:=Qn.2 A;go_enter func229,ntmps229;go_wp2_with (first|(go_at_call 158;refine K.out.mono ?_;rintro e V ⟨rfl,a⟩;have ax:d.heap.size<V.heap.size:=(by have:=af.out.lt;have:=dm a;omega);have F:=G (a.alloc' (.cells #[.int .i64 k, .string (ak tx), .int .i64 v, .int .i64 fr] 188));have R:=G (af.out.ext F.out);have aj:=G (aq V 188 #[.int .i64 k, .string (ak tx), .int .i64 v, .int .i64 fr]);have u:=R.out.cell;have o:=R.out.frozen;have aw:d.heap.size≠g:=Qa;have ay:g≠d.heap.size:=Qa;clear a K;have J:=G ((ao.out.ext H.out).ext F.out))|(go_at_call 157;refine(ir g _ en vy _ J.out).mono ?_;rw[Z];rintro e av ⟨rfl,a⟩;have ah:=G (F.out.trans a);have I:=G (J.out.ext a);have M:=G (R.out.ext a);have ai:=G (aj.out.ext a);clear u o;have u:=M.out.cell;have o:=M.out.frozen;clear J)|(go_at_call 157;refine(ir g _ en xr _ I.out).mono ?_;rw[X];rintro e au ⟨rfl,a⟩;have ag:=G (ah.out.trans a);have an:=G (I.out.ext a);have ae:=G (M.out.ext a);have aF:=G (ai.out.ext a);clear u o;have u:=ae.out.cell;have o:=ae.out.frozen;clear I)|(go_at_call 99;refine(gX g _ en n_ _ an.out ab).mono ?_;unfold a_;rintro e ar ⟨rfl,ac⟩;have ap:=G (am ((H.out.trans ag.out).grownBy _) ac);clear ac));exact⟨rfl,ic al.out ap.out⟩
theorem yF (f:Nat) (l:List co) (en:Int) (d:World) (g:Nat) (w:PA d g l en) (au:fB f) (aL:4*l.length+1<=f+1) (A: ¬(cV l).k=3) (z: ¬(cV l).k=4) (F: ¬(cV l).k=1) (af:dB vy l=false) (ae:dB xr l=false) (y:dB n_ l=true) (q:List co) (n:Int) (ad:cv f 1 l.tail= .error (q,n)):Calls prog 229 #[.pointer (some ⟨g,0,none⟩)] d (rn g en d (dr (f+1) l)):=by
 have aj:=G (jK (f:=f) A z F (by rw[af,ae];rfl));have J:=G (aa d (.cells #[.int .i64 0, .string ⟨#[]⟩, .string ⟨#[]⟩, .string ⟨#[]⟩, .int .i64 0, .slice none 0 0] 206));have ao:=G (aq d 206 #[.int .i64 0, .string ⟨#[]⟩, .string ⟨#[]⟩, .string ⟨#[]⟩, .int .i64 0, .slice none 0 0]);have R:=G (eY g _ en _ (w.ext J.out));have aB:=G w;have aK:=w.lt;clear w;have al:=G (show dr (f+1) l=(cv f 1 l.tail).then λx r=>(cF l7 r).then λ_ r=> .ok (x,r)from by rw[aj.out];unfold cF;rw[y];rfl);have ar:4*l.tail.length+2<=f:=by have:=bK y;omega
 clear aj;have az:=G (show dr (f+1) l= .error (q,n)from by rw[al.out,ad];rfl);clear al;generalize cV l=t at*;obtain⟨k,tx,v,fr⟩:=t;simp only at A z F R;have aN:(k==3)=false:=Qn.2 A;have aM:(k==4)=false:=Qn.2 z;have aO:(k==1)=false:=Qn.2 F;go_enter func229,ntmps229;go_wp2_with (first|(go_at_call 158;refine R.out.mono ?_;rintro e ac ⟨rfl,a⟩;have aI:d.heap.size<ac.heap.size:=(by have:=ao.out.lt;have:=dm a;omega);have I:=G (a.alloc' (.cells #[.int .i64 k, .string (ak tx), .int .i64 v, .int .i64 fr] 188));have Z:=G (ao.out.ext I.out);have ay:=G (aq ac 188 #[.int .i64 k, .string (ak tx), .int .i64 v, .int .i64 fr]);have u:=Z.out.cell;have o:=Z.out.frozen;have ap:d.heap.size≠g:=Qa;have aJ:g≠d.heap.size:=Qa;clear a R;have M:=G ((aB.out.ext J.out).ext I.out))|(go_at_call 157;refine(ir g _ en vy _ M.out).mono ?_;rw[af];rintro e aH ⟨rfl,a⟩;have aw:=G (I.out.trans a);have K:=G (M.out.ext a);have X:=G (Z.out.ext a);have ax:=G (ay.out.ext a);clear u o;have u:=X.out.cell;have o:=X.out.frozen;clear M)|(go_at_call 157;refine(ir g _ en xr _ K.out).mono ?_;rw[ae];rintro e aG ⟨rfl,a⟩;have av:=G (aw.out.trans a);have an:=G (K.out.ext a);have V:=G (X.out.ext a);have aP:=G (ax.out.ext a);clear u o;have u:=V.out.cell;have o:=V.out.frozen;clear K)|(go_at_call 99;refine(eW g _ en n_ _ an.out y).mono ?_;rintro e aF ⟨rfl,ai,H⟩;have aA:=G ai;have aD:=G (am ((J.out.trans av.out).grownBy _) H);have aQ:=G (V.out.grown H (λe=>ap (ab e)));clear ai H an)|(go_at_call 204;refine(au 1 _ en _ g aA.out Qd Qd ar).mono ?_;intro e aE ag;rw[ad]at ag;obtain⟨ah,rfl⟩:=ag;unfold a_;have aC:=G (am aD.out ah);clear ah));exact⟨rfl,ic az.out aC.out⟩
theorem yG (f:Nat) (l:List co) (en:Int) (d:World) (g:Nat) (A:PA d g l en) (aG:fB f) (aY:4*l.length+1<=f+1) (I: ¬(cV l).k=3) (H: ¬(cV l).k=4) (J: ¬(cV l).k=1) (ao:dB vy l=false) (an:dB xr l=false) (F:dB n_ l=true) (x:Ex) (q:List co) (ai:cv f 1 l.tail= .ok (x,q)) (aj:dB l7 q=false):Calls prog 229 #[.pointer (some ⟨g,0,none⟩)] d (rn g en d (dr (f+1) l)):=by
 have av:=G (jK (f:=f) I H J (by rw[ao,an];rfl));have V:=G (aa d (.cells #[.int .i64 0, .string ⟨#[]⟩, .string ⟨#[]⟩, .string ⟨#[]⟩, .int .i64 0, .slice none 0 0] 206));have aB:=G (aq d 206 #[.int .i64 0, .string ⟨#[]⟩, .string ⟨#[]⟩, .string ⟨#[]⟩, .int .i64 0, .slice none 0 0]);have ac:=G (eY g _ en _ (A.ext V.out));have aN:=G A;have aX:=A.lt;clear A;have aw:=G (show dr (f+1) l=(cv f 1 l.tail).then λx r=>(cF l7 r).then λ_ r=> .ok (x,r)from by rw[av.out];unfold cF;rw[F];rfl);have aE:4*l.tail.length+2<=f:=by have:=bK F;omega
 clear av;have aL:=G (show dr (f+1) l= .error (q,3)from by rw[aw.out,ai];show(cF l7 q).then (λ_ r=>(Except.ok (x,r):PR Ex))=_;unfold cF;rw[aj];rfl);clear aw;generalize cV l=t at*;obtain⟨k,tx,v,fr⟩:=t;simp only at I H J ac;have a1:(k==3)=false:=Qn.2 I;have aZ:(k==4)=false:=Qn.2 H;have a2:(k==1)=false:=Qn.2 J;go_enter func229,ntmps229;go_wp2_with (first|(go_at_call 158;refine ac.out.mono ?_;rintro e ag ⟨rfl,a⟩;have aV:d.heap.size<ag.heap.size:=(by have:=aB.out.lt;have:=dm a;omega);have R:=G (a.alloc' (.cells #[.int .i64 k, .string (ak tx), .int .i64 v, .int .i64 fr] 188));have af:=G (aB.out.ext R.out);have aK:=G (aq ag 188 #[.int .i64 k, .string (ak tx), .int .i64 v, .int .i64 fr]);have z:=af.out.cell;have y:=af.out.frozen;have al:d.heap.size≠g:=Qa;have aW:g≠d.heap.size:=Qa;clear a ac;have Z:=G ((aN.out.ext V.out).ext R.out))|(go_at_call 157;refine(ir g _ en vy _ Z.out).mono ?_;rw[ao];rintro e aT ⟨rfl,a⟩;have aI:=G (R.out.trans a);have X:=G (Z.out.ext a);have ae:=G (af.out.ext a);have aJ:=G (aK.out.ext a);clear z y;have z:=ae.out.cell;have y:=ae.out.frozen;clear Z)|(go_at_call 157;refine(ir g _ en xr _ X.out).mono ?_;rw[an];rintro e aS ⟨rfl,a⟩;have aH:=G (aI.out.trans a);have az:=G (X.out.ext a);have ad:=G (ae.out.ext a);have a4:=G (aJ.out.ext a);clear z y;have z:=ad.out.cell;have y:=ad.out.frozen;clear X)|(go_at_call 99;refine(eW g _ en n_ _ az.out F).mono ?_;rintro e aC ⟨rfl,au,M⟩;have ay:=G au;have aQ:=G (am ((V.out.trans aH.out).grownBy _) M);have aA:=G (ad.out.grown M (λe=>al (ab e)));clear au M az)|(go_at_call 204;refine(aG 1 _ en _ g ay.out Qd Qd aE).mono ?_;intro e u ap;rw[ai]at ap;obtain⟨o,w,n,c,rfl,ar,K⟩:=ap;have aP:=G (ef (am aQ.out o) ((aa u (.cells #[.int .i64 x.k, .string (ak x.op), .string (ak x.nm), .string (ak x.tx), .int .i64 x.v, .slice w n c] 206)).grownBy (some d.heap.size)) (ah _));have a6:=G ((aA.out.grown o (λe=>al (ab e))).alloc (.cells #[.int .i64 x.k, .string (ak x.op), .string (ak x.nm), .string (ak x.tx), .int .i64 x.v, .slice w n c] 206));have a3:=G (aq u 206 #[.int .i64 x.k, .string (ak x.op), .string (ak x.nm), .string (ak x.tx), .int .i64 x.v, .slice w n c]);have aM:=G (K.ext (aa u (.cells #[.int .i64 x.k, .string (ak x.op), .string (ak x.nm), .string (ak x.tx), .int .i64 x.v, .slice w n c] 206)));have aD:d.heap.size+1<=aC.heap.size:=aA.out.lt;have a5:=G (ar.keep (.of_ext (aa u (.cells #[.int .i64 x.k, .string (ak x.op), .string (ak x.nm), .string (ak x.tx), .int .i64 x.v, .slice w n c] 206))) (λb aF _=>ax aD aF));have aU:u.heap.size≠g:=(by have:=K.lt;omega);clear o ar K ay)|(go_at_call 99;refine(gX g _ en l7 _ aM.out aj).mono ?_;unfold a_;rintro e aR ⟨rfl,o⟩;have aO:=G (am aP.out o);clear o));exact⟨rfl,ic aL.out aO.out⟩
theorem AU (f:Nat) (l:List co) (en:Int) (d:World) (g:Nat) (H:PA d g l en) (aN:fB f) (ba:4*l.length+1<=f+1) (M: ¬(cV l).k=3) (K: ¬(cV l).k=4) (R: ¬(cV l).k=1) (av:dB vy l=false) (au:dB xr l=false) (J:dB n_ l=true) (x:Ex) (q:List co) (ao:cv f 1 l.tail= .ok (x,q)) (ar:dB l7 q=true):Calls prog 229 #[.pointer (some ⟨g,0,none⟩)] d (rn g en d (dr (f+1) l)):=by
 have aA:=G (jK (f:=f) M K R (by rw[av,au];rfl));have ac:=G (aa d (.cells #[.int .i64 0, .string ⟨#[]⟩, .string ⟨#[]⟩, .string ⟨#[]⟩, .int .i64 0, .slice none 0 0] 206));have aH:=G (aq d 206 #[.int .i64 0, .string ⟨#[]⟩, .string ⟨#[]⟩, .string ⟨#[]⟩, .int .i64 0, .slice none 0 0]);have af:=G (eY g _ en _ (H.ext ac.out));have aY:=G H;have aL:=H.lt;clear H;have aB:=G (show dr (f+1) l=(cv f 1 l.tail).then λx r=>(cF l7 r).then λ_ r=> .ok (x,r)from by rw[aA.out];unfold cF;rw[J];rfl);have aM:4*l.tail.length+2<=f:=by have:=bK J;omega
 clear aA;have aW:=G (show dr (f+1) l= .ok (x,q.tail)from by rw[aB.out,ao];show(cF l7 q).then (λ_ r=>(Except.ok (x,r):PR Ex))=_;unfold cF;rw[ar];rfl);clear aB;generalize cV l=t at*;obtain⟨k,tx,v,fr⟩:=t;simp only at M K R af;have bc:(k==3)=false:=Qn.2 M;have bb:(k==4)=false:=Qn.2 K;have bd:(k==1)=false:=Qn.2 R;go_enter func229,ntmps229;go_wp2_with (first|(go_at_call 158;refine af.out.mono ?_;rintro e an ⟨rfl,a⟩;have a8:d.heap.size<an.heap.size:=(by have:=aH.out.lt;have:=dm a;omega);have Z:=G (a.alloc' (.cells #[.int .i64 k, .string (ak tx), .int .i64 v, .int .i64 fr] 188));have al:=G (aH.out.ext Z.out);have aT:=G (aq an 188 #[.int .i64 k, .string (ak tx), .int .i64 v, .int .i64 fr]);have y:=al.out.cell;have w:=al.out.frozen;have I:d.heap.size≠g:=Qa;have a9:g≠d.heap.size:=Qa;clear a af;have ae:=G ((aY.out.ext ac.out).ext Z.out))|(go_at_call 157;refine(ir g _ en vy _ ae.out).mono ?_;rw[av];rintro e a6 ⟨rfl,a⟩;have aP:=G (Z.out.trans a);have ad:=G (ae.out.ext a);have aj:=G (al.out.ext a);have aS:=G (aT.out.ext a);clear y w;have y:=aj.out.cell;have w:=aj.out.frozen;clear ae)|(go_at_call 157;refine(ir g _ en xr _ ad.out).mono ?_;rw[au];rintro e a5 ⟨rfl,a⟩;have aO:=G (aP.out.trans a);have aF:=G (ad.out.ext a);have ai:=G (aj.out.ext a);have be:=G (aS.out.ext a);clear y w;have y:=ai.out.cell;have w:=ai.out.frozen;clear ad)|(go_at_call 99;refine(eW g _ en n_ _ aF.out J).mono ?_;rintro e aI ⟨rfl,A,o⟩;have aD:=G A;have a2:=G (am ((ac.out.trans aO.out).grownBy _) o);have aG:=G (ai.out.grown o (λe=>I (ab e)));clear A o aF)|(go_at_call 204;refine(aN 1 _ en _ g aD.out Qd Qd aM).mono ?_;intro e z aw;rw[ao]at aw;obtain⟨X,u,n,c,rfl,az,V⟩:=aw;have a1:=G (ef (am a2.out X) ((aa z (.cells #[.int .i64 x.k, .string (ak x.op), .string (ak x.nm), .string (ak x.tx), .int .i64 x.v, .slice u n c] 206)).grownBy (some d.heap.size)) (ah _));have a3:=G ((aG.out.grown X (λe=>I (ab e))).alloc (.cells #[.int .i64 x.k, .string (ak x.op), .string (ak x.nm), .string (ak x.tx), .int .i64 x.v, .slice u n c] 206));have aR:=G (aq z 206 #[.int .i64 x.k, .string (ak x.op), .string (ak x.nm), .string (ak x.tx), .int .i64 x.v, .slice u n c]);have aC:=G (V.ext (aa z (.cells #[.int .i64 x.k, .string (ak x.op), .string (ak x.nm), .string (ak x.tx), .int .i64 x.v, .slice u n c] 206)));have aJ:d.heap.size+1<=aI.heap.size:=aG.out.lt;have aV:=G (az.keep (.of_ext (aa z (.cells #[.int .i64 x.k, .string (ak x.op), .string (ak x.nm), .string (ak x.tx), .int .i64 x.v, .slice u n c] 206))) (λb F _=>ax aJ F));have aK:z.heap.size≠g:=(by have:=V.lt;omega);clear X az V aD)|(go_at_call 99;refine(eW g _ en l7 _ aC.out ar).mono ?_;rintro e a4 ⟨rfl,A,o⟩;have aX:=G A;have aZ:=G (am a1.out o);have ag:=G (a3.out.grown o (λe=>I (ab e)));have aQ:=G (aR.out.grown o (λe=>aK (ab e)));have aU:=G (aV.out.keep (.of_grown o λb F e=>by injection e with e;omega) (λb F _=>F));clear y w;have y:=ag.out.cell;have w:=ag.out.frozen;have a7:=aQ.out.cell;clear A o aC));obtain⟨ap,ay⟩:=lM (x) x.k (ak x.op) (ak x.nm) (ak x.tx) x.v u n c aW.out rfl rfl rfl rfl rfl rfl ag.out aZ.out aX.out aL aU.out;simp only[World.setCells,aE,Nat.reduceAdd]at ap ay;exact bodyPost_ret (v:= .agg #[.int .i64 x.k, .string (ak x.op), .string (ak x.nm), .string (ak x.tx), .int .i64 x.v, .slice u n c]) (by simp[results,results229,go_sem,ap]) rfl ay
theorem yC (f:Nat) (o:fB f) (u:rX f) (w:jF f):rX (f+1):=by
 intro l en a g d h;by_cases hk3:(cV l).k=3
 ·exact AL f l en a g d hk3
 by_cases hk4:(cV l).k=4
 ·exact AK f l en a g d hk4
 by_cases hk1:(cV l).k=1
 ·exact yD f l en a g d w h hk1
 cases hmi:dB vy l with
 |true=>exact we f l en a g d u h hk3 hk4 hk1 hmi
 |false=>
  cases hno:dB xr l with
  |true=>exact AM f l en a g d u h hk3 hk4 hk1 hmi hno
  |false=>
   cases hlp:dB n_ l with
   |false=>exact yH f l en a g d o h hk3 hk4 hk1 hmi hno hlp
   |true=>
    cases hx:cv f 1 l.tail with
    |error p=>exact yF f l en a g d o h hk3 hk4 hk1 hmi hno hlp p.1 p.2 hx
    |ok p=>
     cases hrp:dB l7 p.2 with
     |false=>exact yG f l en a g d o h hk3 hk4 hk1 hmi hno hlp p.1 p.2 hx hrp
     |true=>exact AU f l en a g d o h hk3 hk4 hk1 hmi hno hlp p.1 p.2 hx hrp
structure Fr (base g px:Nat) (w w':World):Prop where
 os:w'.os=w.os
 tape:w'.tape=w.tape
 output:w'.output=w.output
 size:w.heap.size<=w'.heap.size
 block: ∀k,k<base->k≠g->k≠px->w'.heap[k]? =w.heap[k]?
theorem Fr.trans {base g d:Nat} {w b c:World} (a:Fr base g d w b) (k:Fr base g d b c):Fr base g d w c:=
 ⟨k.os.trans a.os,k.tape.trans a.tape,k.output.trans a.output,ax a.size k.size,λi h u o=>(k.block i h u o).trans (a.block i h u o)⟩
theorem Fr.of_grown {base g h:Nat} {d w':World} {row:Option Nat} (a:d.grownBy w' row) (w:base<=d.heap.size) (o: ∀k,row=some k->k=g\/k=h\/base<=k):Fr base g h d w':=
 ⟨a.os,a.tape,a.output,a.size,λk u z y=>a.block k Qa (λe=>by rcases o k e.symm with a|a|a<;>omega)⟩
theorem Fr.grown {base g o:Nat} {w0 h w':World} (a:w0.grownBy h (some g)) (d:Fr base g o h w') (y:w0.heap.size<=o) (z:w0.heap.size<=base):w0.grownBy w' (some g):=
 ⟨d.os.trans a.os,d.tape.trans a.tape,d.output.trans a.output,ax a.size d.size,λk w u=>(d.block k Qa (λe=>u (by rw[e])) Qa).trans (a.block k w u)⟩
theorem Fr.blk {base g d k:Nat} {t:TypeId} {h:Array Value} {a w':World} (z:Fr base g d a w') (u:aM a k t h) (o:k<base) (y:k≠g) (w:k≠d):aM w' k t h:=(z.block k o y w).trans u
theorem Jj:mY prog 144 206 6 88 (.agg #[.int .i64 0, .string ⟨#[]⟩, .string ⟨#[]⟩, .string ⟨#[]⟩, .int .i64 0, .slice none 0 0]):=⟨underlying144,by kernel_rfl,by rfl,by decide⟩
theorem xu {y:World} {base w n J:Nat} {e:TypeId} {xs:List Value} {Z X V R M K:Value} (aa:y.ownsRow base e 6 (.slice (some ⟨w,0,none⟩) (n+1) J) (n+1) (xs++[Z,X,V,R,M,K])) (ab:xs.length=n*6) (u b c o f i:Value):
  (y.setCells w (n*6) [u,b,c,o,f,i]).ownsRow base e 6 (.slice (some ⟨w,0,none⟩) (n+1) J) (n+1) (xs++[u,b,c,o,f,i]):=by
 have a: ∀(d:List Value) (j:Nat) (h:Value),(xs++d).set (n*6+j) h=xs++d.set j h:=λd j h=>by
  rw[List.set_append,if_neg Qa]
  congr 2
  omega
 have I:=(aa.stored (n*6+0) u).1;rw[a]at I;have H:=(I.stored (n*6+1) b).1;rw[a]at H;have G:=(H.stored (n*6+2) c).1;rw[a]at G;have F:=(G.stored (n*6+3) o).1;rw[a]at F;have A:=(F.stored (n*6+4) f).1;rw[a]at A;have z:=(A.stored (n*6+5) i).1;rw[a]at z;exact z
theorem fu (a:World) (d i:Nat) (v:Value):a.grownBy (a.setCell ⟨d,i,none⟩ v) (some d):=d_ d [v] i a
theorem Ju {d:World} {base a h n J:Nat} {e t:TypeId} {xs:List Value} {Z X V R M K G F A z y aa:Value} (ae:d.ownsRow base e 6 (.slice (some ⟨a,0,none⟩) (n+1) J) (n+1) (xs++[Z,X,V,R,M,K])) (ad:xs.length=n*6) (ac:aM d h t #[G,F,A,z,y,aa]) (I:h≠a) (u b c o f i v:Value):
  ((d.setCells a (n*6) [u,b,c,o,f,i]).setCell ⟨h,5,none⟩ v).ownsRow base e 6 (.slice (some ⟨a,0,none⟩) (n+1) J) (n+1) (xs++[u,b,c,o,f,i])/\aM ((d.setCells a (n*6) [u,b,c,o,f,i]).setCell ⟨h,5,none⟩ v) h t #[G,F,A,z,y,v]/\Fr d.heap.size a h d ((d.setCells a (n*6) [u,b,c,o,f,i]).setCell ⟨h,5,none⟩ v):=by
 have w:=d_ a [u,b,c,o,f,i] (n*6) d;have H:=fu (d.setCells a (n*6) [u,b,c,o,f,i]) h 5 v;refine⟨World.ownsRow.kept (xu ae ad u b c o f i) H (.inr λe=> ?_),?_,(Fr.of_grown w (ah _) (λk e=> .inl (ab e).symm)).trans (Fr.of_grown H w.size (λk e=> .inr (.inl (ab e).symm)))⟩
 ·have e:a=h:=ab e;exact I e.symm
 ·have:=(ac.grown w (λe=>I (ab e))).set 5 v;simpa using this
theorem Jt {d:World} {base h a n J:Nat} {e t:TypeId} {xs:List Value} {Z X V R M K G F A z y aa:Value} (ae:d.ownsRow base e 6 (.slice (some ⟨h,0,none⟩) (n+1) J) (n+1) (xs++[Z,X,V,R,M,K])) (ad:xs.length=n*6) (ac:aM d a t #[G,F,A,z,y,aa]) (H:a≠h) (u b c o f i v:Value):
  ((d.setCell ⟨a,5,none⟩ v).setCells h (n*6) [u,b,c,o,f,i]).ownsRow base e 6 (.slice (some ⟨h,0,none⟩) (n+1) J) (n+1) (xs++[u,b,c,o,f,i])/\aM ((d.setCell ⟨a,5,none⟩ v).setCells h (n*6) [u,b,c,o,f,i]) a t #[G,F,A,z,y,v]/\Fr d.heap.size h a d ((d.setCell ⟨a,5,none⟩ v).setCells h (n*6) [u,b,c,o,f,i]):=by
 have w:=fu d a 5 v;have I:=d_ h [u,b,c,o,f,i] (n*6) (d.setCell ⟨a,5,none⟩ v);refine⟨xu (World.ownsRow.kept ae w (.inr λe=> ?_)) ad u b c o f i,?_,(Fr.of_grown w (ah _) (λk e=> .inr (.inl (ab e).symm))).trans (Fr.of_grown I w.size (λk e=> .inl (ab e).symm))⟩
 ·have e:h=a:=ab e;exact H e.symm
 ·have:=(ac.set 5 v).grown I (λe=>H (ab e));simpa using this
theorem ik.snocK {h w':World} {base:Nat} {e:TypeId} {v:Value} {l:List (Ex×Value)} {x:Ex} {w:Value} {d n u:Nat} (H:ik h base e v l) (ha:dL h (λb=>base<=b/\some b≠v.ownBlock) w x.args) (G:l.length=n)
  (F:w'.ownsRow base e 6 (.slice (some ⟨d,0,none⟩) (n+1) u) (n+1) (gR l++yX x w)) (z:dE (λb=>base<=b/\some b≠v.ownBlock) h w') (o:some d=v.ownBlock\/d=h.heap.size):
  ik w' base e (.slice (some ⟨d,0,none⟩) (n+1) u) (l++[(x,w)]):=by
 subst G;have y: ∀b,(base<=b/\some b≠v.ownBlock)->b<h.heap.size->(base<=b/\some b≠Value.ownBlock (.slice (some ⟨d,0,none⟩) (l.length+1) u)):=λb A I=>by
  refine⟨A.1,λe=> ?_⟩;have e:b=d:=ab e;rcases o with o|o
  ·exact A.2 (by rw[e,o])
  ·omega
 refine⟨by rw[ac,rN];simpa[gR]using F,λp a=> ?_⟩;rcases List.mem_append.1 a with a|a
 ·exact(H.2 p a).keep z y
 ·rw[cH]at a;subst a;exact ha.keep z y
theorem D6 {a w h W:World} {base g o u n F cap' m:Nat} {C af:Option Addr} {c:Nat} {nm:List UInt8} {G:List (Ex×Value)} {x:Ex} {q:List co} {en:Int} (ag:G.length=n) (am:base<=a.heap.size) (aE:g<o) (aD:o<base)
  (X:a.grownBy w (some g)) (aq:ik w base 206 (.slice C n F) G) (aw:dL w (λb=>a.heap.size<=b) (.slice af m c) x.args) (av:PA w g q en) (ar:ik a base 206 (.slice C n F) G)
  (J:w.grownBy h (Value.ownBlock (.slice C n F))) (V:some u=Value.ownBlock (.slice C n F)\/u=w.heap.size)
  (ao:W.ownsRow base 206 6 (.slice (some ⟨u,0,none⟩) (n+1) cap') (n+1) (gR G++yX x (.slice af m c))) (an:aM W o 206 #[.int .i64 5, .string ⟨#[]⟩, .string (ak nm), .string ⟨#[]⟩, .int .i64 0, .slice (some ⟨u,0,none⟩) (n+1) cap'])
  (d:Fr h.heap.size u o h W):
  Fr base g o a W/\PA W g q en/\ ∃ae cap' ad,aM W o 206 #[.int .i64 5, .string ⟨#[]⟩, .string (ak nm), .string ⟨#[]⟩, .int .i64 0, .slice ae (n+1) cap']/\ik W base 206 (.slice ae (n+1) cap') (G++[(x,ad)]):=by
 have I: ∀k,Value.ownBlock (.slice C n F)=some k->base<=k/\k<a.heap.size:=λk K=>World.ownsRow.lt ar.1 k K;have aF:base<=u:=by
  have:=X.size;rcases V with A|A
  ·exact(I u A.symm).1
  ·omega
 have aC:=X.size;have aB:=J.size;have z:Fr base g o a h:=(Fr.of_grown X am (λk e=>by injection e with e;omega)).trans (Fr.of_grown J Qa (λk e=>by have:=I k e;omega));have au:Fr base g o a W:=⟨d.os.trans z.os,d.tape.trans z.tape,d.output.trans z.output,ax z.size d.size,λk K ay ac=>(d.block k Qa Qa ac).trans (z.block k K ay ac)⟩
 have ap:=av.grown J (λk e=>by have:=I k e;omega);refine⟨au,?_,_,cap',_,an,aq.snocK (aw.mono λb y _=>⟨by omega,λe=>by have:=I b e.symm;omega⟩) ag ao ⟨by have:=d.size;omega,λb ab y=> ?_⟩ V⟩
 ·obtain⟨aA,c1,y,R,Z⟩:=ap;have aa: ∀k,k<=g->k<h.heap.size->W.heap[k]? =h.heap[k]? :=λk K ai=>d.block k ai Qa Qa;refine⟨aA,c1,(aa g (ah _) y.lt).trans y,⟨R.le,R.max,?_⟩,Z⟩;by_cases hl:q=[]
  ·exact .inl hl
  rcases R.rd with az|⟨b,off,ha,hlt,hc⟩
  ·exact absurd az hl
  ·have al:=aa b (by have:=Z b off ha hl;omega) hlt;have M: ∀H,W.cell? ⟨b,H,none⟩=h.cell? ⟨b,H,none⟩:=λH=>World.cell?_of_block (w:=h) (a:=⟨b,H,none⟩) al;exact .inr ⟨b,off,ha,by have:=d.size;omega,λi aj=>let⟨q0,q1,q2,q3⟩:=hc i aj;⟨(M _).trans q0,(M _).trans q1,(M _).trans q2,(M _).trans q3⟩⟩
 ·refine(d.block b Qa (λe=> ?_) Qa).trans (J.block b y ab.2);rcases V with A|A
  ·exact ab.2 (by rw[e,A])
  ·omega
theorem Gf (f:Nat) (a6:fB f) (base g V ag:Nat) (nm:List UInt8) (l:List co) (en:Int) (J:World) (al:List (Ex×Value)) (C:Option Addr) (n aA:Nat)
  (ay:PA J g l en) (ah:aM J ag 122 #[.pointer (some ⟨g,0,none⟩)]) (Z:aM J V 206 #[.int .i64 5, .string ⟨#[]⟩, .string (ak nm), .string ⟨#[]⟩, .int .i64 0, .slice C n aA])
  (aN:ik J base 206 (.slice C n aA) al) (ao:al.length=n) (a2:base<=J.heap.size) (aX:g<V) (bu:g<ag) (bl:ag≠V) (aV:V<base) (bn:ag<base) (aY:4*l.length+2<=f) (bq:n<=100000)
  (x:Ex) (q:List co) (aZ:cv f 1 l= .ok (x,q)):
  Calls prog 248 #[.pointer (some ⟨V,0,none⟩), .pointer (some ⟨ag,0,none⟩)] J λe w'=>e= .returned (.tuple #[])/\Fr base g V J w'/\PA w' g q en/\
   ∃d cap' w,aM w' V 206 #[.int .i64 5, .string ⟨#[]⟩, .string (ak nm), .string ⟨#[]⟩, .int .i64 0, .slice d (n+1) cap']/\ik w' base 206 (.slice d (n+1) cap') (al++[(x,w)]):=by
 have bc:=G ay;have aP:=G ah;have aD:=G Z;have aE:=G aN;have bt:g<J.heap.size:=ay.lt;have ar:V≠g:=Qa
 have aK:ag≠g:=Qa
 clear ay ah Z aN;go_enter func248,ntmps248
 refine kR 6 0 [(3,λv=> ∃I n c,v= .agg #[.int .i64 x.k, .string (ak x.op), .string (ak x.nm), .string (ak x.tx), .int .i64 x.v, .slice I n c],λv am=> ∀I n c,v= .agg #[.int .i64 x.k, .string (ak x.op), .string (ak x.nm), .string (ak x.tx), .int .i64 x.v, .slice I n c]->dL am (λb=>J.heap.size<=b) (.slice I n c) x.args/\PA am g q en),
   (5,λv=> ∃F,v= .slice (some ⟨F,0,none⟩) 1 1,λv am=> ∀F,v= .slice (some ⟨F,0,none⟩) 1 1->J.heap.size<=F/\aM am F 206 #[.int .i64 0, .string ⟨#[]⟩, .string ⟨#[]⟩, .string ⟨#[]⟩, .int .i64 0, .slice none 0 0])] 3 (some g) mixed Qb
  ⟨λ_ _ _ H Z I n c e=>⟨(H I n c e).1.keep (.of_ext Z) (λ_ ah _=>ah),(H I n c e).2.ext Z⟩,λ_ _ _ H Z F e=>⟨(H F e).1,(H F e).2.ext Z⟩,trivial⟩
  ⟨.inl rfl, .inr λ_ _ _ H Z F e=>⟨(H F e).1,(H F e).2.grown Z (λaO=>by have:=(H F e).1;injection aO with aO;omega)⟩,trivial⟩ ?_
 repeat (refine sx ?_ (λaR X=> ?_) ?_;rotate_left;(focus have u:=(aD.out.grown (aJ X) (λe=>ar (ab e))).cell;have o:=(aP.out.grown (aJ X) (λe=>aK (ab e))).cell;clear X;go_simp<;>with_reducible rfl);simp only[bA,bx,bw,br,bo])
 refine dD _ _ Qf rfl ⟨_,none,0,0,rfl⟩ rfl (λan aw ae ba az=> ?_) ?_
 ·clear ae;have a1:=a6 1 l en an g (bc.out.ext aw.un) Qd Qd aY;have bb:=G aw.un;clear aw;go_simp;refine a1.mono ?_;intro e be aI;rw[aZ]at aI;obtain⟨a5,I,n,c,rfl,a3,a4⟩:=aI;exact az _ _ a5 ⟨_,_,_,rfl⟩ (λad bf c' e=>by injection e with e;simp only[fX,dM,eR,and_true,true_and]at e;obtain⟨rfl,rfl,rfl⟩:=e;exact⟨a3.mono (λb ah _=>ax (dm bb.out) ah),a4⟩)
 rintro _ ⟨I,m,c,rfl⟩;simp only[bA,bx,bw,br,bo];repeat (refine sx ?_ (λaR X=> ?_) ?_;rotate_left;(focus have u:=(aD.out.grown (aJ X) (λe=>ar (ab e))).cell;have o:=(aP.out.grown (aJ X) (λe=>aK (ab e))).cell;clear X;go_simp<;>with_reducible rfl);simp only[bA,bx,bw,br,bo])
 refine cS _ _ Qf rfl ⟨_,0,rfl⟩ Qe (λan X ae ba az=> ?_) ?_
 ·have aS:=(aJ X).size;clear ae X;go_simp;exact az _ _ (aa an _) ⟨_,rfl⟩ (λF e=>by injection e with e;injection e with e;injection e with e;subst e;exact⟨aS,aq an _ _⟩)
 rintro _ ⟨F,rfl⟩;simp only[bA,bx,bw,br,bo];intro bd aU ae;obtain⟨bi,a7⟩:=ae _ (.head _) F rfl;obtain⟨a9,a8⟩:=ae _ (.tail _ (.head _)) I m c rfl;clear ae;have ap:=aJ aU;have aT:=aD.out.grown ap (λe=>ar (ab e));have aL:=aE.out.grown ap (λk e=>by injection e with e;omega);have bh:=ap.size;refine fU [6] Qb Qe (λi a=> ?_);obtain rfl:i=6:=by simpa using a
 refine eo rfl Qf ?_;refine xf Jj _ _ rfl base _ n (gR al) rfl (by rw[<-ao];exact ao▸aL.1) F [.int .i64 0, .string ⟨#[]⟩, .string ⟨#[]⟩, .string ⟨#[]⟩, .int .i64 0, .slice none 0 0] rfl a7 rfl Qd Qa Qd Qa ?_;intro ad cap' aQ ac av aF;have bp:(n:Int)<(n:Int)+1:=Qa
 have aH:(gR al).length=n*6:=by rw[nJ,ao]
 have af: ∀i,i<6->aQ.cell? ⟨ad,n*6+i,none⟩=([.int .i64 0, .string ⟨#[]⟩, .string ⟨#[]⟩, .string ⟨#[]⟩, .int .i64 0, .slice none 0 0]:List Value)[i]? :=λi a=>by
  rw[ac.cellAt (n*6+i) Qa,bD Qa]
  congr 1
  omega
 have e0:=af 0 Qa;have bM:=af 1 Qa;have bL:=af 2 Qa;have bK:=af 3 Qa;have bJ:=af 4 Qa;have bI:=af 5 Qa;have bH:=ac.frozenAt (n*6);have bG:=ac.frozenAt (n*6+1);have bF:=ac.frozenAt (n*6+2);have bE:=ac.frozenAt (n*6+3);have bC:=ac.frozenAt (n*6+4);have bB:=ac.frozenAt (n*6+5);rw[bm]at e0;have au: ∀k,Value.ownBlock (.slice C n aA)=some k->base<=k/\k<J.heap.size:=λk aW=>World.ownsRow.lt aE.out.1 k aW;have bz:base<=ad:=by
  rcases aF with H|H
  ·exact(au ad H.symm).1
  ·omega
 have aj:=aT.grown av (λe=>by have:=au V e.symm;omega);have bk:=aj.cell;have bj:=aj.frozen;have bv:ad≠V:=Qa
 have aG:V≠ad:=Qa
 have bg:=av.size;have ai:=G (λW cap'=>D6 (W:=W) (cap':=cap') (nm:=nm) ao a2 aX aV ap aL a9 a8 aE.out av aF);have aC:=G (Ju ac aH aj aG (.int .i64 x.k) (.string (ak x.op)) (.string (ak x.nm)) (.string (ak x.tx)) (.int .i64 x.v) (.slice I m c) (.slice (some ⟨ad,0,none⟩) (n+1) cap'));have aB:=G (Jt ac aH aj aG (.int .i64 x.k) (.string (ak x.op)) (.string (ak x.nm)) (.string (ak x.tx)) (.int .i64 x.v) (.slice I m c) (.slice (some ⟨ad,0,none⟩) (n+1) cap'));clear af aj au;refine fU [7,9] Qb Qe (λi a=> ?_);have a:i=7\/i=9:=by simpa using a
 rcases a with rfl|rfl
 ·refine eo rfl Qf ?_;go_simp;try simp only[bA,bx,bw,br,bo]
  refine fU [8,9] Qb Qe (λi a=> ?_);have a:i=8\/i=9:=by simpa using a
  rcases a with rfl|rfl
  ·refine eo rfl Qf ?_;go_simp;try simp only[bA,bx,bw,br,bo]
   refine fU [9] Qb Qe (λi a=> ?_);obtain rfl:i=9:=by simpa using a
   refine eo rfl Qf ?_;go_simp;try simp only[bA,bx,bw,br,bo]
   refine fU [10] Qb Qe (λi a=> ?_);obtain rfl:i=10:=by simpa using a
   refine eo rfl Qf ?_;go_simp;try simp only[bA,bx,bw,br,bo]
   refine kn Qb ?_;obtain⟨R,M,K⟩:=aC.out;have y:=ai.out _ _ R M K;simp only[World.setCells,e_,Nat.reduceAdd]at y
   go_end0
   obtain⟨u,o,d,c',w,A,z⟩:=y;first|exact⟨rfl,u,o,d,c',w,A,z⟩|exact⟨rfl,u,o,d,c',A,w,z⟩
  ·refine eo rfl Qf ?_;go_simp;try simp only[bA,bx,bw,br,bo]
   refine fU [8,10] Qb Qe (λi a=> ?_);have a:i=8\/i=10:=by simpa using a
   rcases a with rfl|rfl
   ·refine eo rfl Qf ?_;go_simp;try simp only[bA,bx,bw,br,bo]
    refine fU [10] Qb Qe (λi a=> ?_);obtain rfl:i=10:=by simpa using a
    refine eo rfl Qf ?_;go_simp;try simp only[bA,bx,bw,br,bo]
    refine kn Qb ?_;obtain⟨R,M,K⟩:=aC.out;have y:=ai.out _ _ R M K;simp only[World.setCells,e_,Nat.reduceAdd]at y
    go_end0
    obtain⟨u,o,d,c',w,A,z⟩:=y;first|exact⟨rfl,u,o,d,c',w,A,z⟩|exact⟨rfl,u,o,d,c',A,w,z⟩
   ·refine eo rfl Qf ?_;go_simp;try simp only[bA,bx,bw,br,bo]
    refine fU [8] Qb Qe (λi a=> ?_);obtain rfl:i=8:=by simpa using a
    refine eo rfl Qf ?_;go_simp;try simp only[bA,bx,bw,br,bo]
    refine kn Qb ?_;obtain⟨R,M,K⟩:=aB.out;have y:=ai.out _ _ R M K;simp only[World.setCells,e_,Nat.reduceAdd]at y
    go_end0
    obtain⟨u,o,d,c',w,A,z⟩:=y;first|exact⟨rfl,u,o,d,c',w,A,z⟩|exact⟨rfl,u,o,d,c',A,w,z⟩
 ·refine eo rfl Qf ?_;go_simp;try simp only[bA,bx,bw,br,bo]
  refine fU [7,10] Qb Qe (λi a=> ?_);have a:i=7\/i=10:=by simpa using a
  rcases a with rfl|rfl
  ·refine eo rfl Qf ?_;go_simp;try simp only[bA,bx,bw,br,bo]
   refine fU [8,10] Qb Qe (λi a=> ?_);have a:i=8\/i=10:=by simpa using a
   rcases a with rfl|rfl
   ·refine eo rfl Qf ?_;go_simp;try simp only[bA,bx,bw,br,bo]
    refine fU [10] Qb Qe (λi a=> ?_);obtain rfl:i=10:=by simpa using a
    refine eo rfl Qf ?_;go_simp;try simp only[bA,bx,bw,br,bo]
    refine kn Qb ?_;obtain⟨R,M,K⟩:=aC.out;have y:=ai.out _ _ R M K;simp only[World.setCells,e_,Nat.reduceAdd]at y
    go_end0
    obtain⟨u,o,d,c',w,A,z⟩:=y;first|exact⟨rfl,u,o,d,c',w,A,z⟩|exact⟨rfl,u,o,d,c',A,w,z⟩
   ·refine eo rfl Qf ?_;go_simp;try simp only[bA,bx,bw,br,bo]
    refine fU [8] Qb Qe (λi a=> ?_);obtain rfl:i=8:=by simpa using a
    refine eo rfl Qf ?_;go_simp;try simp only[bA,bx,bw,br,bo]
    refine kn Qb ?_;obtain⟨R,M,K⟩:=aB.out;have y:=ai.out _ _ R M K;simp only[World.setCells,e_,Nat.reduceAdd]at y
    go_end0
    obtain⟨u,o,d,c',w,A,z⟩:=y;first|exact⟨rfl,u,o,d,c',w,A,z⟩|exact⟨rfl,u,o,d,c',A,w,z⟩
  ·refine eo rfl Qf ?_;go_simp;try simp only[bA,bx,bw,br,bo]
   refine fU [7] Qb Qe (λi a=> ?_);obtain rfl:i=7:=by simpa using a
   refine eo rfl Qf ?_;go_simp;try simp only[bA,bx,bw,br,bo]
   refine fU [8] Qb Qe (λi a=> ?_);obtain rfl:i=8:=by simpa using a
   refine eo rfl Qf ?_;go_simp;try simp only[bA,bx,bw,br,bo]
   refine kn Qb ?_;obtain⟨R,M,K⟩:=aB.out;have y:=ai.out _ _ R M K;simp only[World.setCells,e_,Nat.reduceAdd]at y
   go_end0
   obtain⟨u,o,d,c',w,A,z⟩:=y;first|exact⟨rfl,u,o,d,c',w,A,z⟩|exact⟨rfl,u,o,d,c',A,w,z⟩
def dx:=@Fr.of_grown
def ks:=@Fr.grown
def r5:=@ik.nil_
def tH:=@dL.one
end
end Go.Proofs.YtoedmpgicdekmaaGreatDoor
