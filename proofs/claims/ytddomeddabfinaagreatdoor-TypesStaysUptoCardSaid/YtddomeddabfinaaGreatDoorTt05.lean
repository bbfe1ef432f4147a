/- Parts of the proof. -/
import Derived.BigQuiet
import Derived.Test.YtddomeddabfinaaGreatDoorTt04
import Derived.Maps.AppendAt
import Derived.Test.YtddomeddabfinaaGreatDoorTt00
import Derived.Test.YtddomeddabfinaaGreatDoorTt01
import Derived.WalkLawsBesides
set_option maxRecDepth 100000
set_option maxHeartbeats 8000000
set_option linter.unusedVariables false
set_option linter.unusedSimpArgs false
set_option linter.defProp false
set_option linter.unusedSectionVars false
namespace Go.Proofs.YtddomeddabfinaaGreatDoor
open IntKind(i64)
open Go.Proofs.Tryz
section
open Go.RowKit
theorem ki: ∀(a:List bT) (i:Nat) (h:i<a.length) (k:Nat),k<4->(lM a)[i*4+k]? =(gN a[i])[k]?
 |t::a,0,h,k,hk=>by
  show(gN t++lM a)[0*4+k]? =(gN t)[k]?;rw[bp,aG,df (by simpa[gN]using hk)]
 |t::a,i+1,h,k,hk=>by
  have j:i<a.length:=by simpa using h
  show(gN t++lM a)[(i+1)*4+k]? =(gN a[i])[k]?;rw[cC (by simp[gN];omega),<-ki a i j k hk]
  congr 1
  simp[gN];omega
structure xB (w:World) (A:Option Addr) (cap:Nat) (ts:List bT):Prop where
 le:ts.length<=cap
 max:cap<=maxLen
 rd:ts=[]\/ ∃b off,A=some ⟨b,off,none⟩/\b<w.heap.size/\ ∀i,(h:i<ts.length)->w.cell? ⟨b,off+i*4,none⟩=some (.int i64 ts[i].k)/\w.cell? ⟨b,off+i*4+1,none⟩=some (.string (J ts[i].t))/\
  w.cell? ⟨b,off+i*4+2,none⟩=some (.int i64 ts[i].v)/\w.cell? ⟨b,off+i*4+3,none⟩=some (.int i64 ts[i].f)
theorem xB.ext {o w':World} {A:Option Addr} {z:Nat} {w:List bT} (j:xB o A z w) (a:az o w'):xB w' A z w:=
 ⟨j.le,j.max,j.rd.imp id fun⟨b,off,ha,h,K⟩=>⟨b,off,ha,aF h a.size,λi G=>
  let⟨h1,h2,h3,h4⟩:=K i G;⟨(a.cell b _ h).trans h1,(a.cell b _ h).trans h2,(a.cell b _ h).trans h3,(a.cell b _ h).trans h4⟩⟩⟩
theorem xB.at_ {a:World} {o:Option Addr} {A:Nat} {h:List bT} (z:xB a o A h) (i:Nat) (j:i<h.length):
  ∃b off,o=some ⟨b,off,none⟩/\b<a.heap.size/\a.cell? ⟨b,off+i*4,none⟩=some (.int i64 h[i].k)/\a.cell? ⟨b,off+i*4+1,none⟩=some (.string (J h[i].t))/\
  a.cell? ⟨b,off+i*4+2,none⟩=some (.int i64 h[i].v)/\a.cell? ⟨b,off+i*4+3,none⟩=some (.int i64 h[i].f):=by
 rcases z.rd with w|⟨b,off,ha,hb,hc⟩
 ·subst w;simp at j
 ·exact⟨b,off,ha,hb,hc i j⟩
theorem iR.tks {h:World} {base:Nat} {e:TypeId} {R:Option Addr} {n O:Nat} {a:List bT} (X:iR h base e (.slice R n O) a):n=a.length/\xB h R O a:=by
 rcases X.2 with⟨A,V⟩|⟨g,c,cur,A,hb,hg,hnc,hcm,hcs,ht⟩
 ·injection A with M K G;subst M K G;have:a=[]:=ax V;subst this;exact⟨rfl,by simp,by simp[maxLen],.inl rfl⟩
 ·injection A with M K G;subst M K G;refine⟨rfl,hnc,hcm,.inr ⟨g,0,rfl,(Array.getElem?_eq_some_iff.1 hg).1,λi w=> ?_⟩⟩;have z: ∀j y,(lM a)[j]? =some y->h.cell? ⟨g,j,none⟩=some y:=λj y o=>by
   rw[cell_of_row h g j cur e (0,0) hg];rw[<-ht,bL]at o;split at o
   ·simpa using o
   ·cases o
  have ad:=ki a i w 0 Qa;have ac:=ki a i w 1 Qa;have ab:=ki a i w 2 Qa;have I:=ki a i w 3 Qa;rw[aG];exact⟨z _ _ ad,z _ _ ac,z _ _ ab,z _ _ I⟩
theorem uI (l:List UInt8) (a:World) (j:EZ a):Calls prog 58 #[.string (J l)] a λe w'=>xA 206 a.heap.size (gG l) e w'/\az a w':=by
 by_cases hl:l.length<=100000
 ·exact uH l hl a j
 ·have z:(J l).size=l.length:=bm l;have w:=O (qJ l);have o:4000<l.length:=Qa
  have A:(4000:Int)<l.length:=Qa
  go_enter func58,ntmps58;go_wp2_with fail;exact bodyPost_ret (v:=.tuple #[.slice none 0 0,.int i64 4000,.int i64 6]) (by simp[results,results58,go_sem]) rfl ⟨by rw[w.out o];exact⟨none,0,rfl,iR.nil_ _ _ _⟩,aS _⟩
inductive c7 (w:World) (P:Nat->Prop):Value->List Ex->Prop where
 |nil (A:Option Addr) (c:Nat):c7 w P (.slice A 0 c) []
 |row (b o n c:Nat) (xs:List Ex) (av:Nat->Value) (hP:P b) (hb:b<w.heap.size) (hn:xs.length=n) (hnc:n<=c) (hm:c<=maxLen)
   (hc: ∀i,(h:i<xs.length)->w.cell? ⟨b,o+i*6,none⟩=some (.int i64 xs[i].k)/\w.cell? ⟨b,o+i*6+1,none⟩=some (.string (J xs[i].op))/\w.cell? ⟨b,o+i*6+2,none⟩=some (.string (J xs[i].nm))/\
    w.cell? ⟨b,o+i*6+3,none⟩=some (.string (J xs[i].tx))/\w.cell? ⟨b,o+i*6+4,none⟩=some (.int i64 xs[i].v)/\w.cell? ⟨b,o+i*6+5,none⟩=some (av i))
   (hs: ∀i,(h:i<xs.length)->c7 w P (av i) (Ex.args xs[i])):c7 w P (.slice (some ⟨b,o,none⟩) n c) xs
structure cR (P:Nat->Prop) (w w':World):Prop where
 size:w.heap.size<=w'.heap.size
 block: ∀b,P b->b<w.heap.size->w'.heap[b]? =w.heap[b]?
theorem cR.cell {P:Nat->Prop} {h w':World} (z:cR P h w') {b:Nat} (j:Nat) (w:P b) (o:b<h.heap.size):w'.cell? ⟨b,j,none⟩=h.cell? ⟨b,j,none⟩:=
 World.cell?_of_block (w:=h) (a:=⟨b,j,none⟩) (z.block b w o)
theorem cR.of_grown {P:Nat->Prop} {a w':World} {row:Option Nat} (h:a.grownBy w' row) (j: ∀b,P b->some b≠row):cR P a w':=⟨h.size,λb w o=>h.block b o (j b w)⟩
theorem cR.of_ext {P:Nat->Prop} {a w':World} (h:az a w'):cR P a w':=⟨h.size,λb _ j=>h.obj j⟩
theorem c7.keep {w w':World} {P Q:Nat->Prop} {v:Value} {xs:List Ex} (V:c7 w P v xs) (a:cR P w w') (j: ∀b,P b->b<w.heap.size->Q b):c7 w' Q v xs:=by
 induction V with
 |nil A c=>exact .nil A c
 |row b o n c xs av hP hb hn hnc hm hc hs ih=>
  refine .row b o n c xs av (j b hP hb) (aF hb a.size) hn hnc hm (λi h=> ?_) ih;obtain⟨R,O,M,K,G,z⟩:=hc i h;exact⟨(a.cell _ hP hb).trans R,(a.cell _ hP hb).trans O,(a.cell _ hP hb).trans M,(a.cell _ hP hb).trans K,(a.cell _ hP hb).trans G,(a.cell _ hP hb).trans z⟩
theorem c7.mono {a:World} {P Q:Nat->Prop} {v:Value} {xs:List Ex} (j:c7 a P v xs) (h: ∀b,P b->b<a.heap.size->Q b):c7 a Q v xs:=j.keep ⟨ak _,λ_ _ _=>rfl⟩ h
theorem c7.form {j:World} {P:Nat->Prop} {v:Value} {xs:List Ex} (o:c7 j P v xs): ∃a c,v=.slice a xs.length c/\(xs=[]\/xs.length<=c/\c<=maxLen/\ ∃b h,a=some ⟨b,h,none⟩/\b<j.heap.size):=by
 cases o with
 |nil a c=>exact⟨a,c,rfl,.inl rfl⟩
 |row b h n c xs av hP hb hn hnc hm hc hs=>exact⟨_,c,by rw[hn],.inr ⟨by omega,hm,b,h,rfl,hb⟩⟩
theorem c7.at_ {a:World} {P:Nat->Prop} {w:Option Addr} {n c:Nat} {xs:List Ex} (R:c7 a P (.slice w n c) xs) (i:Nat) (j:i<xs.length):
  ∃b h o,w=some ⟨b,h,none⟩/\b<a.heap.size/\P b/\a.cell? ⟨b,h+i*6,none⟩=some (.int i64 xs[i].k)/\a.cell? ⟨b,h+i*6+1,none⟩=some (.string (J xs[i].op))/\a.cell? ⟨b,h+i*6+2,none⟩=some (.string (J xs[i].nm))/\
   a.cell? ⟨b,h+i*6+3,none⟩=some (.string (J xs[i].tx))/\a.cell? ⟨b,h+i*6+4,none⟩=some (.int i64 xs[i].v)/\a.cell? ⟨b,h+i*6+5,none⟩=some o/\c7 a P o (Ex.args xs[i]):=by
 cases R with
 |nil=>simp at j
 |row b h n c xs av hP hb hn hnc hm hc hs=>
  obtain⟨O,M,K,G,A,z⟩:=hc i j;exact⟨b,h,av i,rfl,hb,hP,O,M,K,G,A,z,hs i j⟩
def uA (x:Ex) (a:Value):List Value:=[.int i64 x.k,.string (J x.op),.string (J x.nm),.string (J x.tx),.int i64 x.v,a]
def gI (l:List (Ex×Value)):List Value:=l.flatMap λp=>uA p.1 p.2
theorem nB: ∀l:List (Ex×Value),(gI l).length=l.length*6
 | []=>rfl
 |p::l=>by
  have:=nB l;simp only[gI,bx,ac,uA,ah,ai]at this⊢;omega
theorem ru (a b:List (Ex×Value)):gI (a++b)=gI a++gI b:=by simp[gI]
theorem rr: ∀(l:List (Ex×Value)) (i:Nat) (a:i<l.length) (k:Nat),k<6->(gI l)[i*6+k]? =(uA l[i].1 l[i].2)[k]?
 | [],i,a,k,hk=>by simp at a
 |p::l,0,a,k,hk=>by
  simp only[gI,bx,bp,aG,aK];rw[df (by simp[uA];omega)]
 |p::l,i+1,a,k,hk=>by
  have:=rr l i (by simpa using a) k hk;simp only[gI,bx,aV]at this⊢;rw[cC (by simp[uA];omega),<-this]
  congr 1
  simp[uA];omega
def gz (w:World) (base:Nat) (e:TypeId) (v:Value) (l:List (Ex×Value)):Prop:=
 w.ownsRow base e 6 v l.length (gI l)/\ ∀p,p∈l->c7 w (λb=>base<=b/\some b≠v.ownBlock) p.2 p.1.args
theorem gz.nil_ (a:World) (base:Nat) (e:TypeId):gz a base e (.slice none 0 0) []:=⟨World.ownsRow_nil a base e 6,λp h=>by cases h⟩
theorem gz.grown {h w':World} {base:Nat} {e:TypeId} {v:Value} {l:List (Ex×Value)} {row:Option Nat} (a:gz h base e v l) (o:h.grownBy w' row) (j: ∀k,row=some k->k<base):gz w' base e v l:=by
 refine⟨World.ownsRow.kept a.1 o ?_,λp z=> ?_⟩
 ·cases hv:v.ownBlock with
  |none=>exact .inl rfl
  |some k=>
   refine .inr λe=> ?_;have:=(World.ownsRow.lt a.1 k hv).1;have:=j k e.symm;omega
 ·exact(a.2 p z).keep (.of_grown o λb w e=>by have:=j b e.symm;omega) λb w _=>w
theorem gz.ext {a w':World} {base:Nat} {e:TypeId} {v:Value} {l:List (Ex×Value)} (o:gz a base e v l) (j:az a w'):gz w' base e v l:=o.grown (j.grownBy none) (λk h=>by cases h)
theorem gz.rd {h:World} {base:Nat} {e:TypeId} {v:Value} {l:List (Ex×Value)} (G:gz h base e v l):c7 h (λb=>base<=b) v (l.map (·.1)):=by
 rcases G.1.2 with⟨rfl,R⟩|⟨g,cap,cur,rfl,A,hg,hnc,hcm,hcs,ht⟩
 ·have:l=[]:=ax R;subst this;exact .nil _ _
 ·have M:g<h.heap.size:=(Array.getElem?_eq_some_iff.1 hg).1;have a: ∀o y,(gI l)[o]? =some y->h.cell? ⟨g,o,none⟩=some y:=λo y w=>by
   rw[cell_of_row h g o cur e (0,0) hg];rw[<-ht,bL]at w;split at w
   ·simpa using w
   ·cases w
  refine .row g 0 l.length cap _ (λi=>if G:i<l.length then l[i].2 else .slice none 0 0) A M Qd hnc hcm (λi z=> ?_) (λi z=> ?_)
  ·have j:i<l.length:=by simpa using z
   have q:=λk O=>rr l i j k O;have K:(l.map (·.1))[i]=l[i].1:=Qd
   rw[K,dif_pos j,aG];exact⟨a _ _ (q 0 Qa),a _ _ (q 1 Qa),a _ _ (q 2 Qa),a _ _ (q 3 Qa),a _ _ (q 4 Qa),a _ _ (q 5 Qa)⟩
  ·have j:i<l.length:=by simpa using z
   have K:(l.map (·.1))[i]=l[i].1:=Qd
   rw[K,dif_pos j];exact(G.2 l[i] (ay j)).mono λb A _=>A.1
theorem c7.one {o:World} {P:Nat->Prop} {j:Nat} {e:TypeId} {x:Ex} {w:Value} (h:aU o j e #[.int i64 x.k,.string (J x.op),.string (J x.nm),.string (J x.tx),.int i64 x.v,w]) (z:P j) (A:c7 o P w x.args):c7 o P (.slice (some ⟨j,0,none⟩) 1 1) [x]:=by
 refine .row j 0 1 1 [x] (λ_=>w) z h.lt rfl (ak _) (by simp[maxLen]) (λi a=> ?_) (λi a=> ?_)
 ·have a:i=0:=by simpa using a
  subst a;exact⟨h.cell 0,h.cell 1,h.cell 2,h.cell 3,h.cell 4,h.cell 5⟩
 ·have a:i=0:=by simpa using a
  subst a;exact A
theorem c7.two {j:World} {P:Nat->Prop} {o:Nat} {e:TypeId} {x y:Ex} {w b:Value} (a:aU j o e #[.int i64 x.k,.string (J x.op),.string (J x.nm),.string (J x.tx),.int i64 x.v,w,.int i64 y.k,.string (J y.op),.string (J y.nm),.string (J y.tx),.int i64 y.v,b]) (z:P o) (G:c7 j P w x.args) (A:c7 j P b y.args):c7 j P (.slice (some ⟨o,0,none⟩) 2 2) [x,y]:=by
 refine .row o 0 2 2 [x,y] (λi=>if i=0 then w else b) z a.lt rfl (ak _) (by simp[maxLen]) (λi h=> ?_) (λi h=> ?_)
 ·have h:i<2:=h;obtain rfl|rfl:i=0\/i=1:=Qa
  ·exact⟨a.cell 0,a.cell 1,a.cell 2,a.cell 3,a.cell 4,a.cell 5⟩
  ·exact⟨a.cell 6,a.cell 7,a.cell 8,a.cell 9,a.cell 10,a.cell 11⟩
 ·have h:i<2:=h;obtain rfl|rfl:i=0\/i=1:=Qa
  ·exact G
  ·exact A
structure ox (P:Program) (t e:TypeId) (size bytes:Nat) (z:Value):Prop where
 under:P.underlying t=some (.slice e)
 info:(P.info? e).map (λi=>(i.zero,i.size,i.bytes))=some (some z,size,bytes)
 cells:z.cells.size=size
 pos:0<size
theorem pK {P:Program} {w:World} {t e:TypeId} {a z:Nat} {G:Value} (o:ox P t e a z G) (K:TypeId) (base:Nat) (v:Value) (n:Nat) (xs:List Value) (ad:w.ownsRow base e a v n xs) (g:Nat) (h:List Value)
  (ah:w.heap[g]? =some (.cells h.toArray e (0,0))) (ae:h.length=a) (ak: ∀u∈h,u.oneCell'=true) (J:n<=1073741824) (ab:z<=1000) (ai:base<=w.heap.size):
  ∃A cap' w',(Builtin.append_ #[t,t] K #[v,.slice (some ⟨g,0,none⟩) 1 1]).run P w=.ok (.slice (some ⟨A,0,none⟩) (n+1) cap') w'/\w'.ownsRow base e a (.slice (some ⟨A,0,none⟩) (n+1) cap') (n+1) (xs++h)/\w.grownBy w' v.ownBlock/\
   (some A=v.ownBlock\/A=w.heap.size):=by
 obtain⟨i,ag,X,V,R⟩:=info_parts o.info;obtain⟨al,w',ac,M,aj,_,j⟩:=run_append_own_at (P:=P) w base t K e i G a z o.under ag X V R o.cells o.pos v n xs ad ⟨g,0,none⟩ 1 1 h (by rw[ae,cL])
  (λO y af=>by
   rw[Addr.add_lit,aG,cell_of_row w g O _ e (0,0) ah];simpa using af) ak Qi (by
    have:(n+1)*z<=(n+1)*1000:=gC _ ab
    omega) ai
 rcases M.2 with⟨_,an⟩|⟨g',cap',cur,rfl,hx⟩
 ·omega
 ·refine⟨g',cap',w',ac,M,aj,?_⟩;rcases j with j|j
  ·exact .inl j
  ·exact .inr (I j)
theorem eA {P:Program} {a:World} {ops:Array Oper} {rest:List Oper} {j:Oper} {z:Act} {Q:Exit->Act->World->Prop} {t e:TypeId} {w G:Nat} {K:Value} (ag:ox P t e w G K) (ac:j.guard=none) (s x:Operand)
  (I:j.op=.call {callee:=.builtin .append,args:= #[s,x],argTypes:= #[t,t]}) (base:Nat) (v:Value) (n:Nat) (xs:List Value) (R:z.eval s=v) (X:a.ownsRow base e w v n xs)
  (g:Nat) (o:List Value) (O:z.eval x=.slice (some ⟨g,0,none⟩) 1 1) (ad:a.heap[g]? =some (.cells o.toArray e (0,0))) (ab:o.length=w) (A: ∀u∈o,u.oneCell'=true) (af:n<=1073741824) (M:G<=1000) (ae:base<=a.heap.size)
  (ak: ∀h cap' w',w'.ownsRow base e w (.slice (some ⟨h,0,none⟩) (n+1) cap') (n+1) (xs++o)->a.grownBy w' v.ownBlock->(some h=v.ownBlock\/h=a.heap.size)->
   wpList P ops Q rest (z.put j.dst (.slice (some ⟨h,0,none⟩) (n+1) cap')) w'):
  wpList P ops Q (j::rest) z a:=by
 obtain⟨h,cap',w',V,A,aj,ai⟩:=pK (P:=P) (w:=a) ag j.type base v n xs X g o ad ab A af M ae;refine wpList_plain ac λal ah=> ?_;unfold Oper.wp execOp;simp only[I,resolve,invoke,builtin,Sem.run_bind,Sem.run_pure,Result.andThen_ok,dQ,bF,cY,R,O,V];exact ah _ _ (ak h cap' w' A aj ai)
theorem rQ {P:Program} {a:World} {w:Oper} {z:Act} {K:Act->World->Prop} {Q:Exit->Act->World->Prop} {t e:TypeId} {o G:Nat} {M:Value} (ag:ox P t e o G M) (s x:Operand)
  (ab:w.op=.call {callee:=.builtin .append,args:= #[s,x],argTypes:= #[t,t]}) (base:Nat) (v:Value) (n:Nat) (xs:List Value) (V:z.eval s=v) (I:a.ownsRow base e o v n xs)
  (g:Nat) (j:List Value) (R:z.eval x=.slice (some ⟨g,0,none⟩) 1 1) (ad:a.heap[g]? =some (.cells j.toArray e (0,0))) (ac:j.length=o) (A: ∀u∈j,u.oneCell'=true) (af:n<=1073741824) (O:G<=1000) (ae:base<=a.heap.size)
  (aj: ∀h cap' w',w'.ownsRow base e o (.slice (some ⟨h,0,none⟩) (n+1) cap') (n+1) (xs++j)->a.grownBy w' v.ownBlock->(some h=v.ownBlock\/h=a.heap.size)->
   K (z.put w.dst (.slice (some ⟨h,0,none⟩) (n+1) cap')) w'):
  w.wp P z a K Q:=by
 obtain⟨h,cap',w',X,A,ai,ah⟩:=pK (P:=P) (w:=a) ag w.type base v n xs I g j ad ac A af O ae;unfold Oper.wp execOp;simp only[ab,resolve,invoke,builtin,Sem.run_bind,Sem.run_pure,Result.andThen_ok,dQ,bF,cY,V,R,X];exact aj h cap' w' A ai ah
theorem gz.snoc {a w':World} {base:Nat} {e:TypeId} {v:Value} {l:List (Ex×Value)} {x:Ex} {A:Value} {j z:Nat} (R:gz a base e v l) (ha:c7 a (λb=>base<=b/\some b≠v.ownBlock) A x.args)
  (M:w'.ownsRow base e 6 (.slice (some ⟨j,0,none⟩) (l.length+1) z) (l.length+1) (gI l++uA x A)) (O:a.grownBy w' v.ownBlock) (w:some j=v.ownBlock\/j=a.heap.size):
  gz w' base e (.slice (some ⟨j,0,none⟩) (l.length+1) z) (l++[(x,A)]):=by
 have K:cR (λb=>base<=b/\some b≠v.ownBlock) a w':=.of_grown O λb o=>o.2;have G: ∀b,(base<=b/\some b≠v.ownBlock)->b<a.heap.size->(base<=b/\some b≠Value.ownBlock (.slice (some ⟨j,0,none⟩) (l.length+1) z)):=λb o V=>by
  refine⟨o.1,λe=> ?_⟩;have e:b=j:=I e;rcases w with w|w
  ·exact o.2 (by rw[e,w])
  ·omega
 refine⟨by rw[ac,ru];simpa[gI]using M,λp h=> ?_⟩;rcases List.mem_append.1 h with h|h
 ·exact(R.2 p h).keep K G
 ·rw[cP]at h;subst h;exact ha.keep K G
inductive db (w:World) (P:Nat->Prop):Value->List St->Prop where
 |nil (A:Option Addr) (c:Nat):db w P (.slice A 0 c) []
 |row (b o n c:Nat) (xs:List St) (es bs ls:Nat->Value) (hP:P b) (hb:b<w.heap.size) (hn:xs.length=n) (hnc:n<=c) (hm:c<=maxLen)
   (hc: ∀i,(h:i<xs.length)->w.cell? ⟨b,o+i*5,none⟩=some (.int i64 xs[i].k)/\w.cell? ⟨b,o+i*5+1,none⟩=some (.string (J xs[i].nm))/\w.cell? ⟨b,o+i*5+2,none⟩=some (es i)/\
    w.cell? ⟨b,o+i*5+3,none⟩=some (bs i)/\w.cell? ⟨b,o+i*5+4,none⟩=some (ls i))
   (he: ∀i,(h:i<xs.length)->c7 w P (es i) (St.ex xs[i]))
   (hs: ∀i,(h:i<xs.length)->db w P (bs i) (St.body xs[i]))
   (hl: ∀i,(h:i<xs.length)->db w P (ls i) (St.els xs[i])):db w P (.slice (some ⟨b,o,none⟩) n c) xs
theorem db.keep {w w':World} {P Q:Nat->Prop} {v:Value} {xs:List St} (R:db w P v xs) (a:cR P w w') (j: ∀b,P b->b<w.heap.size->Q b):db w' Q v xs:=by
 induction R with
 |nil A c=>exact .nil A c
 |row b o n c xs es bs ls hP hb hn hnc hm hc he hs hl ih1 ih2=>
  refine .row b o n c xs es bs ls (j b hP hb) (aF hb a.size) hn hnc hm (λi h=> ?_) (λi h=>(he i h).keep a j) ih1 ih2;obtain⟨O,M,K,G,z⟩:=hc i h;exact⟨(a.cell _ hP hb).trans O,(a.cell _ hP hb).trans M,(a.cell _ hP hb).trans K,(a.cell _ hP hb).trans G,(a.cell _ hP hb).trans z⟩
theorem db.mono {a:World} {P Q:Nat->Prop} {v:Value} {xs:List St} (j:db a P v xs) (h: ∀b,P b->b<a.heap.size->Q b):db a Q v xs:=j.keep ⟨ak _,λ_ _ _=>rfl⟩ h
theorem db.form {j:World} {P:Nat->Prop} {v:Value} {xs:List St} (o:db j P v xs): ∃a c,v=.slice a xs.length c/\(xs=[]\/xs.length<=c/\c<=maxLen/\ ∃b h,a=some ⟨b,h,none⟩/\b<j.heap.size):=by
 cases o with
 |nil a c=>exact⟨a,c,rfl,.inl rfl⟩
 |row b h n c xs es bs ls hP hb hn hnc hm hc he hs hl=>exact⟨_,c,by rw[hn],.inr ⟨by omega,hm,b,h,rfl,hb⟩⟩
theorem db.at_ {a:World} {P:Nat->Prop} {w:Option Addr} {n c:Nat} {xs:List St} (O:db a P (.slice w n c) xs) (i:Nat) (j:i<xs.length):
  ∃b h u v o,w=some ⟨b,h,none⟩/\b<a.heap.size/\P b/\a.cell? ⟨b,h+i*5,none⟩=some (.int i64 xs[i].k)/\a.cell? ⟨b,h+i*5+1,none⟩=some (.string (J xs[i].nm))/\a.cell? ⟨b,h+i*5+2,none⟩=some u/\
   a.cell? ⟨b,h+i*5+3,none⟩=some v/\a.cell? ⟨b,h+i*5+4,none⟩=some o/\c7 a P u (St.ex xs[i])/\db a P v (St.body xs[i])/\db a P o (St.els xs[i]):=by
 cases O with
 |nil=>simp at j
 |row b h n c xs es bs ls hP hb hn hnc hm hc he hs hl=>
  obtain⟨M,K,G,A,z⟩:=hc i j;exact⟨b,h,es i,bs i,ls i,rfl,hb,hP,M,K,G,A,z,he i j,hs i j,hl i j⟩
structure SV where
 s:St
 e:Value
 b:Value
 l:Value
def uS (p:SV):List Value:=[.int i64 p.s.k,.string (J p.s.nm),p.e,p.b,p.l]
def eN (l:List SV):List Value:=l.flatMap uS
theorem kR: ∀l:List SV,(eN l).length=l.length*5
 | []=>rfl
 |p::l=>by
  have:=kR l;simp only[eN,bx,ac,uS,ah,ai]at this⊢;omega
theorem qO (a b:List SV):eN (a++b)=eN a++eN b:=by simp[eN]
theorem mo: ∀(l:List SV) (i:Nat) (a:i<l.length) (k:Nat),k<5->(eN l)[i*5+k]? =(uS l[i])[k]?
 | [],i,a,k,hk=>by simp at a
 |p::l,0,a,k,hk=>by
  simp only[eN,bx,bp,aG,aK];rw[df (by simp[uS];omega)]
 |p::l,i+1,a,k,hk=>by
  have:=mo l i (by simpa using a) k hk;simp only[eN,bx,aV]at this⊢;rw[cC (by simp[uS];omega),<-this]
  congr 1
  simp[uS];omega
def SV.ok (w:World) (P:Nat->Prop) (p:SV):Prop:=c7 w P p.e p.s.ex/\db w P p.b p.s.body/\db w P p.l p.s.els
theorem SV.ok.keep {w w':World} {P Q:Nat->Prop} {p:SV} (j:p.ok w P) (a:cR P w w') (h: ∀b,P b->b<w.heap.size->Q b):p.ok w' Q:=⟨j.1.keep a h,j.2.1.keep a h,j.2.2.keep a h⟩
def iT (w:World) (base:Nat) (e:TypeId) (v:Value) (l:List SV):Prop:=
 w.ownsRow base e 5 v l.length (eN l)/\ ∀p,p∈l->p.ok w (λb=>base<=b/\some b≠v.ownBlock)
theorem iT.nil_ (a:World) (base:Nat) (e:TypeId):iT a base e (.slice none 0 0) []:=⟨World.ownsRow_nil a base e 5,λp h=>by cases h⟩
theorem iT.grown {h w':World} {base:Nat} {e:TypeId} {v:Value} {l:List SV} {row:Option Nat} (a:iT h base e v l) (o:h.grownBy w' row) (j: ∀k,row=some k->k<base):iT w' base e v l:=by
 refine⟨World.ownsRow.kept a.1 o ?_,λp z=> ?_⟩
 ·cases hv:v.ownBlock with
  |none=>exact .inl rfl
  |some k=>
   refine .inr λe=> ?_;have:=(World.ownsRow.lt a.1 k hv).1;have:=j k e.symm;omega
 ·exact(a.2 p z).keep (.of_grown o λb w e=>by have:=j b e.symm;omega) λb w _=>w
theorem iT.ext {a w':World} {base:Nat} {e:TypeId} {v:Value} {l:List SV} (o:iT a base e v l) (j:az a w'):iT w' base e v l:=o.grown (j.grownBy none) (λk h=>by cases h)
theorem iT.rd {j:World} {base:Nat} {e:TypeId} {v:Value} {l:List SV} (o:iT j base e v l):db j (λb=>base<=b) v (l.map (·.s)):=by
 rcases o.1.2 with⟨rfl,V⟩|⟨g,cap,cur,rfl,K,hg,hnc,hcm,hcs,ht⟩
 ·have:l=[]:=ax V;subst this;exact .nil _ _
 ·have O:g<j.heap.size:=(Array.getElem?_eq_some_iff.1 hg).1;have w: ∀z y,(eN l)[z]? =some y->j.cell? ⟨g,z,none⟩=some y:=λz y A=>by
   rw[cell_of_row j g z cur e (0,0) hg];rw[<-ht,bL]at A;split at A
   ·simpa using A
   ·cases A
  have G: ∀i (h:i<l.length),SV.ok j (λb=>base<=b) l[i]:=λi h=>(o.2 l[i] (ay h)).keep ⟨ak _,λ_ _ _=>rfl⟩ λb K _=>K.1;refine .row g 0 l.length cap _ (λi=>if o:i<l.length then l[i].e else .slice none 0 0) (λi=>if o:i<l.length then l[i].b else .slice none 0 0) (λi=>if o:i<l.length then l[i].l else .slice none 0 0) K O Qd hnc hcm (λi h=> ?_) (λi h=> ?_) (λi h=> ?_) (λi h=> ?_)
  ·have a:i<l.length:=by simpa using h
   have q:=λk R=>mo l i a k R;have M:(l.map (·.s))[i]=l[i].s:=Qd
   rw[M,dif_pos a,dif_pos a,dif_pos a,aG];exact⟨w _ _ (q 0 Qa),w _ _ (q 1 Qa),w _ _ (q 2 Qa),w _ _ (q 3 Qa),w _ _ (q 4 Qa)⟩
  all_goals
   have a:i<l.length:=by simpa using h
   have M:(l.map (·.s))[i]=l[i].s:=Qd
   rw[M,dif_pos a]
  ·exact(G i a).1
  ·exact(G i a).2.1
  ·exact(G i a).2.2
theorem iT.snoc {a w':World} {base:Nat} {e:TypeId} {v:Value} {l:List SV} {p:SV} {j z:Nat} (O:iT a base e v l) (ha:p.ok a (λb=>base<=b/\some b≠v.ownBlock))
  (K:w'.ownsRow base e 5 (.slice (some ⟨j,0,none⟩) (l.length+1) z) (l.length+1) (eN l++uS p)) (M:a.grownBy w' v.ownBlock) (w:some j=v.ownBlock\/j=a.heap.size):
  iT w' base e (.slice (some ⟨j,0,none⟩) (l.length+1) z) (l++[p]):=by
 have G:cR (λb=>base<=b/\some b≠v.ownBlock) a w':=.of_grown M λb o=>o.2;have A: ∀b,(base<=b/\some b≠v.ownBlock)->b<a.heap.size->(base<=b/\some b≠Value.ownBlock (.slice (some ⟨j,0,none⟩) (l.length+1) z)):=λb o R=>by
  refine⟨o.1,λe=> ?_⟩;have e:b=j:=I e;rcases w with w|w
  ·exact o.2 (by rw[e,w])
  ·omega
 refine⟨by rw[ac,qO];simpa[eN]using K,λq h=> ?_⟩;rcases List.mem_append.1 h with h|h
 ·exact(O.2 q h).keep G A
 ·rw[cP]at h;subst h;exact ha.keep G A
def PA (w:World) (g:Nat) (l:List bT) (en:Int):Prop:=
 ∃A c,aU w g 155 #[.slice A l.length c,.int i64 en]/\xB w A c l/\ ∀b off,A=some ⟨b,off,none⟩->l≠ []->b<g
theorem PA.lt {a:World} {g:Nat} {l:List bT} {en:Int} (h:PA a g l en):g<a.heap.size:=let⟨_,_,hb,_⟩:=h;hb.lt
theorem PA.ext {a w':World} {g:Nat} {l:List bT} {en:Int} (j:PA a g l en) (h:az a w'):PA w' g l en:=let⟨A,c,hb,ht,hn⟩:=j;⟨A,c,hb.ext h,ht.ext h,hn⟩
theorem PA.grown {h w':World} {g:Nat} {l:List bT} {en:Int} {row:Option Nat} (V:PA h g l en) (z:h.grownBy w' row) (K: ∀k,row=some k->g<k):PA w' g l en:=by
 obtain⟨X,c,G,w,A⟩:=V;refine⟨X,c,(z.block g G.lt (λe=>by have:=K g e.symm;omega)).trans G,⟨w.le,w.max,?_⟩,A⟩;by_cases hl:l=[]
 ·exact .inl hl
 rcases w.rd with R|⟨b,off,ha,hlt,hc⟩
 ·exact absurd R hl
 ·have I:=A b off ha hl;have O:=z.block b hlt (λe=>by have:=K b e.symm;omega);have o: ∀j,w'.cell? ⟨b,j,none⟩=h.cell? ⟨b,j,none⟩:=λj=>World.cell?_of_block (w:=h) (a:=⟨b,j,none⟩) O;exact .inr ⟨b,off,ha,aF hlt z.size,λi M=>let⟨q0,q1,q2,q3⟩:=hc i M;⟨(o _).trans q0,(o _).trans q1,(o _).trans q2,(o _).trans q3⟩⟩
theorem PA.next {h:World} {g:Nat} {t:bT} {r:List bT} {en:Int} {b off c:Nat} (ac:aU h g 155 #[.slice (some ⟨b,off,none⟩) (t::r).length c,.int i64 en]) (G:xB h (some ⟨b,off,none⟩) c (t::r)) (V:b<g) (X:b<h.heap.size)
  (w o:Nat) (ad:(c=1/\w=off/\o=0)\/(¬c=1/\w=off+4/\o=c-1)):PA (h.setCell ⟨g,0,none⟩ (.slice (some ⟨b,w,none⟩) r.length o)) g r en/\h.grownBy (h.setCell ⟨g,0,none⟩ (.slice (some ⟨b,w,none⟩) r.length o)) (some g):=by
 have I:=G.le;have ai:=G.max;simp only[ah]at I;refine⟨⟨_,o,ac.set 0 _,⟨by omega,by omega,?_⟩,λJ ag e _=> ?_⟩,⟨rfl,rfl,rfl,by simp[World.setCell],λk _ ab=>Below.heap_setCell h _ _ k (λe=>ab (by rw[e]))⟩⟩
 ·rcases ad with⟨ak,_,_⟩|⟨_,rfl,_⟩
  ·exact .inl (ax Qa)
  ·refine .inr ⟨b,off+4,rfl,by simpa[World.setCell]using X,λi aj=> ?_⟩;obtain⟨al,af,j,_,R,O,M,K⟩:=G.at_ (i+1) Qh;injection j with j;injection j with j ae;subst j ae;have A: ∀z v,(h.setCell ⟨g,0,none⟩ v).cell? ⟨b,z,none⟩=h.cell? ⟨b,z,none⟩:=λz v=>World.cell?_of_block (w:=h) (a:=⟨b,z,none⟩) (Below.heap_setCell h ⟨g,0,none⟩ v b (by show b≠g;omega));have en:off+4+i*4=off+(i+1)*4:=Qa
   simp only[aV]at R O M K;rw[en,A,A,A,A];exact⟨R,O,M,K⟩
 ·injection e with e;injection e with e;subst e;exact V
def bh (en:Int) (q:List bT) (n:Int):Ending:=.panicked [{v:=.iface 151 (.agg #[.int i64 (Gz en q),.int i64 n]),recovered:=false}]
theorem eZ (g:Nat) (l:List bT) (en:Int) (a:World) (ad:PA a g l en):Calls prog 146 #[.pointer (some ⟨g,0,none⟩)] a λe w'=>e=.returned (.agg #[.int i64 (cO l).k,.string (J (cO l).t),.int i64 (cO l).v,.int i64 (cO l).f])/\az a w':=by
 obtain⟨ah,c,A,w,G⟩:=ad;have ac:=(A.alloc (.cells #[.int i64 0,.string ⟨#[]⟩,.int i64 0,.int i64 0] 206)).cell
 cases l with
 |nil=>
  clear A w G;go_enter func146,ntmps146;go_wp2_with fail;exact bodyPost_ret (v:=.agg #[.int i64 0,.string ⟨#[]⟩,.int i64 0,.int i64 0]) (by simp[results,results146,go_sem]) rfl ⟨rfl,Z a _⟩
 |cons t r=>
  obtain⟨b,off,rfl,o,R,O,M,K⟩:=w.at_ 0 Qd;have j:az a (a.alloc (.cells #[.int i64 0,.string ⟨#[]⟩,.int i64 0,.int i64 0] 206)):=Z a _;have ab:=(j.cell b _ o).trans R;have I:=(j.cell b _ o).trans O;have X:=(j.cell b _ o).trans M;have V:=(j.cell b _ o).trans K;simp only[bp,bE,aK]at ab I X V;obtain⟨n,z⟩: ∃n,(t::r).length=n:=⟨_,rfl⟩
  rw[z]at ac;have ag:0<n:=by rw[<-z];exact Nat.succ_pos _
  have ae:(0:Int)<n:=Qa
  have af:((n:Int)==0)=false:=by rw[Ql];omega
  obtain⟨k,tx,v,f⟩:=t;simp only at ab I X V;clear A w G z j R O M K;go_enter func146,ntmps146;go_wp2_with fail;exact bodyPost_ret (v:=.agg #[.int i64 k,.string (J tx),.int i64 v,.int i64 f]) (by simp[results,results146,go_sem]) rfl ⟨rfl,Z a _⟩
theorem p_ (g:Nat) (l:List bT) (en n:Int) (a:World) (R:PA a g l en):Calls prog 147 #[.pointer (some ⟨g,0,none⟩),.int i64 n] a λe w'=>e=bh en l n/\az a w':=by
 obtain⟨ab,c,w,j,K⟩:=R;have O:=w.cell
 cases l with
 |nil=>
  clear w j K;go_enter func147,ntmps147;go_wp2_with fail;exact⟨rfl,rfl,aS _⟩
 |cons t r=>
  obtain⟨b,off,rfl,I,G,A,z,M⟩:=j.at_ 0 Qd;simp only[bp,bE,aK]at G A z M;obtain⟨m,o⟩: ∃n,(t::r).length=n:=⟨_,rfl⟩
  rw[o]at O;have X:0<m:=by rw[<-o];exact Nat.succ_pos _
  have V:(0:Int)<m:=Qa
  obtain⟨k,tx,v,f⟩:=t;simp only at G A z M;clear w j K o G A z;go_enter func147,ntmps147;go_wp2_with fail;exact⟨rfl,rfl,aS _⟩
theorem iq (g:Nat) (l:List bT) (en:Int) (s:List UInt8) (a:World) (z:PA a g l en):Calls prog 145 #[.pointer (some ⟨g,0,none⟩),.string (J s)] a λe w'=>e=.returned (.bool (bX s l))/\az a w':=by
 have j:=O (eZ g l en a z);have o:=O (show bX s l=(((cO l).k==5||(cO l).k==2)&&(cO l).t==s)from rfl);clear z;generalize cO l=t at*;obtain⟨k,tx,v,f⟩:=t;simp only at j o
 cases h5:(k==5)<;>cases h2:(k==2)<;>cases hs:(tx==s);all_goals
  rw[h5,h2,hs]at o;go_enter func145,ntmps145;go_wp2_with (go_at_call 146;refine j.out.mono ?_;rintro e G ⟨rfl,w⟩;have A:=O (w.alloc' (.cells #[.int i64 k,.string (J tx),.int i64 v,.int i64 f] 206));clear w j);go_ret;exact⟨by rw[o.out];rfl,A.out⟩
theorem cQ (g:Nat) (l:List bT) (en:Int) (s:List UInt8) (z:World) (o:PA z g l en):Calls prog 98 #[.pointer (some ⟨g,0,none⟩),.string (J s)] z λe w'=>e=.returned (.bool (bX s l))/\PA w' g (if bX s l then l.tail else l) en/\z.grownBy w' (some g):=by
 have j:=O (iq g l en s z o)
 cases hi:bX s l with
 |false=>
  rw[hi]at j;have R:=O o;clear o;go_enter func98,ntmps98;go_wp2_with (go_at_call 145;refine j.out.mono ?_;rintro e I ⟨rfl,a⟩;have w:=O a;clear a j);go_ret;exact⟨rfl,R.out.ext w.out,w.out.grownBy _⟩
 |true=>
  rw[hi]at j;have R:=O o;obtain⟨t,r,rfl⟩: ∃t r,l=t::r:=by
   cases l with
   |nil=>exact absurd rfl (lY hi)
   |cons t r=>exact⟨t,r,rfl⟩
  clear o hi;go_enter func98,ntmps98;go_wp2_with (go_at_call 145;refine j.out.mono ?_;rintro e I ⟨rfl,a⟩;obtain⟨ad,c,A,G,V⟩:=R.out.ext a;obtain⟨b,off,rfl,X,_⟩:=G.at_ 0 Qd;have ac:=A.cell;have ab:=A.frozen;have w:=O a;clear a j)
  ·obtain⟨M,K⟩:=PA.next A G (V b off rfl Qd) X off 0 (.inl ⟨by assumption,rfl,rfl⟩);go_ret;exact⟨rfl,M,ap (w.out.grownBy _) K⟩
  ·obtain⟨M,K⟩:=PA.next A G (V b off rfl Qd) X (off+4) (c-1) (.inr ⟨by assumption,rfl,rfl⟩);go_ret;exact⟨rfl,M,ap (w.out.grownBy _) K⟩
theorem eV (g:Nat) (l:List bT) (en:Int) (s:List UInt8) (a:World) (A:PA a g l en) (o:bX s l=true):Calls prog 100 #[.pointer (some ⟨g,0,none⟩),.string (J s)] a λe w'=>e=.returned (.tuple #[])/\PA w' g l.tail en/\a.grownBy w' (some g):=by
 have j:=O (cQ g l en s a A);rw[o]at j;simp only[if_true]at j;clear A o;go_enter func100,ntmps100;go_wp2_with (go_at_call 98;refine j.out.mono ?_;rintro e M ⟨rfl,z,w⟩;have K:=O z;have G:=O w;clear z w j)
 go_end0
 exact⟨rfl,K.out,G.out⟩
theorem gX (g:Nat) (l:List bT) (en:Int) (s:List UInt8) (a:World) (G:PA a g l en) (o:bX s l=false):Calls prog 100 #[.pointer (some ⟨g,0,none⟩),.string (J s)] a λe w'=>e=bh en l 3/\a.grownBy w' (some g):=by
 have j:=O (cQ g l en s a G);rw[o]at j;simp only[aT,if_false]at j;clear G o;go_enter func100,ntmps100
 go_wp2_with (first
  |(go_at_call 98;refine j.out.mono ?_;rintro e X ⟨rfl,A,z⟩;have R:=O A;have M:=O z;clear A z j)
  |(go_at_call 147;refine(p_ g l en 3 _ R.out).mono ?_;unfold bh;rintro e V ⟨rfl,w⟩;have K:=O (ap M.out (w.grownBy _));clear w))
 exact⟨rfl,rfl,K.out⟩
theorem pW (g:Nat) (l:List bT) (en:Int) (a:World) (o:PA a g l en) (j: ¬(cO l).k=1):Calls prog 101 #[.pointer (some ⟨g,0,none⟩)] a λe w'=>e=bh en l 3/\a.grownBy w' (some g):=by
 have w:=O (eZ g l en a o);have K:=O o;generalize cO l=t at*;obtain⟨k,tx,v,f⟩:=t;simp only at w j;have X:(k==1)=false:=Ql.2 j;clear o j;go_enter func101,ntmps101
 go_wp2_with (first
  |(go_at_call 146;refine w.out.mono ?_;rintro e V ⟨rfl,z⟩;have G:=O (z.alloc' (.cells #[.int i64 k,.string (J tx),.int i64 v,.int i64 f] 206));clear z w)
  |(go_at_call 147;refine(p_ g l en 3 _ (K.out.ext G.out)).mono ?_;unfold bh;rintro e R ⟨rfl,A⟩;have M:=O (G.out.trans A);clear A))
 exact⟨rfl,rfl,M.out.grownBy _⟩
theorem jR (g:Nat) (l:List bT) (en:Int) (a:World) (G:PA a g l en) (w:(cO l).k=1):Calls prog 101 #[.pointer (some ⟨g,0,none⟩)] a λe w'=>e=.returned (.string (J (cO l).t))/\PA w' g l.tail en/\a.grownBy w' (some g):=by
 have M:=O (eZ g l en a G);have I:=O G;obtain⟨t,r,rfl⟩: ∃t r,l=t::r:=by
  cases l with
  |nil=>exact absurd w Qc
  |cons t r=>exact⟨t,r,rfl⟩
 clear G;obtain⟨k,tx,v,f⟩:=t;simp only[cO]at M w;obtain rfl:k=1:=w;go_enter func101,ntmps101;go_wp2_with (go_at_call 146;refine M.out.mono ?_;rintro e ab ⟨rfl,X⟩;have K:=O (X.alloc' (.cells #[.int i64 1,.string (J tx),.int i64 v,.int i64 f] 206));obtain⟨ae,c,j,o,R⟩:=I.out.ext K.out;obtain⟨b,off,rfl,V,_⟩:=o.at_ 0 Qd;have ad:=j.cell;have ac:=j.frozen;clear X M)
 ·obtain⟨A,z⟩:=PA.next j o (R b off rfl Qd) V off 0 (.inl ⟨by assumption,rfl,rfl⟩);go_ret;exact⟨rfl,A,ap (K.out.grownBy _) z⟩
 ·obtain⟨A,z⟩:=PA.next j o (R b off rfl Qd) V (off+4) (c-1) (.inr ⟨by assumption,rfl,rfl⟩);go_ret;exact⟨rfl,A,ap (K.out.grownBy _) z⟩
theorem tU (s:List UInt8):s=[124,124]\/s=[38,38]\/s=[61,61]\/s=[33,61]\/s=[60]\/s=[60,61]\/s=[62]\/s=[62,61]\/s=[43]\/s=[45]\/s=[42]\/s=[47]\/s=[37]\/
  (((s==[124,124])=false/\(s==[38,38])=false/\(s==[61,61])=false/\(s==[33,61])=false/\(s==[60])=false/\(s==[60,61])=false/\(s==[62])=false/\(s==[62,61])=false/\(s==[43])=false/\(s==[45])=false/\(s==[42])=false/\(s==[47])=false/\(s==[37])=false)/\im s=0):=by
 by_cases h1:s=[124,124]
 ·exact .inl h1
 by_cases h2:s=[38,38]
 ·exact(.inr (.inl h2))
 by_cases h3:s=[61,61]
 ·exact(.inr (.inr (.inl h3)))
 by_cases h4:s=[33,61]
 ·exact(.inr (.inr (.inr (.inl h4))))
 by_cases h5:s=[60]
 ·exact(.inr (.inr (.inr (.inr (.inl h5)))))
 by_cases h6:s=[60,61]
 ·exact(.inr (.inr (.inr (.inr (.inr (.inl h6))))))
 by_cases h7:s=[62]
 ·exact(.inr (.inr (.inr (.inr (.inr (.inr (.inl h7)))))))
 by_cases h8:s=[62,61]
 ·exact(.inr (.inr (.inr (.inr (.inr (.inr (.inr (.inl h8))))))))
 by_cases h9:s=[43]
 ·exact(.inr (.inr (.inr (.inr (.inr (.inr (.inr (.inr (.inl h9)))))))))
 by_cases h10:s=[45]
 ·exact(.inr (.inr (.inr (.inr (.inr (.inr (.inr (.inr (.inr (.inl h10))))))))))
 by_cases h11:s=[42]
 ·exact(.inr (.inr (.inr (.inr (.inr (.inr (.inr (.inr (.inr (.inr (.inl h11)))))))))))
 by_cases h12:s=[47]
 ·exact(.inr (.inr (.inr (.inr (.inr (.inr (.inr (.inr (.inr (.inr (.inr (.inl h12))))))))))))
 by_cases h13:s=[37]
 ·exact(.inr (.inr (.inr (.inr (.inr (.inr (.inr (.inr (.inr (.inr (.inr (.inr (.inl h13)))))))))))))
 refine(.inr (.inr (.inr (.inr (.inr (.inr (.inr (.inr (.inr (.inr (.inr (.inr (.inr ⟨⟨Ql.2 h1,Ql.2 h2,Ql.2 h3,Ql.2 h4,Ql.2 h5,Ql.2 h6,Ql.2 h7,Ql.2 h8,Ql.2 h9,Ql.2 h10,Ql.2 h11,Ql.2 h12,Ql.2 h13⟩,?_⟩)))))))))))));unfold im;rw[if_neg h1,if_neg h2,if_neg h3,if_neg h4,if_neg h5,if_neg h6,if_neg h7,if_neg h8,if_neg h9,if_neg h10,if_neg h11,if_neg h12,if_neg h13]
theorem my (s:List UInt8) (a:World):Calls prog 153 #[.string (J s)] a λe w'=>e=.returned (.int i64 (im s))/\a=w':=by
 rcases tU s with rfl|rfl|rfl|rfl|rfl|rfl|rfl|rfl|rfl|rfl|rfl|rfl|rfl|⟨⟨e1,e2,e3,e4,e5,e6,e7,e8,e9,e10,e11,e12,e13⟩,hz⟩
 all_goals
  go_enter func153,ntmps153;go_wp2_with fail;go_ret;refine⟨?_,rfl⟩;first|exact congrArg (λn=>Ending.returned (.int i64 n)) hz.symm|rfl|(simp[im];done)
theorem dx (b:Nat): ∀(vs:List Value) (h:Nat) (a:World),a.grownBy (a.setCells b h vs) (some b)
 | [],h,a=>⟨rfl,rfl,rfl,ak _,λ_ _ _=>rfl⟩
 |v::r,h,a=>ap (show a.grownBy (a.setCell ⟨b,h,none⟩ v) (some b)from⟨rfl,rfl,rfl,by simp[World.setCell],λk _ j=>Below.heap_setCell a ⟨b,h,none⟩ v k (λe=>j (by rw[e]))⟩) (dx b r (h+1) _)
theorem d8 {w0 j w':World} {g k:Nat} (a:w0.grownBy j (some g)) (h:j.grownBy w' (some k)) (z:w0.heap.size<=k):w0.grownBy w' (some g):=
 ⟨h.os.trans a.os,h.tape.trans a.tape,h.output.trans a.output,aR a.size h.size,λi o w=>(h.block i (aF o a.size) (λe=>by injection e with e;omega)).trans (a.block i o w)⟩
theorem aU.put6 {h:World} {g:Nat} {t:TypeId} {G A z w o j:Value} (K:aU h g t #[G,A,z,w,o,j]) (a b c d e f:Value):aU (h.setCells g 0 [a,b,c,d,e,f]) g t #[a,b,c,d,e,f]:=by
 have:=(((((K.set 0 a).set 1 b).set 2 c).set 3 d).set 4 e).set 5 f;simpa[World.setCells]using this
theorem aU.put5' {h:World} {g:Nat} {t:TypeId} {A z w o j:Value} (G:aU h g t #[A,z,w,o,j]) (a b c d e:Value):aU (h.setCells g 0 [a,b,c,d,e]) g t #[a,b,c,d,e]:=by
 have:=((((G.set 0 a).set 1 b).set 2 c).set 3 d).set 4 e;simpa[World.setCells]using this
def qG (g:Nat) (en:Int) (w:World) (r:PR Ex) (e:Ending) (w':World):Prop:=
 w.grownBy w' (some g)/\match r with
 | .ok (x,q)=> ∃A n c,e=.returned (.agg #[.int i64 x.k,.string (J x.op),.string (J x.nm),.string (J x.tx),.int i64 x.v,.slice A n c])/\c7 w' (λb=>w.heap.size<=b) (.slice A n c) x.args/\PA w' g q en
 | .error (q,n)=>e=bh en q n
def fL (f:Nat):Prop:= ∀(n:Int) (l:List bT) (en:Int) (w:World) (g:Nat),PA w g l en->1<=n->n<=7->4*l.length+2<=f->Calls prog 183 #[.pointer (some ⟨g,0,none⟩),.int i64 n] w (qG g en w (bS f n l))
def rL (f:Nat):Prop:= ∀(l:List bT) (en:Int) (w:World) (g:Nat),PA w g l en->4*l.length+1<=f->Calls prog 205 #[.pointer (some ⟨g,0,none⟩)] w (qG g en w (cF f l))
def jG (f:Nat):Prop:= ∀(nm:List UInt8) (l:List bT) (en:Int) (w:World) (g:Nat),PA w g l en->4*l.length+1<=f->Calls prog 206 #[.pointer (some ⟨g,0,none⟩),.string (J nm)] w (qG g en w (cG f nm l))
theorem nz {l:List bT} {k:Int} (h:(cO l).k=k) (a:k≠0): ∃t r,l=t::r:=by
 cases l with
 |nil=>exact absurd h.symm a
 |cons t r=>exact⟨t,r,rfl⟩
theorem PA.next_a {a:World} {g:Nat} {t:bT} {r:List bT} {en:Int} {b off c:Nat} (w:aU a g 155 #[.slice (some ⟨b,off,none⟩) (t::r).length c,.int i64 en]) (h:xB a (some ⟨b,off,none⟩) c (t::r)) (j:b<g) (o:b<a.heap.size) (z:c=1):
  PA (a.setCell ⟨g,0,none⟩ (.slice (some ⟨b,off,none⟩) r.length 0)) g r en/\a.grownBy (a.setCell ⟨g,0,none⟩ (.slice (some ⟨b,off,none⟩) r.length 0)) (some g):=PA.next w h j o _ _ (.inl ⟨z,rfl,rfl⟩)
theorem PA.next_b {a:World} {g:Nat} {t:bT} {r:List bT} {en:Int} {b off c:Nat} (w:aU a g 155 #[.slice (some ⟨b,off,none⟩) (t::r).length c,.int i64 en]) (h:xB a (some ⟨b,off,none⟩) c (t::r)) (j:b<g) (o:b<a.heap.size) (z: ¬c=1):
  PA (a.setCell ⟨g,0,none⟩ (.slice (some ⟨b,off+4,none⟩) r.length (c-1))) g r en/\a.grownBy (a.setCell ⟨g,0,none⟩ (.slice (some ⟨b,off+4,none⟩) r.length (c-1))) (some g):=PA.next w h j o _ _ (.inr ⟨z,rfl,rfl⟩)
theorem h_ {g:Nat} {en:Int} {a w':World} {r:PR Ex} {q:List bT} {n:Int} (h:r=.error (q,n)) (j:a.grownBy w' (some g)):qG g en a r (bh en q n) w':=by
 subst h;exact⟨j,rfl⟩
theorem pQ {f:Nat} {l:List bT} (j: ¬(cO l).k=3) (h: ¬(cO l).k=4) (o: ¬(cO l).k=1) (a:(bX sV l||bX ux l)=true):cF (f+1) l=(cF f l.tail).then λx q=> .ok (.mk 6 (cO l).t [] [] 0 [x],q):=by
 rw[cF,if_neg j,if_neg h,if_neg o,if_pos a]
theorem jQ {f:Nat} {l:List bT} (j: ¬(cO l).k=3) (h: ¬(cO l).k=4) (o: ¬(cO l).k=1) (a:(bX sV l||bX ux l)=false):cF (f+1) l=(bw kV l).then λ_ r=>(bS f 1 r).then λx r=>(bw je r).then λ_ r=> .ok (x,r):=by
 rw[cF,if_neg j,if_neg h,if_neg o,if_neg (by rw[a];simp)]
theorem l7 {h W:World} {g o:Nat} {en:Int} {q:List bT} {O M K G A z:Value} {r:PR Ex} (x:Ex) (k:Int) (so j st:ByteArray) (v:Int) (a:Option Addr) (n c:Nat) (X:r=.ok (x,q)) (ad:x.k=k) (ab:J x.op=so) (ac:J x.nm=j) (V:J x.tx=st) (R:x.v=v) (I:o=h.heap.size)
  (ai:aU W o 70 #[O,M,K,G,A,z]) (ah:h.grownBy W (some g)) (ag:PA W g q en) (aj:g<h.heap.size) (af:c7 W (λb=>h.heap.size+1<=b) (.slice a n c) x.args):
  (∀i,(W.setCells o 0 [.int i64 k,.string so,.string j,.string st,.int i64 v,.slice a n c]).cell? ⟨o,i,none⟩=(#[.int i64 k,.string so,.string j,.string st,.int i64 v,.slice a n c]:Array Value)[i]?)/\
  qG g en h r (.returned (.agg #[.int i64 k,.string so,.string j,.string st,.int i64 v,.slice a n c])) (W.setCells o 0 [.int i64 k,.string so,.string j,.string st,.int i64 v,.slice a n c]):=by
 subst X ad ab ac V R I;have w:=dx h.heap.size [.int i64 x.k,.string (J x.op),.string (J x.nm),.string (J x.tx),.int i64 x.v,.slice a n c] 0 W;refine⟨(aU.put6 ai _ _ _ _ _ _).cell,d8 ah w (ak _),a,n,c,rfl,af.keep (.of_grown w λb ae e=>by injection e with e;omega) λb ae _=>by omega,ag.grown w λk e=>by injection e with e;omega⟩
theorem An (f:Nat) (l:List bT) (en:Int) (a:World) (g:Nat) (o:PA a g l en) (ab:(cO l).k=3):Calls prog 205 #[.pointer (some ⟨g,0,none⟩)] a (qG g en a (cF (f+1) l)):=by
 obtain⟨⟨k,tx,v,fr⟩,r,rfl⟩:=nz ab Qc;obtain rfl:k=3:=ab;have ak:=O (show cF (f+1) (⟨3,tx,v,fr⟩::r)=.ok (.mk 1 [] [] [] v [],r)from by rw[cF];rfl);have A:=O (Z a (.cells #[.int i64 0,.string ⟨#[]⟩,.string ⟨#[]⟩,.string ⟨#[]⟩,.int i64 0,.slice none 0 0] 70));have an:=O (aw a 70 #[.int i64 0,.string ⟨#[]⟩,.string ⟨#[]⟩,.string ⟨#[]⟩,.int i64 0,.slice none 0 0]);have G:=O (eZ g _ en _ (o.ext A.out));have al:=O o;have ah:=o.lt;clear o;simp only[cO]at G;go_enter func205,ntmps205;go_wp2_with (go_at_call 146;refine G.out.mono ?_;rintro e af ⟨rfl,ad⟩;have z:=O (ad.alloc' (.cells #[.int i64 3,.string (J tx),.int i64 v,.int i64 fr] 206));have K:=O (an.out.ext z.out);have ax:=O (aw af 206 #[.int i64 3,.string (J tx),.int i64 v,.int i64 fr]);have aq:=K.out.cell;have ao:=K.out.frozen;have ag:a.heap.size≠g:=Qa;have ar:g≠a.heap.size:=Qa;clear ad G;obtain⟨ay,c,j,w,V⟩:=(al.out.ext A.out).ext z.out;obtain⟨b,off,rfl,X,_⟩:=w.at_ 0 Qd;have av:=j.cell;have au:=j.frozen);all_goals
  first|have R:=PA.next_a j w (V b off rfl Qd) X (by assumption)|have R:=PA.next_b j w (V b off rfl Qd) X (by assumption)
  obtain⟨aj,ae⟩:=R;have ai:=K.out.grown ae (λe=>ag (I e));obtain⟨M,ac⟩:=l7 (.mk 1 [] [] [] v []) 1 ⟨#[]⟩ ⟨#[]⟩ ⟨#[]⟩ v none 0 0 ak.out rfl rfl rfl rfl rfl rfl ai (ap ((A.out.trans z.out).grownBy _) ae) aj ah (.nil _ _);simp only[World.setCells,aG,Nat.reduceAdd]at M ac;exact bodyPost_ret (v:=.agg #[.int i64 1,.string ⟨#[]⟩,.string ⟨#[]⟩,.string ⟨#[]⟩,.int i64 v,.slice none 0 0]) (by simp[results,results205,go_sem,M]) rfl ac
theorem Am (f:Nat) (l:List bT) (en:Int) (a:World) (g:Nat) (o:PA a g l en) (ab:(cO l).k=4):Calls prog 205 #[.pointer (some ⟨g,0,none⟩)] a (qG g en a (cF (f+1) l)):=by
 obtain⟨⟨k,tx,v,fr⟩,r,rfl⟩:=nz ab Qc;obtain rfl:k=4:=ab;have ak:=O (show cF (f+1) (⟨4,tx,v,fr⟩::r)=.ok (.mk 2 [] [] tx 0 [],r)from by rw[cF];rfl);have A:=O (Z a (.cells #[.int i64 0,.string ⟨#[]⟩,.string ⟨#[]⟩,.string ⟨#[]⟩,.int i64 0,.slice none 0 0] 70));have an:=O (aw a 70 #[.int i64 0,.string ⟨#[]⟩,.string ⟨#[]⟩,.string ⟨#[]⟩,.int i64 0,.slice none 0 0]);have G:=O (eZ g _ en _ (o.ext A.out));have al:=O o;have ah:=o.lt;clear o;simp only[cO]at G;go_enter func205,ntmps205;go_wp2_with (go_at_call 146;refine G.out.mono ?_;rintro e af ⟨rfl,ad⟩;have z:=O (ad.alloc' (.cells #[.int i64 4,.string (J tx),.int i64 v,.int i64 fr] 206));have K:=O (an.out.ext z.out);have ax:=O (aw af 206 #[.int i64 4,.string (J tx),.int i64 v,.int i64 fr]);have aq:=K.out.cell;have ao:=K.out.frozen;have ag:a.heap.size≠g:=Qa;have ar:g≠a.heap.size:=Qa;clear ad G;obtain⟨ay,c,j,w,V⟩:=(al.out.ext A.out).ext z.out;obtain⟨b,off,rfl,X,_⟩:=w.at_ 0 Qd;have av:=j.cell;have au:=j.frozen);all_goals
  first|have R:=PA.next_a j w (V b off rfl Qd) X (by assumption)|have R:=PA.next_b j w (V b off rfl Qd) X (by assumption)
  obtain⟨aj,ae⟩:=R;have ai:=K.out.grown ae (λe=>ag (I e));obtain⟨M,ac⟩:=l7 (.mk 2 [] [] tx 0 []) 2 ⟨#[]⟩ ⟨#[]⟩ (J tx) 0 none 0 0 ak.out rfl rfl rfl rfl rfl rfl ai (ap ((A.out.trans z.out).grownBy _) ae) aj ah (.nil _ _);simp only[World.setCells,aG,Nat.reduceAdd]at M ac;exact bodyPost_ret (v:=.agg #[.int i64 2,.string ⟨#[]⟩,.string ⟨#[]⟩,.string (J tx),.int i64 0,.slice none 0 0]) (by simp[results,results205,go_sem,M]) rfl ac
theorem yp (f:Nat) (l:List bT) (en:Int) (a:World) (g:Nat) (X:PA a g l en) (ay:jG f) (aH:4*l.length+1<=f+1) (aq:(cO l).k=1):Calls prog 205 #[.pointer (some ⟨g,0,none⟩)] a (qG g en a (cF (f+1) l)):=by
 obtain⟨⟨k,nm,v,fr⟩,r,rfl⟩:=nz aq Qc;obtain rfl:k=1:=aq;have ab:=O (show cF (f+1) (⟨1,nm,v,fr⟩::r)=cG f nm r from by rw[cF];rfl);have M:=O (Z a (.cells #[.int i64 0,.string ⟨#[]⟩,.string ⟨#[]⟩,.string ⟨#[]⟩,.int i64 0,.slice none 0 0] 70));have aA:=O (aw a 70 #[.int i64 0,.string ⟨#[]⟩,.string ⟨#[]⟩,.string ⟨#[]⟩,.int i64 0,.slice none 0 0]);have R:=O (eZ g _ en _ (X.ext M.out));have az:=O X;have aF:=X.lt;clear X;simp only[cO]at R;have au:4*r.length+1<=f:=by simp only[ah]at aH;omega
 cases hpn:cG f nm r with
 |error q=>
  obtain⟨q,n⟩:=q;rw[hpn]at ab;go_enter func205,ntmps205;go_wp2_with (first|(go_at_call 146;refine R.out.mono ?_;rintro e ac ⟨rfl,G⟩;have o:=O (G.alloc' (.cells #[.int i64 1,.string (J nm),.int i64 v,.int i64 fr] 206));have w:=O (aA.out.ext o.out);have aJ:=O (aw ac 206 #[.int i64 1,.string (J nm),.int i64 v,.int i64 fr]);have ae:=w.out.cell;have ad:=w.out.frozen;have V:a.heap.size≠g:=Qa;have aE:g≠a.heap.size:=Qa;clear G R;have ag:=O ((az.out.ext M.out).ext o.out))|(go_at_call 101;refine(jR g _ en _ ag.out rfl).mono ?_;simp only[cO,List.tail_cons];rintro e an ⟨rfl,K,j⟩;have af:=O K;have aj:=O (ap ((M.out.trans o.out).grownBy _) j);have al:=O (w.out.grown j (λe=>V (I e)));clear K j)|(go_at_call 206;refine(ay nm r en _ g af.out au).mono ?_;intro e aC A;rw[hpn]at A;obtain⟨z,rfl⟩:=A;unfold bh;have ai:=O (ap aj.out z);clear z));exact⟨rfl,h_ ab.out ai.out⟩
 |ok p=>
  obtain⟨x,q⟩:=p;rw[hpn]at ab;have aL:=ab;go_enter func205,ntmps205;go_wp2_with (first|(go_at_call 146;refine R.out.mono ?_;rintro e ac ⟨rfl,G⟩;have o:=O (G.alloc' (.cells #[.int i64 1,.string (J nm),.int i64 v,.int i64 fr] 206));have w:=O (aA.out.ext o.out);have aJ:=O (aw ac 206 #[.int i64 1,.string (J nm),.int i64 v,.int i64 fr]);have ae:=w.out.cell;have ad:=w.out.frozen;have V:a.heap.size≠g:=Qa;have aE:g≠a.heap.size:=Qa;clear G R;have ag:=O ((az.out.ext M.out).ext o.out))|(go_at_call 101;refine(jR g _ en _ ag.out rfl).mono ?_;simp only[cO,List.tail_cons];rintro e an ⟨rfl,K,j⟩;have af:=O K;have aj:=O (ap ((M.out.trans o.out).grownBy _) j);have al:=O (w.out.grown j (λe=>V (I e)));clear K j)|(go_at_call 206;refine(ay nm r en _ g af.out au).mono ?_;intro e aC A;rw[hpn]at A;obtain⟨z,aB,n,c,rfl,av,ax⟩:=A;have ai:=O (ap aj.out z);have ak:=O (al.out.grown z (λe=>V (I e)));have aD:a.heap.size+1<=an.heap.size:=(by have:=al.out.lt;omega);have aK:=O (av.mono (λb aI _=>aR aD aI));have aM:=O ax;clear ae ad;have ae:=ak.out.cell;have ad:=ak.out.frozen;clear z av ax));obtain⟨ao,ar⟩:=l7 (x) x.k (J x.op) (J x.nm) (J x.tx) x.v aB n c aL.out rfl rfl rfl rfl rfl rfl ak.out ai.out aM.out aF aK.out;simp only[World.setCells,aG,Nat.reduceAdd]at ao ar;exact bodyPost_ret (v:=.agg #[.int i64 x.k,.string (J x.op),.string (J x.nm),.string (J x.tx),.int i64 x.v,.slice aB n c]) (by simp[results,results205,go_sem,ao]) rfl ar
theorem vj (f:Nat) (l:List bT) (en:Int) (G:World) (g:Nat) (j:PA G g l en) (aV:rL f) (bb:4*l.length+1<=f+1) (ax: ¬(cO l).k=3) (av: ¬(cO l).k=4) (ay: ¬(cO l).k=1) (aq:bX sV l=true):Calls prog 205 #[.pointer (some ⟨g,0,none⟩)] G (qG g en G (cF (f+1) l)):=by
 obtain⟨⟨k,tx,v,fr⟩,r,rfl⟩: ∃t r,l=t::r:=by
  cases l with
  |nil=>exact absurd rfl (lY aq)
  |cons t r=>exact⟨t,r,rfl⟩
 simp only[cO]at ax av ay;have bC:(k==3)=false:=Ql.2 ax;have bB:(k==4)=false:=Ql.2 av;have bD:(k==1)=false:=Ql.2 ay;have aI:=O (show cF (f+1) (⟨k,tx,v,fr⟩::r)=(cF f r).then λx q=> .ok (.mk 6 tx [] [] 0 [x],q)from pQ ax av ay (by rw[aq];rfl));have aU:4*r.length+1<=f:=by simp only[ah]at bb;omega
 have aF:=O (Z G (.cells #[.int i64 0,.string ⟨#[]⟩,.string ⟨#[]⟩,.string ⟨#[]⟩,.int i64 0,.slice none 0 0] 70));have a3:=O (aw G 70 #[.int i64 0,.string ⟨#[]⟩,.string ⟨#[]⟩,.string ⟨#[]⟩,.int i64 0,.slice none 0 0]);have aM:=O (eZ g _ en _ (j.ext aF.out));have br:=O j;have ba:=j.lt;clear j;simp only[cO]at aM;go_enter func205,ntmps205;go_wp2_with (first|(go_at_call 146;refine aM.out.mono ?_;rintro e M ⟨rfl,K⟩;have bx:G.heap.size<M.heap.size:=(by have:=a3.out.lt;have:=dz K;omega);have aE:=O (K.alloc' (.cells #[.int i64 k,.string (J tx),.int i64 v,.int i64 fr] 206));have aO:=O (a3.out.ext aE.out);have bo:=O (aw M 206 #[.int i64 k,.string (J tx),.int i64 v,.int i64 fr]);have aj:=aO.out.cell;have ai:=aO.out.frozen;have aQ:G.heap.size≠g:=Qa;have bz:g≠G.heap.size:=Qa;clear K aM;have aL:=O ((br.out.ext aF.out).ext aE.out))|(go_at_call 145;refine(iq g _ en sV _ aL.out).mono ?_;rw[aq];rintro e bu ⟨rfl,K⟩;have bm:=O (aE.out.trans K);have bq:=O (aL.out.ext K);have aN:=O (aO.out.ext K);have bn:=O (bo.out.ext K);clear aj ai;have aj:=aN.out.cell;have ai:=aN.out.frozen;clear aL;obtain⟨w,c,a,ag,ao⟩:=bq.out;obtain⟨b,off,rfl,ar,_⟩:=ag.at_ 0 Qd;have be:=a.cell;have bd:=a.frozen;clear K));all_goals
  first|have aS:=PA.next_a a ag (ao b off rfl Qd) ar (by assumption)|have aS:=PA.next_b a ag (ao b off rfl Qd) ar (by assumption)
  obtain⟨aW,ak⟩:=aS;have an:M.heap.size≠g:=Qa
  have a1:=O (ap ((aF.out.trans bm.out).grownBy (some g)) ak);have a2:=O (aN.out.grown ak (λe=>aQ (I e)));have aX:=O (bn.out.grown ak (λe=>an (I e)));have aK:=O aW;clear a ag ao ar be bd aj ai ak aW;generalize World.setCell _ _ _=af at*
  cases hpp:cF f r with
  |error p=>
   obtain⟨q,n⟩:=p;rw[hpp]at aI;refine bV 6 12 [(3,λv=>v=.agg #[.int i64 0,.string ⟨#[]⟩,.string ⟨#[]⟩,.string ⟨#[]⟩,.int i64 0,.slice none 0 0],λ_ _=>False),(4,λv=> ∃V,v=.slice (some ⟨V,0,none⟩) 1 1,λ_ _=>True)] 3 (some g) mixed Qb ⟨λ_ _ _ j _=>j,λ_ _ _ j _=>j,trivial⟩ ⟨.inl rfl,.inr λ_ _ _ j _=>j,trivial⟩ ?_;repeat (refine sx ?_ (λM z=> ?_) ?_;rotate_left;(focus have bl:=(aX.out.grown (aJ z) (λe=>an (I e))).cell;clear z;go_simp<;>with_reducible rfl);simp only[a8,a7,a6,aZ,aY])
   refine bR _ _ Qe rfl ⟨_,rfl⟩ rfl (λA R o aD ab=> ?_) ?_
   ·clear o;have az:=aV r en A g (aK.out.ext R.un) aU;have aH:=O R.un;clear R;go_simp;refine az.mono ?_;intro e a4 ac;rw[hpp]at ac;obtain⟨aA,rfl⟩:=ac;unfold bh;intro bF bc;exact⟨bc,h_ aI.out (ap a1.out (ap (aH.out.grownBy _) aA))⟩
   rintro _ rfl;simp only[a8,a7,a6,aZ,aY];refine bg _ _ Qe rfl ⟨_,0,rfl⟩ Qd (λA z o aD ab=> ?_) ?_
   ·clear o;go_simp;exact ab _ _ (Z A _) ⟨_,rfl⟩ trivial
   rintro _ ⟨V,rfl⟩;simp only[a8,a7,a6,aZ,aY];repeat (refine sx ?_ (λM z=> ?_) ?_;rotate_left;(focus go_simp<;>with_reducible rfl);simp only[a8,a7,a6,aZ,aY])
   intro A bw o;exact(o _ (.tail _ (.head _))).elim
  |ok p=>
   obtain⟨x,q⟩:=p;have bp:=O (show cF (f+1) (⟨k,tx,v,fr⟩::r)=.ok (.mk 6 tx [] [] 0 [x],q)from by rw[aI.out,hpp];rfl);have bA:g<af.heap.size:=aK.out.lt;have a9:G.heap.size+1<=af.heap.size:=a2.out.lt
   refine bV 6 12 [(3,λv=> ∃w n c,v=.agg #[.int i64 x.k,.string (J x.op),.string (J x.nm),.string (J x.tx),.int i64 x.v,.slice w n c],λv ad=> ∀w n c,v=.agg #[.int i64 x.k,.string (J x.op),.string (J x.nm),.string (J x.tx),.int i64 x.v,.slice w n c]->c7 ad (λb=>af.heap.size<=b) (.slice w n c) x.args/\PA ad g q en),
     (4,λv=> ∃V,v=.slice (some ⟨V,0,none⟩) 1 1,λv ad=>c7 ad (λb=>af.heap.size<=b) v [x])] 3 (some g) mixed Qb
    ⟨λ_ _ _ j X w n c e=>⟨(j w n c e).1.keep (.of_ext X) (λ_ a _=>a),(j w n c e).2.ext X⟩,λ_ _ _ j X=>j.keep (.of_ext X) (λ_ a _=>a),trivial⟩
    ⟨.inl rfl,.inr λ_ _ _ j X=>j.keep (.of_grown X λb a e=>by injection e with e;omega) (λ_ a _=>a),trivial⟩ ?_
   repeat (refine sx ?_ (λM z=> ?_) ?_;rotate_left;(focus have bl:=(aX.out.grown (aJ z) (λe=>an (I e))).cell;clear z;go_simp<;>with_reducible rfl);simp only[a8,a7,a6,aZ,aY])
   refine bR _ _ Qe rfl ⟨_,none,0,0,rfl⟩ rfl (λA R o aD ab=> ?_) ?_
   ·clear o;have az:=aV r en A g (aK.out.ext R.un) aU;have aH:=O R.un;clear R;go_simp;refine az.mono ?_;intro e a4 ac;rw[hpp]at ac;obtain⟨aA,w,n,c,rfl,bf,bi⟩:=ac;exact ab _ _ aA ⟨_,_,_,rfl⟩ (λbG bv bE e=>by injection e with e;simp only[fB,d_,d5,and_true,true_and]at e;obtain⟨rfl,rfl,rfl⟩:=e;exact⟨bf.mono (λb a _=>aR (dz aH.out) a),bi⟩)
   rintro _ ⟨w,n,c,rfl⟩;simp only[a8,a7,a6,aZ,aY];refine bg _ _ Qe rfl ⟨_,0,rfl⟩ Qd (λA z o aD ab=> ?_) ?_
   ·have aC:=(o _ (.head _) Qb) w n c rfl;have a5:=(aJ z).size;clear o z;go_simp;exact ab _ _ (Z A _) ⟨_,rfl⟩ (c7.one (aw A _ _) a5 (aC.1.keep (.of_ext (Z A _)) (λ_ a _=>a)))
   rintro _ ⟨V,rfl⟩;simp only[a8,a7,a6,aZ,aY];repeat (refine sx ?_ (λM z=> ?_) ?_;rotate_left;(focus go_simp<;>with_reducible rfl);simp only[a8,a7,a6,aZ,aY])
   intro bt al o;have bk:=o _ (.head _);have aC:=(o _ (.tail _ (.head _)) w n c rfl).2;clear o;simp only[ae,au];have bj:=ap a1.out (aJ al);have aB:=a2.out.grown (aJ al) (λe=>aQ (I e));have aj:=aB.cell;have ai:=aB.frozen;clear al;go_wp2_with fail;obtain⟨aP,aT⟩:=l7 (.mk 6 tx [] [] 0 [x]) 6 (J tx) ⟨#[]⟩ ⟨#[]⟩ 0 (some ⟨V,0,none⟩) 1 1 bp.out rfl rfl rfl rfl rfl rfl aB bj aC ba (bk.mono λb a _=>aR a9 a);simp only[World.setCells,aG,Nat.reduceAdd]at aP aT;exact bodyPost_ret (v:=.agg #[.int i64 6,.string (J tx),.string ⟨#[]⟩,.string ⟨#[]⟩,.int i64 0,.slice (some ⟨V,0,none⟩) 1 1]) (by simp[results,results205,go_sem,aP]) rfl aT
theorem Ao (f:Nat) (l:List bT) (en:Int) (K:World) (g:Nat) (j:PA K g l en) (a1:rL f) (be:4*l.length+1<=f+1) (ax: ¬(cO l).k=3) (av: ¬(cO l).k=4) (ay: ¬(cO l).k=1) (aV:bX sV l=false) (ao:bX ux l=true):Calls prog 205 #[.pointer (some ⟨g,0,none⟩)] K (qG g en K (cF (f+1) l)):=by
 obtain⟨⟨k,tx,v,fr⟩,r,rfl⟩: ∃t r,l=t::r:=by
  cases l with
  |nil=>exact absurd rfl (lY ao)
  |cons t r=>exact⟨t,r,rfl⟩
 simp only[cO]at ax av ay;have bI:(k==3)=false:=Ql.2 ax;have bH:(k==4)=false:=Ql.2 av;have bJ:(k==1)=false:=Ql.2 ay;have aI:=O (show cF (f+1) (⟨k,tx,v,fr⟩::r)=(cF f r).then λx q=> .ok (.mk 6 tx [] [] 0 [x],q)from pQ ax av ay (by rw[aV,ao];rfl));have aX:4*r.length+1<=f:=by simp only[ah]at be;omega
 have aF:=O (Z K (.cells #[.int i64 0,.string ⟨#[]⟩,.string ⟨#[]⟩,.string ⟨#[]⟩,.int i64 0,.slice none 0 0] 70));have a9:=O (aw K 70 #[.int i64 0,.string ⟨#[]⟩,.string ⟨#[]⟩,.string ⟨#[]⟩,.int i64 0,.slice none 0 0]);have aN:=O (eZ g _ en _ (j.ext aF.out));have bx:=O j;have bd:=j.lt;clear j;simp only[cO]at aN;go_enter func205,ntmps205;go_wp2_with (first|(go_at_call 146;refine aN.out.mono ?_;rintro e M ⟨rfl,w⟩;have bE:K.heap.size<M.heap.size:=(by have:=a9.out.lt;have:=dz w;omega);have aE:=O (w.alloc' (.cells #[.int i64 k,.string (J tx),.int i64 v,.int i64 fr] 206));have aQ:=O (a9.out.ext aE.out);have bu:=O (aw M 206 #[.int i64 k,.string (J tx),.int i64 v,.int i64 fr]);have ac:=aQ.out.cell;have ab:=aQ.out.frozen;have aT:K.heap.size≠g:=Qa;have bF:g≠K.heap.size:=Qa;clear w aN;have aM:=O ((bx.out.ext aF.out).ext aE.out))|(go_at_call 145;refine(iq g _ en sV _ aM.out).mono ?_;rw[aV];rintro e bB ⟨rfl,w⟩;have bq:=O (aE.out.trans w);have aL:=O (aM.out.ext w);have aP:=O (aQ.out.ext w);have bt:=O (bu.out.ext w);clear ac ab;have ac:=aP.out.cell;have ab:=aP.out.frozen;clear aM)|(go_at_call 145;refine(iq g _ en ux _ aL.out).mono ?_;rw[ao];rintro e bA ⟨rfl,w⟩;have bp:=O (bq.out.trans w);have bw:=O (aL.out.ext w);have aO:=O (aP.out.ext w);have br:=O (bt.out.ext w);clear ac ab;have ac:=aO.out.cell;have ab:=aO.out.frozen;clear aL;obtain⟨z,c,a,aj,aq⟩:=bw.out;obtain⟨b,off,rfl,ar,_⟩:=aj.at_ 0 Qd;have bj:=a.cell;have bi:=a.frozen;clear w));all_goals
  first|have aU:=PA.next_a a aj (aq b off rfl Qd) ar (by assumption)|have aU:=PA.next_b a aj (aq b off rfl Qd) ar (by assumption)
  obtain⟨a2,ak⟩:=aU;have an:M.heap.size≠g:=Qa
  have a4:=O (ap ((aF.out.trans bp.out).grownBy (some g)) ak);have a5:=O (aO.out.grown ak (λe=>aT (I e)));have a3:=O (br.out.grown ak (λe=>an (I e)));have aK:=O a2;clear a aj aq ar bj bi ac ab ak a2;generalize World.setCell _ _ _=ai at*
  cases hpp:cF f r with
  |error p=>
   obtain⟨q,n⟩:=p;rw[hpp]at aI;refine bV 6 12 [(3,λv=>v=.agg #[.int i64 0,.string ⟨#[]⟩,.string ⟨#[]⟩,.string ⟨#[]⟩,.int i64 0,.slice none 0 0],λ_ _=>False),(4,λv=> ∃V,v=.slice (some ⟨V,0,none⟩) 1 1,λ_ _=>True)] 3 (some g) mixed Qb ⟨λ_ _ _ j _=>j,λ_ _ _ j _=>j,trivial⟩ ⟨.inl rfl,.inr λ_ _ _ j _=>j,trivial⟩ ?_;repeat (refine sx ?_ (λM A=> ?_) ?_;rotate_left;(focus have bo:=(a3.out.grown (aJ A) (λe=>an (I e))).cell;clear A;go_simp<;>with_reducible rfl);simp only[a8,a7,a6,aZ,aY])
   refine bR _ _ Qe rfl ⟨_,rfl⟩ rfl (λG R o aD ad=> ?_) ?_
   ·clear o;have az:=a1 r en G g (aK.out.ext R.un) aX;have aH:=O R.un;clear R;go_simp;refine az.mono ?_;intro e ba af;rw[hpp]at af;obtain⟨aA,rfl⟩:=af;unfold bh;intro bL bf;exact⟨bf,h_ aI.out (ap a4.out (ap (aH.out.grownBy _) aA))⟩
   rintro _ rfl;simp only[a8,a7,a6,aZ,aY];refine bg _ _ Qe rfl ⟨_,0,rfl⟩ Qd (λG A o aD ad=> ?_) ?_
   ·clear o;go_simp;exact ad _ _ (Z G _) ⟨_,rfl⟩ trivial
   rintro _ ⟨V,rfl⟩;simp only[a8,a7,a6,aZ,aY];repeat (refine sx ?_ (λM A=> ?_) ?_;rotate_left;(focus go_simp<;>with_reducible rfl);simp only[a8,a7,a6,aZ,aY])
   intro G bD o;exact(o _ (.tail _ (.head _))).elim
  |ok p=>
   obtain⟨x,q⟩:=p;have bv:=O (show cF (f+1) (⟨k,tx,v,fr⟩::r)=.ok (.mk 6 tx [] [] 0 [x],q)from by rw[aI.out,hpp];rfl);have bG:g<ai.heap.size:=aK.out.lt;have bc:K.heap.size+1<=ai.heap.size:=a5.out.lt
   refine bV 6 12 [(3,λv=> ∃z n c,v=.agg #[.int i64 x.k,.string (J x.op),.string (J x.nm),.string (J x.tx),.int i64 x.v,.slice z n c],λv ag=> ∀z n c,v=.agg #[.int i64 x.k,.string (J x.op),.string (J x.nm),.string (J x.tx),.int i64 x.v,.slice z n c]->c7 ag (λb=>ai.heap.size<=b) (.slice z n c) x.args/\PA ag g q en),
     (4,λv=> ∃V,v=.slice (some ⟨V,0,none⟩) 1 1,λv ag=>c7 ag (λb=>ai.heap.size<=b) v [x])] 3 (some g) mixed Qb
    ⟨λ_ _ _ j X z n c e=>⟨(j z n c e).1.keep (.of_ext X) (λ_ a _=>a),(j z n c e).2.ext X⟩,λ_ _ _ j X=>j.keep (.of_ext X) (λ_ a _=>a),trivial⟩
    ⟨.inl rfl,.inr λ_ _ _ j X=>j.keep (.of_grown X λb a e=>by injection e with e;omega) (λ_ a _=>a),trivial⟩ ?_
   repeat (refine sx ?_ (λM A=> ?_) ?_;rotate_left;(focus have bo:=(a3.out.grown (aJ A) (λe=>an (I e))).cell;clear A;go_simp<;>with_reducible rfl);simp only[a8,a7,a6,aZ,aY])
   refine bR _ _ Qe rfl ⟨_,none,0,0,rfl⟩ rfl (λG R o aD ad=> ?_) ?_
   ·clear o;have az:=a1 r en G g (aK.out.ext R.un) aX;have aH:=O R.un;clear R;go_simp;refine az.mono ?_;intro e ba af;rw[hpp]at af;obtain⟨aA,z,n,c,rfl,bk,bl⟩:=af;exact ad _ _ aA ⟨_,_,_,rfl⟩ (λbM bC bK e=>by injection e with e;simp only[fB,d_,d5,and_true,true_and]at e;obtain⟨rfl,rfl,rfl⟩:=e;exact⟨bk.mono (λb a _=>aR (dz aH.out) a),bl⟩)
   rintro _ ⟨z,n,c,rfl⟩;simp only[a8,a7,a6,aZ,aY];refine bg _ _ Qe rfl ⟨_,0,rfl⟩ Qd (λG A o aD ad=> ?_) ?_
   ·have aC:=(o _ (.head _) Qb) z n c rfl;have bb:=(aJ A).size;clear o A;go_simp;exact ad _ _ (Z G _) ⟨_,rfl⟩ (c7.one (aw G _ _) bb (aC.1.keep (.of_ext (Z G _)) (λ_ a _=>a)))
   rintro _ ⟨V,rfl⟩;simp only[a8,a7,a6,aZ,aY];repeat (refine sx ?_ (λM A=> ?_) ?_;rotate_left;(focus go_simp<;>with_reducible rfl);simp only[a8,a7,a6,aZ,aY])
   intro bz al o;have bn:=o _ (.head _);have aC:=(o _ (.tail _ (.head _)) z n c rfl).2;clear o;simp only[ae,au];have bm:=ap a4.out (aJ al);have aB:=a5.out.grown (aJ al) (λe=>aT (I e));have ac:=aB.cell;have ab:=aB.frozen;clear al;go_wp2_with fail;obtain⟨aS,aW⟩:=l7 (.mk 6 tx [] [] 0 [x]) 6 (J tx) ⟨#[]⟩ ⟨#[]⟩ 0 (some ⟨V,0,none⟩) 1 1 bv.out rfl rfl rfl rfl rfl rfl aB bm aC bd (bn.mono λb a _=>aR bc a);simp only[World.setCells,aG,Nat.reduceAdd]at aS aW;exact bodyPost_ret (v:=.agg #[.int i64 6,.string (J tx),.string ⟨#[]⟩,.string ⟨#[]⟩,.int i64 0,.slice (some ⟨V,0,none⟩) 1 1]) (by simp[results,results205,go_sem,aS]) rfl aW
theorem yw (f:Nat) (l:List bT) (en:Int) (j:World) (g:Nat) (z:PA j g l en) (aJ:fL f) (aF:4*l.length+1<=f+1) (G: ¬(cO l).k=3) (A: ¬(cO l).k=4) (K: ¬(cO l).k=1) (af:bX sV l=false) (ae:bX ux l=false) (ag:bX kV l=false):Calls prog 205 #[.pointer (some ⟨g,0,none⟩)] j (qG g en j (cF (f+1) l)):=by
 have ai:=O (jQ (f:=f) G A K (by rw[af,ae];rfl));have R:=O (Z j (.cells #[.int i64 0,.string ⟨#[]⟩,.string ⟨#[]⟩,.string ⟨#[]⟩,.int i64 0,.slice none 0 0] 70));have ak:=O (aw j 70 #[.int i64 0,.string ⟨#[]⟩,.string ⟨#[]⟩,.string ⟨#[]⟩,.int i64 0,.slice none 0 0]);have I:=O (eZ g _ en _ (z.ext R.out));have av:=O z;have aE:=z.lt;clear z;have ar:=O (show cF (f+1) l=.error (l,3)from by rw[ai.out];unfold bw;rw[ag];rfl);clear ai;generalize cO l=t at*;obtain⟨k,tx,v,fr⟩:=t;simp only at G A K I;have aH:(k==3)=false:=Ql.2 G;have aG:(k==4)=false:=Ql.2 A;have aI:(k==1)=false:=Ql.2 K;go_enter func205,ntmps205;go_wp2_with (first|(go_at_call 146;refine I.out.mono ?_;rintro e ad ⟨rfl,a⟩;have aC:j.heap.size<ad.heap.size:=(by have:=ak.out.lt;have:=dz a;omega);have M:=O (a.alloc' (.cells #[.int i64 k,.string (J tx),.int i64 v,.int i64 fr] 206));have ac:=O (ak.out.ext M.out);have aq:=O (aw ad 206 #[.int i64 k,.string (J tx),.int i64 v,.int i64 fr]);have w:=ac.out.cell;have o:=ac.out.frozen;have aB:j.heap.size≠g:=Qa;have aD:g≠j.heap.size:=Qa;clear a I;have X:=O ((av.out.ext R.out).ext M.out))|(go_at_call 145;refine(iq g _ en sV _ X.out).mono ?_;rw[af];rintro e aA ⟨rfl,a⟩;have an:=O (M.out.trans a);have V:=O (X.out.ext a);have ab:=O (ac.out.ext a);have ao:=O (aq.out.ext a);clear w o;have w:=ab.out.cell;have o:=ab.out.frozen;clear X)|(go_at_call 145;refine(iq g _ en ux _ V.out).mono ?_;rw[ae];rintro e az ⟨rfl,a⟩;have al:=O (an.out.trans a);have au:=O (V.out.ext a);have aj:=O (ab.out.ext a);have aK:=O (ao.out.ext a);clear w o;have w:=aj.out.cell;have o:=aj.out.frozen;clear V)|(go_at_call 100;refine(gX g _ en kV _ au.out ag).mono ?_;unfold bh;rintro e ay ⟨rfl,ah⟩;have ax:=O (ap ((R.out.trans al.out).grownBy _) ah);clear ah));exact⟨rfl,h_ ar.out ax.out⟩
theorem yt (f:Nat) (l:List bT) (en:Int) (j:World) (g:Nat) (z:PA j g l en) (az:fL f) (aQ:4*l.length+1<=f+1) (K: ¬(cO l).k=3) (G: ¬(cO l).k=4) (M: ¬(cO l).k=1) (ak:bX sV l=false) (aj:bX ux l=false) (A:bX kV l=true) (q:List bT) (n:Int) (ai:bS f 1 l.tail=.error (q,n)):Calls prog 205 #[.pointer (some ⟨g,0,none⟩)] j (qG g en j (cF (f+1) l)):=by
 have aq:=O (jQ (f:=f) K G M (by rw[ak,aj];rfl));have X:=O (Z j (.cells #[.int i64 0,.string ⟨#[]⟩,.string ⟨#[]⟩,.string ⟨#[]⟩,.int i64 0,.slice none 0 0] 70));have av:=O (aw j 70 #[.int i64 0,.string ⟨#[]⟩,.string ⟨#[]⟩,.string ⟨#[]⟩,.int i64 0,.slice none 0 0]);have ad:=O (eZ g _ en _ (z.ext X.out));have aG:=O z;have aP:=z.lt;clear z;have ar:=O (show cF (f+1) l=(bS f 1 l.tail).then λx r=>(bw je r).then λ_ r=> .ok (x,r)from by rw[aq.out];unfold bw;rw[A];rfl);have ay:4*l.tail.length+2<=f:=by have:=bG A;omega
 clear aq;have aE:=O (show cF (f+1) l=.error (q,n)from by rw[ar.out,ai];rfl);clear ar;generalize cO l=t at*;obtain⟨k,tx,v,fr⟩:=t;simp only at K G M ad;have aS:(k==3)=false:=Ql.2 K;have aR:(k==4)=false:=Ql.2 G;have aT:(k==1)=false:=Ql.2 M;go_enter func205,ntmps205;go_wp2_with (first|(go_at_call 146;refine ad.out.mono ?_;rintro e ah ⟨rfl,a⟩;have aN:j.heap.size<ah.heap.size:=(by have:=av.out.lt;have:=dz a;omega);have V:=O (a.alloc' (.cells #[.int i64 k,.string (J tx),.int i64 v,.int i64 fr] 206));have ag:=O (av.out.ext V.out);have aD:=O (aw ah 206 #[.int i64 k,.string (J tx),.int i64 v,.int i64 fr]);have w:=ag.out.cell;have o:=ag.out.frozen;have ax:j.heap.size≠g:=Qa;have aO:g≠j.heap.size:=Qa;clear a ad;have ac:=O ((aG.out.ext X.out).ext V.out))|(go_at_call 145;refine(iq g _ en sV _ ac.out).mono ?_;rw[ak];rintro e aM ⟨rfl,a⟩;have aB:=O (V.out.trans a);have ab:=O (ac.out.ext a);have af:=O (ag.out.ext a);have aC:=O (aD.out.ext a);clear w o;have w:=af.out.cell;have o:=af.out.frozen;clear ac)|(go_at_call 145;refine(iq g _ en ux _ ab.out).mono ?_;rw[aj];rintro e aL ⟨rfl,a⟩;have aA:=O (aB.out.trans a);have au:=O (ab.out.ext a);have ae:=O (af.out.ext a);have aU:=O (aC.out.ext a);clear w o;have w:=ae.out.cell;have o:=ae.out.frozen;clear ab)|(go_at_call 100;refine(eV g _ en kV _ au.out A).mono ?_;rintro e aK ⟨rfl,ao,R⟩;have aF:=O ao;have aI:=O (ap ((X.out.trans aA.out).grownBy _) R);have aV:=O (ae.out.grown R (λe=>ax (I e)));clear ao R au)|(go_at_call 183;refine(az 1 _ en _ g aF.out Qc Qc ay).mono ?_;intro e aJ al;rw[ai]at al;obtain⟨an,rfl⟩:=al;unfold bh;have aH:=O (ap aI.out an);clear an));exact⟨rfl,h_ aE.out aH.out⟩
theorem yv (f:Nat) (l:List bT) (en:Int) (j:World) (g:Nat) (K:PA j g l en) (aK:fL f) (a4:4*l.length+1<=f+1) (V: ¬(cO l).k=3) (R: ¬(cO l).k=4) (X: ¬(cO l).k=1) (av:bX sV l=false) (au:bX ux l=false) (M:bX kV l=true) (x:Ex) (q:List bT) (ao:bS f 1 l.tail=.ok (x,q)) (aq:bX je q=false):Calls prog 205 #[.pointer (some ⟨g,0,none⟩)] j (qG g en j (cF (f+1) l)):=by
 have aA:=O (jQ (f:=f) V R X (by rw[av,au];rfl));have ae:=O (Z j (.cells #[.int i64 0,.string ⟨#[]⟩,.string ⟨#[]⟩,.string ⟨#[]⟩,.int i64 0,.slice none 0 0] 70));have aF:=O (aw j 70 #[.int i64 0,.string ⟨#[]⟩,.string ⟨#[]⟩,.string ⟨#[]⟩,.int i64 0,.slice none 0 0]);have ah:=O (eZ g _ en _ (K.ext ae.out));have aS:=O K;have a3:=K.lt;clear K;have aB:=O (show cF (f+1) l=(bS f 1 l.tail).then λx r=>(bw je r).then λ_ r=> .ok (x,r)from by rw[aA.out];unfold bw;rw[M];rfl);have aI:4*l.tail.length+2<=f:=by have:=bG M;omega
 clear aA;have aP:=O (show cF (f+1) l=.error (q,3)from by rw[aB.out,ao];show(bw je q).then (λ_ r=>(Except.ok (x,r):PR Ex))=_;unfold bw;rw[aq];rfl);clear aB;generalize cO l=t at*;obtain⟨k,tx,v,fr⟩:=t;simp only at V R X ah;have a6:(k==3)=false:=Ql.2 V;have a5:(k==4)=false:=Ql.2 R;have a7:(k==1)=false:=Ql.2 X;go_enter func205,ntmps205;go_wp2_with (first|(go_at_call 146;refine ah.out.mono ?_;rintro e an ⟨rfl,a⟩;have a1:j.heap.size<an.heap.size:=(by have:=aF.out.lt;have:=dz a;omega);have ad:=O (a.alloc' (.cells #[.int i64 k,.string (J tx),.int i64 v,.int i64 fr] 206));have al:=O (aF.out.ext ad.out);have aO:=O (aw an 206 #[.int i64 k,.string (J tx),.int i64 v,.int i64 fr]);have G:=al.out.cell;have A:=al.out.frozen;have ar:j.heap.size≠g:=Qa;have a2:g≠j.heap.size:=Qa;clear a ah;have ag:=O ((aS.out.ext ae.out).ext ad.out))|(go_at_call 145;refine(iq g _ en sV _ ag.out).mono ?_;rw[av];rintro e aY ⟨rfl,a⟩;have aM:=O (ad.out.trans a);have af:=O (ag.out.ext a);have aj:=O (al.out.ext a);have aN:=O (aO.out.ext a);clear G A;have G:=aj.out.cell;have A:=aj.out.frozen;clear ag)|(go_at_call 145;refine(iq g _ en ux _ af.out).mono ?_;rw[au];rintro e aX ⟨rfl,a⟩;have aL:=O (aM.out.trans a);have aD:=O (af.out.ext a);have ai:=O (aj.out.ext a);have a9:=O (aN.out.ext a);clear G A;have G:=ai.out.cell;have A:=ai.out.frozen;clear af)|(go_at_call 100;refine(eV g _ en kV _ aD.out M).mono ?_;rintro e aG ⟨rfl,az,ac⟩;have aC:=O az;have aV:=O (ap ((ae.out.trans aL.out).grownBy _) ac);have aE:=O (ai.out.grown ac (λe=>ar (I e)));clear az ac aD)|(go_at_call 183;refine(aK 1 _ en _ g aC.out Qc Qc aI).mono ?_;intro e w ax;rw[ao]at ax;obtain⟨o,z,n,c,rfl,ay,ab⟩:=ax;have aU:=O (d8 (ap aV.out o) ((Z w (.cells #[.int i64 x.k,.string (J x.op),.string (J x.nm),.string (J x.tx),.int i64 x.v,.slice z n c] 70)).grownBy (some j.heap.size)) (ak _));have bb:=O ((aE.out.grown o (λe=>ar (I e))).alloc (.cells #[.int i64 x.k,.string (J x.op),.string (J x.nm),.string (J x.tx),.int i64 x.v,.slice z n c] 70));have a8:=O (aw w 70 #[.int i64 x.k,.string (J x.op),.string (J x.nm),.string (J x.tx),.int i64 x.v,.slice z n c]);have aQ:=O (ab.ext (Z w (.cells #[.int i64 x.k,.string (J x.op),.string (J x.nm),.string (J x.tx),.int i64 x.v,.slice z n c] 70)));have aH:j.heap.size+1<=aG.heap.size:=aE.out.lt;have ba:=O (ay.keep (.of_ext (Z w (.cells #[.int i64 x.k,.string (J x.op),.string (J x.nm),.string (J x.tx),.int i64 x.v,.slice z n c] 70))) (λb aJ _=>aR aH aJ));have aZ:w.heap.size≠g:=(by have:=ab.lt;omega);clear o ay ab aC)|(go_at_call 100;refine(gX g _ en je _ aQ.out aq).mono ?_;unfold bh;rintro e aW ⟨rfl,o⟩;have aT:=O (ap aU.out o);clear o));exact⟨rfl,h_ aP.out aT.out⟩
theorem Av (f:Nat) (l:List bT) (en:Int) (j:World) (g:Nat) (R:PA j g l en) (aS:fL f) (bf:4*l.length+1<=f+1) (ac: ¬(cO l).k=3) (ab: ¬(cO l).k=4) (ad: ¬(cO l).k=1) (aA:bX sV l=false) (az:bX ux l=false) (X:bX kV l=true) (x:Ex) (q:List bT) (av:bS f 1 l.tail=.ok (x,q)) (ay:bX je q=true):Calls prog 205 #[.pointer (some ⟨g,0,none⟩)] j (qG g en j (cF (f+1) l)):=by
 have aE:=O (jQ (f:=f) ac ab ad (by rw[aA,az];rfl));have ah:=O (Z j (.cells #[.int i64 0,.string ⟨#[]⟩,.string ⟨#[]⟩,.string ⟨#[]⟩,.int i64 0,.slice none 0 0] 70));have aL:=O (aw j 70 #[.int i64 0,.string ⟨#[]⟩,.string ⟨#[]⟩,.string ⟨#[]⟩,.int i64 0,.slice none 0 0]);have al:=O (eZ g _ en _ (R.ext ah.out));have a4:=O R;have aP:=R.lt;clear R;have aF:=O (show cF (f+1) l=(bS f 1 l.tail).then λx r=>(bw je r).then λ_ r=> .ok (x,r)from by rw[aE.out];unfold bw;rw[X];rfl);have aQ:4*l.tail.length+2<=f:=by have:=bG X;omega
 clear aE;have a2:=O (show cF (f+1) l=.ok (x,q.tail)from by rw[aF.out,av];show(bw je q).then (λ_ r=>(Except.ok (x,r):PR Ex))=_;unfold bw;rw[ay];rfl);clear aF;generalize cO l=t at*;obtain⟨k,tx,v,fr⟩:=t;simp only at ac ab ad al;have bh:(k==3)=false:=Ql.2 ac;have bg:(k==4)=false:=Ql.2 ab;have bi:(k==1)=false:=Ql.2 ad;go_enter func205,ntmps205;go_wp2_with (first|(go_at_call 146;refine al.out.mono ?_;rintro e au ⟨rfl,a⟩;have bd:j.heap.size<au.heap.size:=(by have:=aL.out.lt;have:=dz a;omega);have ag:=O (a.alloc' (.cells #[.int i64 k,.string (J tx),.int i64 v,.int i64 fr] 206));have ar:=O (aL.out.ext ag.out);have aY:=O (aw au 206 #[.int i64 k,.string (J tx),.int i64 v,.int i64 fr]);have A:=ar.out.cell;have z:=ar.out.frozen;have V:j.heap.size≠g:=Qa;have be:g≠j.heap.size:=Qa;clear a al;have aj:=O ((a4.out.ext ah.out).ext ag.out))|(go_at_call 145;refine(iq g _ en sV _ aj.out).mono ?_;rw[aA];rintro e bb ⟨rfl,a⟩;have aU:=O (ag.out.trans a);have ai:=O (aj.out.ext a);have aq:=O (ar.out.ext a);have aX:=O (aY.out.ext a);clear A z;have A:=aq.out.cell;have z:=aq.out.frozen;clear aj)|(go_at_call 145;refine(iq g _ en ux _ ai.out).mono ?_;rw[az];rintro e ba ⟨rfl,a⟩;have aT:=O (aU.out.trans a);have aJ:=O (ai.out.ext a);have ao:=O (aq.out.ext a);have bj:=O (aX.out.ext a);clear A z;have A:=ao.out.cell;have z:=ao.out.frozen;clear ai)|(go_at_call 100;refine(eV g _ en kV _ aJ.out X).mono ?_;rintro e aM ⟨rfl,K,o⟩;have aI:=O K;have a7:=O (ap ((ah.out.trans aT.out).grownBy _) o);have aK:=O (ao.out.grown o (λe=>V (I e)));clear K o aJ)|(go_at_call 183;refine(aS 1 _ en _ g aI.out Qc Qc aQ).mono ?_;intro e G aB;rw[av]at aB;obtain⟨af,w,n,c,rfl,aD,ae⟩:=aB;have a6:=O (d8 (ap a7.out af) ((Z G (.cells #[.int i64 x.k,.string (J x.op),.string (J x.nm),.string (J x.tx),.int i64 x.v,.slice w n c] 70)).grownBy (some j.heap.size)) (ak _));have a8:=O ((aK.out.grown af (λe=>V (I e))).alloc (.cells #[.int i64 x.k,.string (J x.op),.string (J x.nm),.string (J x.tx),.int i64 x.v,.slice w n c] 70));have aW:=O (aw G 70 #[.int i64 x.k,.string (J x.op),.string (J x.nm),.string (J x.tx),.int i64 x.v,.slice w n c]);have aH:=O (ae.ext (Z G (.cells #[.int i64 x.k,.string (J x.op),.string (J x.nm),.string (J x.tx),.int i64 x.v,.slice w n c] 70)));have aN:j.heap.size+1<=aM.heap.size:=aK.out.lt;have a1:=O (aD.keep (.of_ext (Z G (.cells #[.int i64 x.k,.string (J x.op),.string (J x.nm),.string (J x.tx),.int i64 x.v,.slice w n c] 70))) (λb M _=>aR aN M));have aO:G.heap.size≠g:=(by have:=ae.lt;omega);clear af aD ae aI)|(go_at_call 100;refine(eV g _ en je _ aH.out ay).mono ?_;rintro e a9 ⟨rfl,K,o⟩;have a3:=O K;have a5:=O (ap a6.out o);have an:=O (a8.out.grown o (λe=>V (I e)));have aV:=O (aW.out.grown o (λe=>aO (I e)));have aZ:=O (a1.out.keep (.of_grown o λb M e=>by injection e with e;omega) (λb M _=>M));clear A z;have A:=an.out.cell;have z:=an.out.frozen;have bc:=aV.out.cell;clear K o aH));obtain⟨ax,aC⟩:=l7 (x) x.k (J x.op) (J x.nm) (J x.tx) x.v w n c a2.out rfl rfl rfl rfl rfl rfl an.out a5.out a3.out aP aZ.out;simp only[World.setCells,aG,Nat.reduceAdd]at ax aC;exact bodyPost_ret (v:=.agg #[.int i64 x.k,.string (J x.op),.string (J x.nm),.string (J x.tx),.int i64 x.v,.slice w n c]) (by simp[results,results205,go_sem,ax]) rfl aC
theorem yo (f:Nat) (o:fL f) (w:rL f) (z:jG f):rL (f+1):=by
 intro l en a g h j;by_cases hk3:(cO l).k=3
 ·exact An f l en a g h hk3
 by_cases hk4:(cO l).k=4
 ·exact Am f l en a g h hk4
 by_cases hk1:(cO l).k=1
 ·exact yp f l en a g h z j hk1
 cases hmi:bX sV l with
 |true=>exact vj f l en a g h w j hk3 hk4 hk1 hmi
 |false=>
  cases hno:bX ux l with
  |true=>exact Ao f l en a g h w j hk3 hk4 hk1 hmi hno
  |false=>
   cases hlp:bX kV l with
   |false=>exact yw f l en a g h o j hk3 hk4 hk1 hmi hno hlp
   |true=>
    cases hx:bS f 1 l.tail with
    |error p=>exact yt f l en a g h o j hk3 hk4 hk1 hmi hno hlp p.1 p.2 hx
    |ok p=>
     cases hrp:bX je p.2 with
     |false=>exact yv f l en a g h o j hk3 hk4 hk1 hmi hno hlp p.1 p.2 hx hrp
     |true=>exact Av f l en a g h o j hk3 hk4 hk1 hmi hno hlp p.1 p.2 hx hrp
structure Fr (base g px:Nat) (w w':World):Prop where
 os:w'.os=w.os
 tape:w'.tape=w.tape
 output:w'.output=w.output
 size:w.heap.size<=w'.heap.size
 block: ∀k,k<base->k≠g->k≠px->w'.heap[k]? =w.heap[k]?
theorem Fr.trans {base g h:Nat} {z b c:World} (a:Fr base g h z b) (k:Fr base g h b c):Fr base g h z c:=
 ⟨k.os.trans a.os,k.tape.trans a.tape,k.output.trans a.output,aR a.size k.size,λi j w o=>(k.block i j w o).trans (a.block i j w o)⟩
theorem Fr.of_grown {base g j:Nat} {h w':World} {row:Option Nat} (a:h.grownBy w' row) (z:base<=h.heap.size) (o: ∀k,row=some k->k=g\/k=j\/base<=k):Fr base g j h w':=
 ⟨a.os,a.tape,a.output,a.size,λk w G A=>a.block k Qa (λe=>by rcases o k e.symm with a|a|a<;>omega)⟩
theorem Fr.grown {base g o:Nat} {w0 j w':World} (a:w0.grownBy j (some g)) (h:Fr base g o j w') (A:w0.heap.size<=o) (G:w0.heap.size<=base):w0.grownBy w' (some g):=
 ⟨h.os.trans a.os,h.tape.trans a.tape,h.output.trans a.output,aR a.size h.size,λk z w=>(h.block k Qa (λe=>w (by rw[e])) Qa).trans (a.block k z w)⟩
theorem Fr.blk {base g h k:Nat} {t:TypeId} {j:Array Value} {a w':World} (G:Fr base g h a w') (w:aU a k t j) (o:k<base) (A:k≠g) (z:k≠h):aU w' k t j:=(G.block k o A z).trans w
theorem GH:ox prog 68 70 6 88 (.agg #[.int i64 0,.string ⟨#[]⟩,.string ⟨#[]⟩,.string ⟨#[]⟩,.int i64 0,.slice none 0 0]):=⟨underlying68,by kernel_rfl,by rfl,by decide⟩
theorem wQ {w:World} {base o n R:Nat} {e:TypeId} {xs:List Value} {ad ac ab I X V:Value} (ae:w.ownsRow base e 6 (.slice (some ⟨o,0,none⟩) (n+1) R) (n+1) (xs++[ad,ac,ab,I,X,V])) (af:xs.length=n*6) (j b c d f i:Value):
  (w.setCells o (n*6) [j,b,c,d,f,i]).ownsRow base e 6 (.slice (some ⟨o,0,none⟩) (n+1) R) (n+1) (xs++[j,b,c,d,f,i]):=by
 have st: ∀(a:List Value) (h:Nat) (u:Value),(xs++a).set (n*6+h) u=xs++a.set h u:=λa h u=>by
  rw[List.set_append,if_neg Qa]
  congr 2
  omega
 have O:=(ae.stored (n*6+0) j).1;rw[st]at O;have M:=(O.stored (n*6+1) b).1;rw[st]at M;have K:=(M.stored (n*6+2) c).1;rw[st]at K;have G:=(K.stored (n*6+3) d).1;rw[st]at G;have A:=(G.stored (n*6+4) f).1;rw[st]at A;have z:=(A.stored (n*6+5) i).1;rw[st]at z;exact z
theorem eF (a:World) (h i:Nat) (v:Value):a.grownBy (a.setCell ⟨h,i,none⟩ v) (some h):=dx h [v] i a
theorem Hv {h:World} {base a j n V:Nat} {e t:TypeId} {xs:List Value} {af ae ad ac ab X M K G A z ag:Value} (aj:h.ownsRow base e 6 (.slice (some ⟨a,0,none⟩) (n+1) V) (n+1) (xs++[af,ae,ad,ac,ab,X])) (ai:xs.length=n*6) (ah:aU h j t #[M,K,G,A,z,ag]) (R:j≠a) (o b c d f i v:Value):
  ((h.setCells a (n*6) [o,b,c,d,f,i]).setCell ⟨j,5,none⟩ v).ownsRow base e 6 (.slice (some ⟨a,0,none⟩) (n+1) V) (n+1) (xs++[o,b,c,d,f,i])/\aU ((h.setCells a (n*6) [o,b,c,d,f,i]).setCell ⟨j,5,none⟩ v) j t #[M,K,G,A,z,v]/\Fr h.heap.size a j h ((h.setCells a (n*6) [o,b,c,d,f,i]).setCell ⟨j,5,none⟩ v):=by
 have w:=dx a [o,b,c,d,f,i] (n*6) h;have O:=eF (h.setCells a (n*6) [o,b,c,d,f,i]) j 5 v;refine⟨World.ownsRow.kept (wQ aj ai o b c d f i) O (.inr λe=> ?_),?_,(Fr.of_grown w (ak _) (λk e=> .inl (I e).symm)).trans (Fr.of_grown O w.size (λk e=> .inr (.inl (I e).symm)))⟩
 ·have e:a=j:=I e;exact R e.symm
 ·have:=(ah.grown w (λe=>R (I e))).set 5 v;simpa using this
theorem Hu {h:World} {base j a n V:Nat} {e t:TypeId} {xs:List Value} {af ae ad ac ab X M K G A z ag:Value} (aj:h.ownsRow base e 6 (.slice (some ⟨j,0,none⟩) (n+1) V) (n+1) (xs++[af,ae,ad,ac,ab,X])) (ai:xs.length=n*6) (ah:aU h a t #[M,K,G,A,z,ag]) (O:a≠j) (o b c d f i v:Value):
  ((h.setCell ⟨a,5,none⟩ v).setCells j (n*6) [o,b,c,d,f,i]).ownsRow base e 6 (.slice (some ⟨j,0,none⟩) (n+1) V) (n+1) (xs++[o,b,c,d,f,i])/\aU ((h.setCell ⟨a,5,none⟩ v).setCells j (n*6) [o,b,c,d,f,i]) a t #[M,K,G,A,z,v]/\Fr h.heap.size j a h ((h.setCell ⟨a,5,none⟩ v).setCells j (n*6) [o,b,c,d,f,i]):=by
 have w:=eF h a 5 v;have R:=dx j [o,b,c,d,f,i] (n*6) (h.setCell ⟨a,5,none⟩ v);refine⟨wQ (World.ownsRow.kept aj w (.inr λe=> ?_)) ai o b c d f i,?_,(Fr.of_grown w (ak _) (λk e=> .inr (.inl (I e).symm))).trans (Fr.of_grown R w.size (λk e=> .inl (I e).symm))⟩
 ·have e:j=a:=I e;exact O e.symm
 ·have:=(ah.set 5 v).grown R (λe=>O (I e));simpa using this
theorem gz.snocK {j w':World} {base:Nat} {e:TypeId} {v:Value} {l:List (Ex×Value)} {x:Ex} {z:Value} {h n w:Nat} (R:gz j base e v l) (ha:c7 j (λb=>base<=b/\some b≠v.ownBlock) z x.args) (O:l.length=n)
  (M:w'.ownsRow base e 6 (.slice (some ⟨h,0,none⟩) (n+1) w) (n+1) (gI l++uA x z)) (G:cR (λb=>base<=b/\some b≠v.ownBlock) j w') (o:some h=v.ownBlock\/h=j.heap.size):
  gz w' base e (.slice (some ⟨h,0,none⟩) (n+1) w) (l++[(x,z)]):=by
 subst O;have A: ∀b,(base<=b/\some b≠v.ownBlock)->b<j.heap.size->(base<=b/\some b≠Value.ownBlock (.slice (some ⟨h,0,none⟩) (l.length+1) w)):=λb K V=>by
  refine⟨K.1,λe=> ?_⟩;have e:b=h:=I e;rcases o with o|o
  ·exact K.2 (by rw[e,o])
  ·omega
 refine⟨by rw[ac,ru];simpa[gI]using M,λp a=> ?_⟩;rcases List.mem_append.1 a with a|a
 ·exact(R.2 p a).keep G A
 ·rw[cP]at a;subst a;exact ha.keep G A
theorem DU {a z j W:World} {base g o w n M cap' m:Nat} {C an:Option Addr} {c:Nat} {nm:List UInt8} {O:List (Ex×Value)} {x:Ex} {q:List bT} {en:Int} (ao:O.length=n) (au:base<=a.heap.size) (aK:g<o) (aJ:o<base)
  (ae:a.grownBy z (some g)) (ay:gz z base 70 (.slice C n M) O) (aC:c7 z (λb=>a.heap.size<=b) (.slice an m c) x.args) (aB:PA z g q en) (az:gz a base 70 (.slice C n M) O)
  (X:z.grownBy j (Value.ownBlock (.slice C n M))) (ad:some w=Value.ownBlock (.slice C n M)\/w=z.heap.size)
  (aw:W.ownsRow base 70 6 (.slice (some ⟨w,0,none⟩) (n+1) cap') (n+1) (gI O++uA x (.slice an m c))) (av:aU W o 70 #[.int i64 5,.string ⟨#[]⟩,.string (J nm),.string ⟨#[]⟩,.int i64 0,.slice (some ⟨w,0,none⟩) (n+1) cap'])
  (h:Fr j.heap.size w o j W):
  Fr base g o a W/\PA W g q en/\ ∃al cap' aj,aU W o 70 #[.int i64 5,.string ⟨#[]⟩,.string (J nm),.string ⟨#[]⟩,.int i64 0,.slice al (n+1) cap']/\gz W base 70 (.slice al (n+1) cap') (O++[(x,aj)]):=by
 have V: ∀k,Value.ownBlock (.slice C n M)=some k->base<=k/\k<a.heap.size:=λk I=>World.ownsRow.lt az.1 k I;have aL:base<=w:=by
  have:=ae.size;rcases ad with K|K
  ·exact(V w K.symm).1
  ·omega
 have aI:=ae.size;have aH:=X.size;have G:Fr base g o a j:=(Fr.of_grown ae au (λk e=>by injection e with e;omega)).trans (Fr.of_grown X Qa (λk e=>by have:=V k e;omega));have aA:Fr base g o a W:=⟨h.os.trans G.os,h.tape.trans G.tape,h.output.trans G.output,aR G.size h.size,λk I aD ai=>(h.block k Qa Qa ai).trans (G.block k I aD ai)⟩
 have ax:=aB.grown X (λk e=>by have:=V k e;omega);refine⟨aA,?_,_,cap',_,av,ay.snocK (aC.mono λb A _=>⟨by omega,λe=>by have:=V b e.symm;omega⟩) ao aw ⟨by have:=h.size;omega,λb ah A=> ?_⟩ ad⟩
 ·obtain⟨aG,aF,A,ac,af⟩:=ax;have ag: ∀k,k<=g->k<j.heap.size->W.heap[k]? =j.heap[k]? :=λk I ap=>h.block k ap Qa Qa;refine⟨aG,aF,(ag g (ak _) A.lt).trans A,⟨ac.le,ac.max,?_⟩,af⟩;by_cases hl:q=[]
  ·exact .inl hl
  rcases ac.rd with aE|⟨b,off,ha,hlt,hc⟩
  ·exact absurd aE hl
  ·have ar:=ag b (by have:=af b off ha hl;omega) hlt;have ab: ∀R,W.cell? ⟨b,R,none⟩=j.cell? ⟨b,R,none⟩:=λR=>World.cell?_of_block (w:=j) (a:=⟨b,R,none⟩) ar;exact .inr ⟨b,off,ha,by have:=h.size;omega,λi aq=>let⟨q0,q1,q2,q3⟩:=hc i aq;⟨(ab _).trans q0,(ab _).trans q1,(ab _).trans q2,(ab _).trans q3⟩⟩
 ·refine(h.block b Qa (λe=> ?_) Qa).trans (X.block b A ah.2);rcases ad with K|K
  ·exact ah.2 (by rw[e,K])
  ·omega
theorem Fu (f:Nat) (bi:fL f) (base g af an:Nat) (nm:List UInt8) (l:List bT) (en:Int) (ab:World) (ar:List (Ex×Value)) (C:Option Addr) (n aF:Nat)
  (aD:PA ab g l en) (ao:aU ab an 153 #[.pointer (some ⟨g,0,none⟩)]) (ah:aU ab af 70 #[.int i64 5,.string ⟨#[]⟩,.string (J nm),.string ⟨#[]⟩,.int i64 0,.slice C n aF])
  (aS:gz ab base 70 (.slice C n aF) ar) (ax:ar.length=n) (bd:base<=ab.heap.size) (a9:g<af) (bH:g<an) (bB:an≠af) (a4:af<base) (bC:an<base) (ba:4*l.length+2<=f) (bF:n<=100000)
  (x:Ex) (q:List bT) (bb:bS f 1 l=.ok (x,q)):
  Calls prog 223 #[.pointer (some ⟨af,0,none⟩),.pointer (some ⟨an,0,none⟩)] ab λe w'=>e=.returned (.tuple #[])/\Fr base g af ab w'/\PA w' g q en/\
   ∃j cap' z,aU w' af 70 #[.int i64 5,.string ⟨#[]⟩,.string (J nm),.string ⟨#[]⟩,.int i64 0,.slice j (n+1) cap']/\gz w' base 70 (.slice j (n+1) cap') (ar++[(x,z)]):=by
 have bp:=O aD;have aV:=O ao;have aI:=O ah;have aK:=O aS;have bG:g<ab.heap.size:=aD.lt;have az:af≠g:=Qa
 have aP:an≠g:=Qa
 clear aD ao ah aS;go_enter func223,ntmps223
 refine lm 6 0 [(3,λv=> ∃X n c,v=.agg #[.int i64 x.k,.string (J x.op),.string (J x.nm),.string (J x.tx),.int i64 x.v,.slice X n c],λv au=> ∀X n c,v=.agg #[.int i64 x.k,.string (J x.op),.string (J x.nm),.string (J x.tx),.int i64 x.v,.slice X n c]->c7 au (λb=>ab.heap.size<=b) (.slice X n c) x.args/\PA au g q en),
   (5,λv=> ∃R,v=.slice (some ⟨R,0,none⟩) 1 1,λv au=> ∀R,v=.slice (some ⟨R,0,none⟩) 1 1->ab.heap.size<=R/\aU au R 70 #[.int i64 0,.string ⟨#[]⟩,.string ⟨#[]⟩,.string ⟨#[]⟩,.int i64 0,.slice none 0 0])] 3 (some g) mixed Qb
  ⟨λ_ _ _ V ah X n c e=>⟨(V X n c e).1.keep (.of_ext ah) (λ_ ao _=>ao),(V X n c e).2.ext ah⟩,λ_ _ _ V ah R e=>⟨(V R e).1,(V R e).2.ext ah⟩,trivial⟩
  ⟨.inl rfl,.inr λ_ _ _ V ah R e=>⟨(V R e).1,(V R e).2.grown ah (λaT=>by have:=(V R e).1;injection aT with aT;omega)⟩,trivial⟩ ?_
 repeat (refine sx ?_ (λaX ag=> ?_) ?_;rotate_left;(focus have w:=(aI.out.grown (aJ ag) (λe=>az (I e))).cell;have o:=(aV.out.grown (aJ ag) (λe=>aP (I e))).cell;clear ag;go_simp<;>with_reducible rfl);simp only[a8,a7,a6,aZ,aY])
 refine bR _ _ Qe rfl ⟨_,none,0,0,rfl⟩ rfl (λav aC ak bn aE=> ?_) ?_
 ·clear ak;have bc:=bi 1 l en av g (bp.out.ext aC.un) Qc Qc ba;have bo:=O aC.un;clear aC;go_simp;refine bc.mono ?_;intro e br aO;rw[bb]at aO;obtain⟨bh,X,n,c,rfl,be,bf⟩:=aO;exact aE _ _ bh ⟨_,_,_,rfl⟩ (λaj bt A e=>by injection e with e;simp only[fB,d_,d5,and_true,true_and]at e;obtain⟨rfl,rfl,rfl⟩:=e;exact⟨be.mono (λb ao _=>aR (dz bo.out) ao),bf⟩)
 rintro _ ⟨X,m,c,rfl⟩;simp only[a8,a7,a6,aZ,aY];repeat (refine sx ?_ (λaX ag=> ?_) ?_;rotate_left;(focus have w:=(aI.out.grown (aJ ag) (λe=>az (I e))).cell;have o:=(aV.out.grown (aJ ag) (λe=>aP (I e))).cell;clear ag;go_simp<;>with_reducible rfl);simp only[a8,a7,a6,aZ,aY])
 refine bg _ _ Qe rfl ⟨_,0,rfl⟩ Qd (λav ag ak bn aE=> ?_) ?_
 ·have a1:=(aJ ag).size;clear ak ag;go_simp;exact aE _ _ (Z av _) ⟨_,rfl⟩ (λR e=>by injection e with e;injection e with e;injection e with e;subst e;exact⟨a1,aw av _ _⟩)
 rintro _ ⟨R,rfl⟩;simp only[a8,a7,a6,aZ,aY];intro bq a3 ak;obtain⟨bw,bj⟩:=ak _ (.head _) R rfl;obtain⟨bl,bk⟩:=ak _ (.tail _ (.head _)) X m c rfl;clear ak;have ay:=aJ a3;have a2:=aI.out.grown ay (λe=>az (I e));have aQ:=aK.out.grown ay (λk e=>by injection e with e;omega);have bv:=ay.size;refine bA [6] Qb Qd (λi a=> ?_);obtain rfl:i=6:=by simpa using a
 refine a_ rfl Qe ?_;refine rQ GH _ _ rfl base _ n (gI ar) rfl (by rw[<-ax];exact ax▸aQ.1) R [.int i64 0,.string ⟨#[]⟩,.string ⟨#[]⟩,.string ⟨#[]⟩,.int i64 0,.slice none 0 0] rfl bj rfl Qc Qa Qc Qa ?_;intro aj cap' aW ai aB aL;have bD:(n:Int)<(n:Int)+1:=Qa
 have aN:(gI ar).length=n*6:=by rw[nB,ax]
 have al: ∀i,i<6->aW.cell? ⟨aj,n*6+i,none⟩=([.int i64 0,.string ⟨#[]⟩,.string ⟨#[]⟩,.string ⟨#[]⟩,.int i64 0,.slice none 0 0]:List Value)[i]? :=λi a=>by
  rw[ai.cellAt (n*6+i) Qa,cC Qa]
  congr 1
  omega
 have bm:=al 0 Qa;have bX:=al 1 Qa;have bW:=al 2 Qa;have bV:=al 3 Qa;have bU:=al 4 Qa;have bQ:=al 5 Qa;have bP:=ai.frozenAt (n*6);have bO:=ai.frozenAt (n*6+1);have bN:=ai.frozenAt (n*6+2);have bM:=ai.frozenAt (n*6+3);have bL:=ai.frozenAt (n*6+4);have bK:=ai.frozenAt (n*6+5);rw[bE]at bm;have aA: ∀k,Value.ownBlock (.slice C n aF)=some k->base<=k/\k<ab.heap.size:=λk a5=>World.ownsRow.lt aK.out.1 k a5;have bJ:base<=aj:=by
  rcases aL with V|V
  ·exact(aA aj V.symm).1
  ·omega
 have aq:=a2.grown aB (λe=>by have:=aA af e.symm;omega);have bz:=aq.cell;have bx:=aq.frozen;have bI:aj≠af:=Qa
 have aM:af≠aj:=Qa
 have bu:=aB.size;have ap:=O (λW cap'=>DU (W:=W) (cap':=cap') (nm:=nm) ax bd a9 a4 ay aQ bl bk aK.out aB aL);have aH:=O (Hv ai aN aq aM (.int i64 x.k) (.string (J x.op)) (.string (J x.nm)) (.string (J x.tx)) (.int i64 x.v) (.slice X m c) (.slice (some ⟨aj,0,none⟩) (n+1) cap'));have aG:=O (Hu ai aN aq aM (.int i64 x.k) (.string (J x.op)) (.string (J x.nm)) (.string (J x.tx)) (.int i64 x.v) (.slice X m c) (.slice (some ⟨aj,0,none⟩) (n+1) cap'));clear al aq aA;refine bA [7,9] Qb Qd (λi a=> ?_);have a:i=7\/i=9:=by simpa using a
 rcases a with rfl|rfl
 ·refine a_ rfl Qe ?_;go_simp;try simp only[a8,a7,a6,aZ,aY]
  refine bA [8,9] Qb Qd (λi a=> ?_);have a:i=8\/i=9:=by simpa using a
  rcases a with rfl|rfl
  ·refine a_ rfl Qe ?_;go_simp;try simp only[a8,a7,a6,aZ,aY]
   refine bA [9] Qb Qd (λi a=> ?_);obtain rfl:i=9:=by simpa using a
   refine a_ rfl Qe ?_;go_simp;try simp only[a8,a7,a6,aZ,aY]
   refine bA [10] Qb Qd (λi a=> ?_);obtain rfl:i=10:=by simpa using a
   refine a_ rfl Qe ?_;go_simp;try simp only[a8,a7,a6,aZ,aY]
   refine kB Qb ?_;obtain⟨ae,ad,ac⟩:=aH.out;have G:=ap.out _ _ ae ad ac;simp only[World.setCells,dT,Nat.reduceAdd]at G
   go_end0
   obtain⟨w,o,j,A,z,M,K⟩:=G;first|exact⟨rfl,w,o,j,A,z,M,K⟩|exact⟨rfl,w,o,j,A,M,z,K⟩
  ·refine a_ rfl Qe ?_;go_simp;try simp only[a8,a7,a6,aZ,aY]
   refine bA [8,10] Qb Qd (λi a=> ?_);have a:i=8\/i=10:=by simpa using a
   rcases a with rfl|rfl
   ·refine a_ rfl Qe ?_;go_simp;try simp only[a8,a7,a6,aZ,aY]
    refine bA [10] Qb Qd (λi a=> ?_);obtain rfl:i=10:=by simpa using a
    refine a_ rfl Qe ?_;go_simp;try simp only[a8,a7,a6,aZ,aY]
    refine kB Qb ?_;obtain⟨ae,ad,ac⟩:=aH.out;have G:=ap.out _ _ ae ad ac;simp only[World.setCells,dT,Nat.reduceAdd]at G
    go_end0
    obtain⟨w,o,j,A,z,M,K⟩:=G;first|exact⟨rfl,w,o,j,A,z,M,K⟩|exact⟨rfl,w,o,j,A,M,z,K⟩
   ·refine a_ rfl Qe ?_;go_simp;try simp only[a8,a7,a6,aZ,aY]
    refine bA [8] Qb Qd (λi a=> ?_);obtain rfl:i=8:=by simpa using a
    refine a_ rfl Qe ?_;go_simp;try simp only[a8,a7,a6,aZ,aY]
    refine kB Qb ?_;obtain⟨ae,ad,ac⟩:=aG.out;have G:=ap.out _ _ ae ad ac;simp only[World.setCells,dT,Nat.reduceAdd]at G
    go_end0
    obtain⟨w,o,j,A,z,M,K⟩:=G;first|exact⟨rfl,w,o,j,A,z,M,K⟩|exact⟨rfl,w,o,j,A,M,z,K⟩
 ·refine a_ rfl Qe ?_;go_simp;try simp only[a8,a7,a6,aZ,aY]
  refine bA [7,10] Qb Qd (λi a=> ?_);have a:i=7\/i=10:=by simpa using a
  rcases a with rfl|rfl
  ·refine a_ rfl Qe ?_;go_simp;try simp only[a8,a7,a6,aZ,aY]
   refine bA [8,10] Qb Qd (λi a=> ?_);have a:i=8\/i=10:=by simpa using a
   rcases a with rfl|rfl
   ·refine a_ rfl Qe ?_;go_simp;try simp only[a8,a7,a6,aZ,aY]
    refine bA [10] Qb Qd (λi a=> ?_);obtain rfl:i=10:=by simpa using a
    refine a_ rfl Qe ?_;go_simp;try simp only[a8,a7,a6,aZ,aY]
    refine kB Qb ?_;obtain⟨ae,ad,ac⟩:=aH.out;have G:=ap.out _ _ ae ad ac;simp only[World.setCells,dT,Nat.reduceAdd]at G
    go_end0
    obtain⟨w,o,j,A,z,M,K⟩:=G;first|exact⟨rfl,w,o,j,A,z,M,K⟩|exact⟨rfl,w,o,j,A,M,z,K⟩
   ·refine a_ rfl Qe ?_;go_simp;try simp only[a8,a7,a6,aZ,aY]
    refine bA [8] Qb Qd (λi a=> ?_);obtain rfl:i=8:=by simpa using a
    refine a_ rfl Qe ?_;go_simp;try simp only[a8,a7,a6,aZ,aY]
    refine kB Qb ?_;obtain⟨ae,ad,ac⟩:=aG.out;have G:=ap.out _ _ ae ad ac;simp only[World.setCells,dT,Nat.reduceAdd]at G
    go_end0
    obtain⟨w,o,j,A,z,M,K⟩:=G;first|exact⟨rfl,w,o,j,A,z,M,K⟩|exact⟨rfl,w,o,j,A,M,z,K⟩
  ·refine a_ rfl Qe ?_;go_simp;try simp only[a8,a7,a6,aZ,aY]
   refine bA [7] Qb Qd (λi a=> ?_);obtain rfl:i=7:=by simpa using a
   refine a_ rfl Qe ?_;go_simp;try simp only[a8,a7,a6,aZ,aY]
   refine bA [8] Qb Qd (λi a=> ?_);obtain rfl:i=8:=by simpa using a
   refine a_ rfl Qe ?_;go_simp;try simp only[a8,a7,a6,aZ,aY]
   refine kB Qb ?_;obtain⟨ae,ad,ac⟩:=aG.out;have G:=ap.out _ _ ae ad ac;simp only[World.setCells,dT,Nat.reduceAdd]at G
   go_end0
   obtain⟨w,o,j,A,z,M,K⟩:=G;first|exact⟨rfl,w,o,j,A,z,M,K⟩|exact⟨rfl,w,o,j,A,M,z,K⟩
def dh:=@Fr.of_grown
def kD:=@Fr.grown
def oA:=@gz.nil_
def sU:=@c7.one
end
end Go.Proofs.YtddomeddabfinaaGreatDoor
