/- Parts of the proof. -/
import Derived.BigQuiet
import Derived.Test.YtoedmpgicdekmaaGreatDoorCo04
set_option maxRecDepth 100000
set_option maxHeartbeats 8000000
set_option linter.all false
namespace Go.Proofs.YtoedmpgicdekmaaGreatDoor
open IntKind(i64)
open Go.Proofs.Tryz
section
open Go.RowKit
theorem kv: ∀(a:List cB) (i:Nat) (d:i<a.length) (k:Nat),k<4->(lU a)[i*4+k]? =(gX a[i])[k]?
 |t::a,0,d,k,hk=>by
  show(gX t++lU a)[0*4+k]? =(gX t)[k]?;rw[aY,aE,br (by simpa[gX]using hk)]
 |t::a,i+1,d,k,hk=>by
  have h:i<a.length:=by simpa using d
  show(gX t++lU a)[(i+1)*4+k]? =(gX a[i])[k]?;rw[bH (by simp[gX];omega),<-kv a i h k hk]
  congr 1
  simp[gX];omega
structure yG (w:World) (A:Option Addr) (cap:Nat) (ts:List cB):Prop where
 le:ts.length<=cap
 max:cap<=maxLen
 rd:ts=[]\/ ∃b off,A=some ⟨b,off,none⟩/\b<w.heap.size/\ ∀i,(h:i<ts.length)->w.cell? ⟨b,off+i*4,none⟩=some (.int i64 ts[i].k)/\w.cell? ⟨b,off+i*4+1,none⟩=some (.string (Z ts[i].t))/\
  w.cell? ⟨b,off+i*4+2,none⟩=some (.int i64 ts[i].v)/\w.cell? ⟨b,off+i*4+3,none⟩=some (.int i64 ts[i].f)
theorem yG.ext {o w':World} {y:Option Addr} {w:Nat} {u:List cB} (h:yG o y w u) (a:au o w'):yG w' y w u:=
 ⟨h.le,h.max,h.rd.imp id fun⟨b,off,ha,d,z⟩=>⟨b,off,ha,aA d a.size,λi hi=>
  let⟨h1,h2,h3,h4⟩:=z i hi;⟨(a.cell b _ d).trans h1,(a.cell b _ d).trans h2,(a.cell b _ d).trans h3,(a.cell b _ d).trans h4⟩⟩⟩
theorem yG.at_ {a:World} {h:Option Addr} {w:Nat} {d:List cB} (u:yG a h w d) (i:Nat) (hi:i<d.length):
  ∃b off,h=some ⟨b,off,none⟩/\b<a.heap.size/\a.cell? ⟨b,off+i*4,none⟩=some (.int i64 d[i].k)/\a.cell? ⟨b,off+i*4+1,none⟩=some (.string (Z d[i].t))/\
  a.cell? ⟨b,off+i*4+2,none⟩=some (.int i64 d[i].v)/\a.cell? ⟨b,off+i*4+3,none⟩=some (.int i64 d[i].f):=by
 rcases u.rd with o|⟨b,off,ha,hb,hc⟩
 ·subst o;simp at hi
 ·exact⟨b,off,ha,hb,hc i hi⟩
theorem jg.tks {d:World} {base:Nat} {e:TypeId} {G:Option Addr} {n F:Nat} {a:List cB} (V:jg d base e (.slice G n F) a):n=a.length/\yG d G F a:=by
 rcases V.2 with⟨w,R⟩|⟨g,c,cur,w,hb,hg,hnc,hcm,hcs,ht⟩
 ·injection w with A z y;subst A z y;have:a=[]:=aX R;subst this;exact⟨rfl,by simp,by simp[maxLen],.inl rfl⟩
 ·injection w with A z y;subst A z y;refine⟨rfl,hnc,hcm,.inr ⟨g,0,rfl,(Array.getElem?_eq_some_iff.1 hg).1,λi hi=> ?_⟩⟩;have o: ∀j u,(lU a)[j]? =some u->d.cell? ⟨g,j,none⟩=some u:=λj u h=>by
   rw[cell_of_row d g j cur e (0,0) hg];rw[<-ht,ch]at h;split at h
   ·simpa using h
   ·cases h
  have H:=kv a i hi 0 J;have I:=kv a i hi 1 J;have aa:=kv a i hi 2 J;have X:=kv a i hi 3 J;rw[aE];exact⟨o _ _ H,o _ _ I,o _ _ aa,o _ _ X⟩
theorem ww (l:List UInt8) (a:World) (d:EZ a):Calls prog 46 #[.string (Z l)] a λe w'=>yF 188 a.heap.size (ja l) e w'/\au a w':=by
 by_cases hl:l.length<=100000
 ·exact wu l hl a d
 ·have w:(Z l).size=l.length:=aZ l;have u:=G (rR l);have o:4000<l.length:=J
  have y:(4000:Int)<l.length:=J
  go_enter func46,ntmps46;go_wp2_with fail;exact bodyPost_ret (v:=.tuple #[.slice none 0 0,.int i64 4000,.int i64 6]) (by simp[results,results46,go_sem]) rfl ⟨by rw[u.out o];exact⟨none,0,rfl,jg.nil_ _ _ _⟩,aI _⟩
inductive dS (w:World) (P:Nat->Prop):Value->List Ex->Prop where
 |nil (A:Option Addr) (c:Nat):dS w P (.slice A 0 c) []
 |row (b o n c:Nat) (xs:List Ex) (av:Nat->Value) (hP:P b) (hb:b<w.heap.size) (hn:xs.length=n) (hnc:n<=c) (hm:c<=maxLen)
   (hc: ∀i,(h:i<xs.length)->w.cell? ⟨b,o+i*6,none⟩=some (.int i64 xs[i].k)/\w.cell? ⟨b,o+i*6+1,none⟩=some (.string (Z xs[i].op))/\w.cell? ⟨b,o+i*6+2,none⟩=some (.string (Z xs[i].nm))/\
    w.cell? ⟨b,o+i*6+3,none⟩=some (.string (Z xs[i].tx))/\w.cell? ⟨b,o+i*6+4,none⟩=some (.int i64 xs[i].v)/\w.cell? ⟨b,o+i*6+5,none⟩=some (av i))
   (hs: ∀i,(h:i<xs.length)->dS w P (av i) (Ex.args xs[i])):dS w P (.slice (some ⟨b,o,none⟩) n c) xs
structure dM (P:Nat->Prop) (w w':World):Prop where
 size:w.heap.size<=w'.heap.size
 block: ∀b,P b->b<w.heap.size->w'.heap[b]? =w.heap[b]?
theorem dM.cell {P:Nat->Prop} {d w':World} (w:dM P d w') {b:Nat} (h:Nat) (u:P b) (o:b<d.heap.size):w'.cell? ⟨b,h,none⟩=d.cell? ⟨b,h,none⟩:=
 World.cell?_of_block (w:=d) (a:=⟨b,h,none⟩) (w.block b u o)
theorem dM.of_grown {P:Nat->Prop} {a w':World} {row:Option Nat} (d:a.grownBy w' row) (h: ∀b,P b->some b≠row):dM P a w':=⟨d.size,λb u o=>d.block b o (h b u)⟩
theorem dM.of_ext {P:Nat->Prop} {a w':World} (d:au a w'):dM P a w':=⟨d.size,λb _ h=>d.obj h⟩
theorem dS.keep {w w':World} {P Q:Nat->Prop} {v:Value} {xs:List Ex} (R:dS w P v xs) (a:dM P w w') (d: ∀b,P b->b<w.heap.size->Q b):dS w' Q v xs:=by
 induction R with
 |nil A c=>exact .nil A c
 |row b o n c xs av hP hb hn hnc hm hc hs ih=>
  refine .row b o n c xs av (d b hP hb) (aA hb a.size) hn hnc hm (λi hi=> ?_) ih;obtain⟨G,F,z,y,u,h⟩:=hc i hi;exact⟨(a.cell _ hP hb).trans G,(a.cell _ hP hb).trans F,(a.cell _ hP hb).trans z,(a.cell _ hP hb).trans y,(a.cell _ hP hb).trans u,(a.cell _ hP hb).trans h⟩
theorem dS.mono {a:World} {P Q:Nat->Prop} {v:Value} {xs:List Ex} (h:dS a P v xs) (d: ∀b,P b->b<a.heap.size->Q b):dS a Q v xs:=h.keep ⟨ah _,λ_ _ _=>rfl⟩ d
theorem dS.form {h:World} {P:Nat->Prop} {v:Value} {xs:List Ex} (o:dS h P v xs): ∃a c,v=.slice a xs.length c/\(xs=[]\/xs.length<=c/\c<=maxLen/\ ∃b d,a=some ⟨b,d,none⟩/\b<h.heap.size):=by
 cases o with
 |nil a c=>exact⟨a,c,rfl,.inl rfl⟩
 |row b d n c xs av hP hb hn hnc hm hc hs=>exact⟨_,c,by rw[hn],.inr ⟨by omega,hm,b,d,rfl,hb⟩⟩
theorem dS.at_ {a:World} {P:Nat->Prop} {o:Option Addr} {n c:Nat} {xs:List Ex} (G:dS a P (.slice o n c) xs) (i:Nat) (hi:i<xs.length):
  ∃b d h,o=some ⟨b,d,none⟩/\b<a.heap.size/\P b/\a.cell? ⟨b,d+i*6,none⟩=some (.int i64 xs[i].k)/\a.cell? ⟨b,d+i*6+1,none⟩=some (.string (Z xs[i].op))/\a.cell? ⟨b,d+i*6+2,none⟩=some (.string (Z xs[i].nm))/\
   a.cell? ⟨b,d+i*6+3,none⟩=some (.string (Z xs[i].tx))/\a.cell? ⟨b,d+i*6+4,none⟩=some (.int i64 xs[i].v)/\a.cell? ⟨b,d+i*6+5,none⟩=some h/\dS a P h (Ex.args xs[i]):=by
 cases G with
 |nil=>simp at hi
 |row b d n c xs av hP hb hn hnc hm hc hs=>
  obtain⟨F,A,z,y,w,u⟩:=hc i hi;exact⟨b,d,av i,rfl,hb,hP,F,A,z,y,w,u,hs i hi⟩
def zL (x:Ex) (a:Value):List Value:=[.int i64 x.k,.string (Z x.op),.string (Z x.nm),.string (Z x.tx),.int i64 x.v,a]
def il (l:List (Ex×Value)):List Value:=l.flatMap λp=>zL p.1 p.2
theorem oF: ∀l:List (Ex×Value),(il l).length=l.length*6
 | []=>rfl
 |p::l=>by
  have:=oF l;simp only[il,bJ,H,zL,ag,ai]at this⊢;omega
theorem sk (a b:List (Ex×Value)):il (a++b)=il a++il b:=by simp[il]
theorem sj: ∀(l:List (Ex×Value)) (i:Nat) (a:i<l.length) (k:Nat),k<6->(il l)[i*6+k]? =(zL l[i].1 l[i].2)[k]?
 | [],i,a,k,hk=>by simp at a
 |p::l,0,a,k,hk=>by
  simp only[il,bJ,aY,aE,aF];rw[br (by simp[zL];omega)]
 |p::l,i+1,a,k,hk=>by
  have:=sj l i (by simpa using a) k hk;simp only[il,bJ,aP]at this⊢;rw[bH (by simp[zL];omega),<-this]
  congr 1
  simp[zL];omega
def iJ (w:World) (base:Nat) (e:TypeId) (v:Value) (l:List (Ex×Value)):Prop:=
 w.ownsRow base e 6 v l.length (il l)/\ ∀p,p∈l->dS w (λb=>base<=b/\some b≠v.ownBlock) p.2 p.1.args
theorem iJ.nil_ (a:World) (base:Nat) (e:TypeId):iJ a base e (.slice none 0 0) []:=⟨World.ownsRow_nil a base e 6,λp d=>by cases d⟩
theorem iJ.grown {d w':World} {base:Nat} {e:TypeId} {v:Value} {l:List (Ex×Value)} {row:Option Nat} (a:iJ d base e v l) (o:d.grownBy w' row) (h: ∀k,row=some k->k<base):iJ w' base e v l:=by
 refine⟨World.ownsRow.kept a.1 o ?_,λp w=> ?_⟩
 ·cases hv:v.ownBlock with
  |none=>exact .inl rfl
  |some k=>
   refine .inr λe=> ?_;have:=(World.ownsRow.lt a.1 k hv).1;have:=h k e.symm;omega
 ·exact(a.2 p w).keep (.of_grown o λb u e=>by have:=h b e.symm;omega) λb u _=>u
theorem iJ.rd {d:World} {base:Nat} {e:TypeId} {v:Value} {l:List (Ex×Value)} (y:iJ d base e v l):dS d (λb=>base<=b) v (l.map (·.1)):=by
 rcases y.1.2 with⟨rfl,F⟩|⟨g,cap,cur,rfl,w,hg,hnc,hcm,hcs,ht⟩
 ·have:l=[]:=aX F;subst this;exact .nil _ _
 ·have z:g<d.heap.size:=(Array.getElem?_eq_some_iff.1 hg).1;have a: ∀j u,(il l)[j]? =some u->d.cell? ⟨g,j,none⟩=some u:=λj u o=>by
   rw[cell_of_row d g j cur e (0,0) hg];rw[<-ht,ch]at o;split at o
   ·simpa using o
   ·cases o
  refine .row g 0 l.length cap _ (λi=>if y:i<l.length then l[i].2 else .slice none 0 0) w z Qe hnc hcm (λi hi=> ?_) (λi hi=> ?_)
  ·have h:i<l.length:=by simpa using hi
   have q:=λk A=>sj l i h k A;have e0:(l.map (·.1))[i]=l[i].1:=Qe
   rw[e0,dif_pos h,aE];exact⟨a _ _ (q 0 J),a _ _ (q 1 J),a _ _ (q 2 J),a _ _ (q 3 J),a _ _ (q 4 J),a _ _ (q 5 J)⟩
  ·have h:i<l.length:=by simpa using hi
   have e0:(l.map (·.1))[i]=l[i].1:=Qe
   rw[e0,dif_pos h];exact(y.2 l[i] (ax h)).mono λb w _=>w.1
theorem dS.one {h:World} {P:Nat->Prop} {d:Nat} {e:TypeId} {x:Ex} {o:Value} (a:aO h d e #[.int i64 x.k,.string (Z x.op),.string (Z x.nm),.string (Z x.tx),.int i64 x.v,o]) (u:P d) (w:dS h P o x.args):dS h P (.slice (some ⟨d,0,none⟩) 1 1) [x]:=by
 refine .row d 0 1 1 [x] (λ_=>o) u a.lt rfl (ah _) (by simp[maxLen]) (λi hi=> ?_) (λi hi=> ?_)
 ·have hi:i=0:=by simpa using hi
  subst hi;exact⟨a.cell 0,a.cell 1,a.cell 2,a.cell 3,a.cell 4,a.cell 5⟩
 ·have hi:i=0:=by simpa using hi
  subst hi;exact w
theorem dS.two {h:World} {P:Nat->Prop} {o:Nat} {e:TypeId} {x d:Ex} {u b:Value} (a:aO h o e #[.int i64 x.k,.string (Z x.op),.string (Z x.nm),.string (Z x.tx),.int i64 x.v,u,.int i64 d.k,.string (Z d.op),.string (Z d.nm),.string (Z d.tx),.int i64 d.v,b]) (w:P o) (z:dS h P u x.args) (y:dS h P b d.args):dS h P (.slice (some ⟨o,0,none⟩) 2 2) [x,d]:=by
 refine .row o 0 2 2 [x,d] (λi=>if i=0 then u else b) w a.lt rfl (ah _) (by simp[maxLen]) (λi hi=> ?_) (λi hi=> ?_)
 ·have hi:i<2:=hi;obtain rfl|rfl:i=0\/i=1:=J
  ·exact⟨a.cell 0,a.cell 1,a.cell 2,a.cell 3,a.cell 4,a.cell 5⟩
  ·exact⟨a.cell 6,a.cell 7,a.cell 8,a.cell 9,a.cell 10,a.cell 11⟩
 ·have hi:i<2:=hi;obtain rfl|rfl:i=0\/i=1:=J
  ·exact z
  ·exact y
structure nL (P:Program) (t e:TypeId) (size bytes:Nat) (z:Value):Prop where
 under:P.underlying t=some (.slice e)
 info:(P.info? e).map (λi=>(i.zero,i.size,i.bytes))=some (some z,size,bytes)
 cells:z.cells.size=size
 pos:0<size
theorem uM {P:Program} {w:World} {t e:TypeId} {a y:Nat} {A:Value} (o:nL P t e a y A) (ty:TypeId) (base:Nat) (v:Value) (n:Nat) (xs:List Value) (H:w.ownsRow base e a v n xs) (g:Nat) (d:List Value)
  (af:w.heap[g]? =some (.cells d.toArray e (0,0))) (ad:d.length=a) (ai: ∀u∈d,u.oneCell'=true) (Z:n<=1073741824) (X:y<=1000) (ag:base<=w.heap.size):
  ∃z cap' w',(Builtin.append_ #[t,t] ty #[v,.slice (some ⟨g,0,none⟩) 1 1]).run P w=.ok (.slice (some ⟨z,0,none⟩) (n+1) cap') w'/\w'.ownsRow base e a (.slice (some ⟨z,0,none⟩) (n+1) cap') (n+1) (xs++d)/\w.grownBy w' v.ownBlock/\
   (some z=v.ownBlock\/z=w.heap.size):=by
 obtain⟨i,hi,V,R,G⟩:=info_parts o.info;obtain⟨v',w',aa,F,ah,_,h⟩:=run_append_own_at (P:=P) w base t ty e i A a y o.under hi V R G o.cells o.pos v n xs H ⟨g,0,none⟩ 1 1 d (by rw[ad,cE])
  (λj aj ae=>by
   rw[Addr.add_lit,aE,cell_of_row w g j _ e (0,0) af];simpa using ae) ai Qh (by
    have:(n+1)*y<=(n+1)*1000:=gI _ X
    omega) ag
 rcases F.2 with⟨_,al⟩|⟨g',cap',cur,rfl,hx⟩
 ·omega
 ·refine⟨g',cap',w',aa,F,ah,?_⟩;rcases h with h|h
  ·exact .inl h
  ·exact .inr (I h)
theorem fj {P:Program} {a:World} {ops:Array Oper} {rest:List Oper} {h:Oper} {y:Act} {Q:Exit->Act->World->Prop} {t e:TypeId} {w A:Nat} {F:Value} (ah:nL P t e w A F) (ad:h.guard=none) (s x:Operand)
  (I:h.op=.call {callee:=.builtin .append,args:= #[s,x],argTypes:= #[t,t]}) (base:Nat) (v:Value) (n:Nat) (xs:List Value) (V:y.eval s=v) (aa:a.ownsRow base e w v n xs)
  (g:Nat) (o:List Value) (R:y.eval x=.slice (some ⟨g,0,none⟩) 1 1) (ae:a.heap[g]? =some (.cells o.toArray e (0,0))) (H:o.length=w) (z: ∀u∈o,u.oneCell'=true) (ag:n<=1073741824) (G:A<=1000) (af:base<=a.heap.size)
  (al: ∀d cap' w',w'.ownsRow base e w (.slice (some ⟨d,0,none⟩) (n+1) cap') (n+1) (xs++o)->a.grownBy w' v.ownBlock->(some d=v.ownBlock\/d=a.heap.size)->
   wpList P ops Q rest (y.put h.dst (.slice (some ⟨d,0,none⟩) (n+1) cap')) w'):
  wpList P ops Q (h::rest) y a:=by
 obtain⟨d,cap',w',X,z,Z,aj⟩:=uM (P:=P) (w:=a) ah h.type base v n xs aa g o ae H z ag G af;refine wpList_plain ad λK ai=> ?_;unfold Oper.wp execOp;simp only[I,resolve,invoke,builtin,Sem.run_bind,Sem.run_pure,Result.andThen_ok,dx,bL,dz,V,R,X];exact ai _ _ (al d cap' w' z Z aj)
theorem xV {P:Program} {a:World} {w:Oper} {y:Act} {K:Act->World->Prop} {Q:Exit->Act->World->Prop} {t e:TypeId} {o A:Nat} {F:Value} (ag:nL P t e o A F) (s x:Operand)
  (I:w.op=.call {callee:=.builtin .append,args:= #[s,x],argTypes:= #[t,t]}) (base:Nat) (v:Value) (n:Nat) (xs:List Value) (V:y.eval s=v) (aa:a.ownsRow base e o v n xs)
  (g:Nat) (h:List Value) (R:y.eval x=.slice (some ⟨g,0,none⟩) 1 1) (ad:a.heap[g]? =some (.cells h.toArray e (0,0))) (H:h.length=o) (z: ∀u∈h,u.oneCell'=true) (af:n<=1073741824) (G:A<=1000) (ae:base<=a.heap.size)
  (aj: ∀d cap' w',w'.ownsRow base e o (.slice (some ⟨d,0,none⟩) (n+1) cap') (n+1) (xs++h)->a.grownBy w' v.ownBlock->(some d=v.ownBlock\/d=a.heap.size)->
   K (y.put w.dst (.slice (some ⟨d,0,none⟩) (n+1) cap')) w'):
  w.wp P y a K Q:=by
 obtain⟨d,cap',w',X,z,ai,ah⟩:=uM (P:=P) (w:=a) ag w.type base v n xs aa g h ad H z af G ae;unfold Oper.wp execOp;simp only[I,resolve,invoke,builtin,Sem.run_bind,Sem.run_pure,Result.andThen_ok,dx,bL,dz,V,R,X];exact aj d cap' w' z ai ah
theorem iJ.snoc {a w':World} {base:Nat} {e:TypeId} {v:Value} {l:List (Ex×Value)} {x:Ex} {y:Value} {h w:Nat} (R:iJ a base e v l) (ha:dS a (λb=>base<=b/\some b≠v.ownBlock) y x.args)
  (F:w'.ownsRow base e 6 (.slice (some ⟨h,0,none⟩) (l.length+1) w) (l.length+1) (il l++zL x y)) (G:a.grownBy w' v.ownBlock) (u:some h=v.ownBlock\/h=a.heap.size):
  iJ w' base e (.slice (some ⟨h,0,none⟩) (l.length+1) w) (l++[(x,y)]):=by
 have A:dM (λb=>base<=b/\some b≠v.ownBlock) a w':=.of_grown G λb o=>o.2;have z: ∀b,(base<=b/\some b≠v.ownBlock)->b<a.heap.size->(base<=b/\some b≠Value.ownBlock (.slice (some ⟨h,0,none⟩) (l.length+1) w)):=λb o V=>by
  refine⟨o.1,λe=> ?_⟩;have e:b=h:=I e;rcases u with u|u
  ·exact o.2 (by rw[e,u])
  ·omega
 refine⟨by rw[H,sk];simpa[il]using F,λp d=> ?_⟩;rcases List.mem_append.1 d with d|d
 ·exact(R.2 p d).keep A z
 ·rw[bR]at d;subst d;exact ha.keep A z
inductive eq (w:World) (P:Nat->Prop):Value->List St->Prop where
 |nil (A:Option Addr) (c:Nat):eq w P (.slice A 0 c) []
 |row (b o n c:Nat) (xs:List St) (es bs ls:Nat->Value) (hP:P b) (hb:b<w.heap.size) (hn:xs.length=n) (hnc:n<=c) (hm:c<=maxLen)
   (hc: ∀i,(h:i<xs.length)->w.cell? ⟨b,o+i*5,none⟩=some (.int i64 xs[i].k)/\w.cell? ⟨b,o+i*5+1,none⟩=some (.string (Z xs[i].nm))/\w.cell? ⟨b,o+i*5+2,none⟩=some (es i)/\
    w.cell? ⟨b,o+i*5+3,none⟩=some (bs i)/\w.cell? ⟨b,o+i*5+4,none⟩=some (ls i))
   (he: ∀i,(h:i<xs.length)->dS w P (es i) (St.ex xs[i]))
   (hs: ∀i,(h:i<xs.length)->eq w P (bs i) (St.body xs[i]))
   (hl: ∀i,(h:i<xs.length)->eq w P (ls i) (St.els xs[i])):eq w P (.slice (some ⟨b,o,none⟩) n c) xs
theorem eq.keep {w w':World} {P Q:Nat->Prop} {v:Value} {xs:List St} (G:eq w P v xs) (a:dM P w w') (d: ∀b,P b->b<w.heap.size->Q b):eq w' Q v xs:=by
 induction G with
 |nil A c=>exact .nil A c
 |row b o n c xs es bs ls hP hb hn hnc hm hc he hs hl ih1 ih2=>
  refine .row b o n c xs es bs ls (d b hP hb) (aA hb a.size) hn hnc hm (λi hi=> ?_) (λi hi=>(he i hi).keep a d) ih1 ih2;obtain⟨F,z,y,u,h⟩:=hc i hi;exact⟨(a.cell _ hP hb).trans F,(a.cell _ hP hb).trans z,(a.cell _ hP hb).trans y,(a.cell _ hP hb).trans u,(a.cell _ hP hb).trans h⟩
theorem eq.mono {a:World} {P Q:Nat->Prop} {v:Value} {xs:List St} (h:eq a P v xs) (d: ∀b,P b->b<a.heap.size->Q b):eq a Q v xs:=h.keep ⟨ah _,λ_ _ _=>rfl⟩ d
theorem eq.form {h:World} {P:Nat->Prop} {v:Value} {xs:List St} (o:eq h P v xs): ∃a c,v=.slice a xs.length c/\(xs=[]\/xs.length<=c/\c<=maxLen/\ ∃b d,a=some ⟨b,d,none⟩/\b<h.heap.size):=by
 cases o with
 |nil a c=>exact⟨a,c,rfl,.inl rfl⟩
 |row b d n c xs es bs ls hP hb hn hnc hm hc he hs hl=>exact⟨_,c,by rw[hn],.inr ⟨by omega,hm,b,d,rfl,hb⟩⟩
theorem eq.at_ {a:World} {P:Nat->Prop} {u:Option Addr} {n c:Nat} {xs:List St} (G:eq a P (.slice u n c) xs) (i:Nat) (hi:i<xs.length):
  ∃b d o v h,u=some ⟨b,d,none⟩/\b<a.heap.size/\P b/\a.cell? ⟨b,d+i*5,none⟩=some (.int i64 xs[i].k)/\a.cell? ⟨b,d+i*5+1,none⟩=some (.string (Z xs[i].nm))/\a.cell? ⟨b,d+i*5+2,none⟩=some o/\
   a.cell? ⟨b,d+i*5+3,none⟩=some v/\a.cell? ⟨b,d+i*5+4,none⟩=some h/\dS a P o (St.ex xs[i])/\eq a P v (St.body xs[i])/\eq a P h (St.els xs[i]):=by
 cases G with
 |nil=>simp at hi
 |row b d n c xs es bs ls hP hb hn hnc hm hc he hs hl=>
  obtain⟨F,A,z,y,w⟩:=hc i hi;exact⟨b,d,es i,bs i,ls i,rfl,hb,hP,F,A,z,y,w,he i hi,hs i hi,hl i hi⟩
structure SV where
 s:St
 e:Value
 b:Value
 l:Value
def Ar (p:SV):List Value:=[.int i64 p.s.k,.string (Z p.s.nm),p.e,p.b,p.l]
def fp (l:List SV):List Value:=l.flatMap Ar
theorem kV: ∀l:List SV,(fp l).length=l.length*5
 | []=>rfl
 |p::l=>by
  have:=kV l;simp only[fp,bJ,H,Ar,ag,ai]at this⊢;omega
theorem rW (a b:List SV):fp (a++b)=fp a++fp b:=by simp[fp]
theorem mw: ∀(l:List SV) (i:Nat) (a:i<l.length) (k:Nat),k<5->(fp l)[i*5+k]? =(Ar l[i])[k]?
 | [],i,a,k,hk=>by simp at a
 |p::l,0,a,k,hk=>by
  simp only[fp,bJ,aY,aE,aF];rw[br (by simp[Ar];omega)]
 |p::l,i+1,a,k,hk=>by
  have:=mw l i (by simpa using a) k hk;simp only[fp,bJ,aP]at this⊢;rw[bH (by simp[Ar];omega),<-this]
  congr 1
  simp[Ar];omega
def SV.ok (w:World) (P:Nat->Prop) (p:SV):Prop:=dS w P p.e p.s.ex/\eq w P p.b p.s.body/\eq w P p.l p.s.els
theorem SV.ok.keep {w w':World} {P Q:Nat->Prop} {p:SV} (h:p.ok w P) (a:dM P w w') (d: ∀b,P b->b<w.heap.size->Q b):p.ok w' Q:=⟨h.1.keep a d,h.2.1.keep a d,h.2.2.keep a d⟩
def jW (w:World) (base:Nat) (e:TypeId) (v:Value) (l:List SV):Prop:=
 w.ownsRow base e 5 v l.length (fp l)/\ ∀p,p∈l->p.ok w (λb=>base<=b/\some b≠v.ownBlock)
theorem jW.nil_ (a:World) (base:Nat) (e:TypeId):jW a base e (.slice none 0 0) []:=⟨World.ownsRow_nil a base e 5,λp d=>by cases d⟩
theorem jW.grown {d w':World} {base:Nat} {e:TypeId} {v:Value} {l:List SV} {row:Option Nat} (a:jW d base e v l) (o:d.grownBy w' row) (h: ∀k,row=some k->k<base):jW w' base e v l:=by
 refine⟨World.ownsRow.kept a.1 o ?_,λp w=> ?_⟩
 ·cases hv:v.ownBlock with
  |none=>exact .inl rfl
  |some k=>
   refine .inr λe=> ?_;have:=(World.ownsRow.lt a.1 k hv).1;have:=h k e.symm;omega
 ·exact(a.2 p w).keep (.of_grown o λb u e=>by have:=h b e.symm;omega) λb u _=>u
theorem jW.ext {a w':World} {base:Nat} {e:TypeId} {v:Value} {l:List SV} (o:jW a base e v l) (h:au a w'):jW w' base e v l:=o.grown (h.grownBy none) (λk d=>by cases d)
theorem jW.rd {d:World} {base:Nat} {e:TypeId} {v:Value} {l:List SV} (h:jW d base e v l):eq d (λb=>base<=b) v (l.map (·.s)):=by
 rcases h.1.2 with⟨rfl,G⟩|⟨g,cap,cur,rfl,z,hg,hnc,hcm,hcs,ht⟩
 ·have:l=[]:=aX G;subst this;exact .nil _ _
 ·have A:g<d.heap.size:=(Array.getElem?_eq_some_iff.1 hg).1;have o: ∀j w,(fp l)[j]? =some w->d.cell? ⟨g,j,none⟩=some w:=λj w u=>by
   rw[cell_of_row d g j cur e (0,0) hg];rw[<-ht,ch]at u;split at u
   ·simpa using u
   ·cases u
  have y: ∀i (hi:i<l.length),SV.ok d (λb=>base<=b) l[i]:=λi hi=>(h.2 l[i] (ax hi)).keep ⟨ah _,λ_ _ _=>rfl⟩ λb z _=>z.1;refine .row g 0 l.length cap _ (λi=>if h:i<l.length then l[i].e else .slice none 0 0) (λi=>if h:i<l.length then l[i].b else .slice none 0 0) (λi=>if h:i<l.length then l[i].l else .slice none 0 0) z A Qe hnc hcm (λi hi=> ?_) (λi hi=> ?_) (λi hi=> ?_) (λi hi=> ?_)
  ·have a:i<l.length:=by simpa using hi
   have q:=λk F=>mw l i a k F;have e0:(l.map (·.s))[i]=l[i].s:=Qe
   rw[e0,dif_pos a,dif_pos a,dif_pos a,aE];exact⟨o _ _ (q 0 J),o _ _ (q 1 J),o _ _ (q 2 J),o _ _ (q 3 J),o _ _ (q 4 J)⟩
  all_goals
   have a:i<l.length:=by simpa using hi
   have e0:(l.map (·.s))[i]=l[i].s:=Qe
   rw[e0,dif_pos a]
  ·exact(y i a).1
  ·exact(y i a).2.1
  ·exact(y i a).2.2
theorem jW.snoc {a w':World} {base:Nat} {e:TypeId} {v:Value} {l:List SV} {p:SV} {h w:Nat} (G:jW a base e v l) (ha:p.ok a (λb=>base<=b/\some b≠v.ownBlock))
  (A:w'.ownsRow base e 5 (.slice (some ⟨h,0,none⟩) (l.length+1) w) (l.length+1) (fp l++Ar p)) (F:a.grownBy w' v.ownBlock) (u:some h=v.ownBlock\/h=a.heap.size):
  jW w' base e (.slice (some ⟨h,0,none⟩) (l.length+1) w) (l++[p]):=by
 have z:dM (λb=>base<=b/\some b≠v.ownBlock) a w':=.of_grown F λb o=>o.2;have y: ∀b,(base<=b/\some b≠v.ownBlock)->b<a.heap.size->(base<=b/\some b≠Value.ownBlock (.slice (some ⟨h,0,none⟩) (l.length+1) w)):=λb o R=>by
  refine⟨o.1,λe=> ?_⟩;have e:b=h:=I e;rcases u with u|u
  ·exact o.2 (by rw[e,u])
  ·omega
 refine⟨by rw[H,rW];simpa[fp]using A,λq d=> ?_⟩;rcases List.mem_append.1 d with d|d
 ·exact(G.2 q d).keep z y
 ·rw[bR]at d;subst d;exact ha.keep z y
def PA (w:World) (g:Nat) (l:List cB) (en:Int):Prop:=
 ∃A c,aO w g 124 #[.slice A l.length c,.int i64 en]/\yG w A c l/\ ∀b off,A=some ⟨b,off,none⟩->l≠ []->b<g
theorem PA.lt {a:World} {g:Nat} {l:List cB} {en:Int} (d:PA a g l en):g<a.heap.size:=let⟨_,_,hb,_⟩:=d;hb.lt
theorem PA.ext {a w':World} {g:Nat} {l:List cB} {en:Int} (h:PA a g l en) (d:au a w'):PA w' g l en:=let⟨A,c,hb,ht,hn⟩:=h;⟨A,c,hb.ext d,ht.ext d,hn⟩
theorem PA.grown {d w':World} {g:Nat} {l:List cB} {en:Int} {row:Option Nat} (R:PA d g l en) (w:d.grownBy w' row) (A: ∀k,row=some k->g<k):PA w' g l en:=by
 obtain⟨V,c,z,u,y⟩:=R;refine⟨V,c,(w.block g z.lt (λe=>by have:=A g e.symm;omega)).trans z,⟨u.le,u.max,?_⟩,y⟩;by_cases hl:l=[]
 ·exact .inl hl
 rcases u.rd with G|⟨b,off,ha,hlt,hc⟩
 ·exact absurd G hl
 ·have X:=y b off ha hl;have F:=w.block b hlt (λe=>by have:=A b e.symm;omega);have o: ∀h,w'.cell? ⟨b,h,none⟩=d.cell? ⟨b,h,none⟩:=λh=>World.cell?_of_block (w:=d) (a:=⟨b,h,none⟩) F;exact .inr ⟨b,off,ha,aA hlt w.size,λi hi=>let⟨q0,q1,q2,q3⟩:=hc i hi;⟨(o _).trans q0,(o _).trans q1,(o _).trans q2,(o _).trans q3⟩⟩
theorem PA.next {d:World} {g:Nat} {t:cB} {r:List cB} {en:Int} {b off c:Nat} (I:aO d g 124 #[.slice (some ⟨b,off,none⟩) (t::r).length c,.int i64 en]) (y:yG d (some ⟨b,off,none⟩) c (t::r)) (R:b<g) (V:b<d.heap.size)
  (o c':Nat) (H:(c=1/\o=off/\c'=0)\/(¬c=1/\o=off+4/\c'=c-1)):PA (d.setCell ⟨g,0,none⟩ (.slice (some ⟨b,o,none⟩) r.length c')) g r en/\d.grownBy (d.setCell ⟨g,0,none⟩ (.slice (some ⟨b,o,none⟩) r.length c')) (some g):=by
 have X:=y.le;have ah:=y.max;simp only[ag]at X;refine⟨⟨_,c',I.set 0 _,⟨by omega,by omega,?_⟩,λaj af e _=> ?_⟩,⟨rfl,rfl,rfl,by simp[World.setCell],λk _ aa=>Below.heap_setCell d _ _ k (λe=>aa (by rw[e]))⟩⟩
 ·rcases H with⟨ai,_,_⟩|⟨_,rfl,_⟩
  ·exact .inl (aX J)
  ·refine .inr ⟨b,off+4,rfl,by simpa[World.setCell]using V,λi hi=> ?_⟩;obtain⟨b2,ae,h,_,G,F,A,z⟩:=y.at_ (i+1) Qg;injection h with h;injection h with h ad;subst h ad;have w: ∀u v,(d.setCell ⟨g,0,none⟩ v).cell? ⟨b,u,none⟩=d.cell? ⟨b,u,none⟩:=λu v=>World.cell?_of_block (w:=d) (a:=⟨b,u,none⟩) (Below.heap_setCell d ⟨g,0,none⟩ v b (by show b≠g;omega));have en:off+4+i*4=off+(i+1)*4:=J
   simp only[aP]at G F A z;rw[en,w,w,w,w];exact⟨G,F,A,z⟩
 ·injection e with e;injection e with e;subst e;exact R
def be (en:Int) (q:List cB) (n:Int):Ending:=.panicked [{v:=.iface 120 (.agg #[.int i64 (IE en q),.int i64 n]),recovered:=false}]
theorem fq (g:Nat) (l:List cB) (en:Int) (a:World) (H:PA a g l en):Calls prog 158 #[.pointer (some ⟨g,0,none⟩)] a λe w'=>e=.returned (.agg #[.int i64 (cX l).k,.string (Z (cX l).t),.int i64 (cX l).v,.int i64 (cX l).f])/\au a w':=by
 obtain⟨ag,c,y,u,z⟩:=H;have I:=(y.alloc (.cells #[.int i64 0,.string ⟨#[]⟩,.int i64 0,.int i64 0] 188)).cell
 cases l with
 |nil=>
  clear y u z;go_enter func158,ntmps158;go_wp2_with fail;exact bodyPost_ret (v:=.agg #[.int i64 0,.string ⟨#[]⟩,.int i64 0,.int i64 0]) (by simp[results,results158,go_sem]) rfl ⟨rfl,aa a _⟩
 |cons t r=>
  obtain⟨b,off,rfl,o,R,G,F,A⟩:=u.at_ 0 Qe;have d:au a (a.alloc (.cells #[.int i64 0,.string ⟨#[]⟩,.int i64 0,.int i64 0] 188)):=aa a _;have X:=(d.cell b _ o).trans R;have c1:=(d.cell b _ o).trans G;have c2:=(d.cell b _ o).trans F;have V:=(d.cell b _ o).trans A;simp only[aY,bx,aF]at X c1 c2 V;obtain⟨n,w⟩: ∃n,(t::r).length=n:=⟨_,rfl⟩
  rw[w]at I;have af:0<n:=by rw[<-w];exact Nat.succ_pos _
  have ad:(0:Int)<n:=J
  have ae:((n:Int)==0)=false:=by rw[Qn];omega
  obtain⟨k,tx,v,f⟩:=t;simp only at X c1 c2 V;clear y u z w d R G F A;go_enter func158,ntmps158;go_wp2_with fail;exact bodyPost_ret (v:=.agg #[.int i64 k,.string (Z tx),.int i64 v,.int i64 f]) (by simp[results,results158,go_sem]) rfl ⟨rfl,aa a _⟩
theorem qW (g:Nat) (l:List cB) (en n:Int) (a:World) (F:PA a g l en):Calls prog 159 #[.pointer (some ⟨g,0,none⟩),.int i64 n] a λe w'=>e=be en l n/\au a w':=by
 obtain⟨X,c,u,d,y⟩:=F;have A:=u.cell
 cases l with
 |nil=>
  clear u d y;go_enter func159,ntmps159;go_wp2_with fail;exact⟨rfl,rfl,aI _⟩
 |cons t r=>
  obtain⟨b,off,rfl,V,w,c1,c2,z⟩:=d.at_ 0 Qe;simp only[aY,bx,aF]at w c1 c2 z;obtain⟨m,o⟩: ∃n,(t::r).length=n:=⟨_,rfl⟩
  rw[o]at A;have R:0<m:=by rw[<-o];exact Nat.succ_pos _
  have G:(0:Int)<m:=J
  obtain⟨k,tx,v,f⟩:=t;simp only at w c1 c2 z;clear u d y o w c1 c2;go_enter func159,ntmps159;go_wp2_with fail;exact⟨rfl,rfl,aI _⟩
theorem iV (g:Nat) (l:List cB) (en:Int) (s:List UInt8) (a:World) (w:PA a g l en):Calls prog 157 #[.pointer (some ⟨g,0,none⟩),.string (Z s)] a λe w'=>e=.returned (.bool (dJ s l))/\au a w':=by
 have d:=G (fq g l en a w);have o:=G (show dJ s l=(((cX l).k==5||(cX l).k==2)&&(cX l).t==s)from rfl);clear w;generalize cX l=t at*;obtain⟨k,tx,v,f⟩:=t;simp only at d o
 cases h5:(k==5)<;>cases h2:(k==2)<;>cases hs:(tx==s);all_goals
  rw[h5,h2,hs]at o;go_enter func157,ntmps157;go_wp2_with (go_at_call 158;refine d.out.mono ?_;rintro e z ⟨rfl,u⟩;have y:=G (u.alloc' (.cells #[.int i64 k,.string (Z tx),.int i64 v,.int i64 f] 188));clear u d);go_ret;exact⟨by rw[o.out];rfl,y.out⟩
theorem cV (g:Nat) (l:List cB) (en:Int) (s:List UInt8) (w:World) (o:PA w g l en):Calls prog 97 #[.pointer (some ⟨g,0,none⟩),.string (Z s)] w λe w'=>e=.returned (.bool (dJ s l))/\PA w' g (if dJ s l then l.tail else l) en/\w.grownBy w' (some g):=by
 have d:=G (iV g l en s w o)
 cases hi:dJ s l with
 |false=>
  rw[hi]at d;have R:=G o;clear o;go_enter func97,ntmps97;go_wp2_with (go_at_call 157;refine d.out.mono ?_;rintro e aa ⟨rfl,a⟩;have u:=G a;clear a d);go_ret;exact⟨rfl,R.out.ext u.out,u.out.grownBy _⟩
 |true=>
  rw[hi]at d;have R:=G o;obtain⟨t,r,rfl⟩: ∃t r,l=t::r:=by
   cases l with
   |nil=>exact absurd rfl (oA hi)
   |cons t r=>exact⟨t,r,rfl⟩
  clear o hi;go_enter func97,ntmps97;go_wp2_with (go_at_call 157;refine d.out.mono ?_;rintro e aa ⟨rfl,a⟩;obtain⟨ad,c,y,z,V⟩:=R.out.ext a;obtain⟨b,off,rfl,X,_⟩:=z.at_ 0 Qe;have H:=y.cell;have I:=y.frozen;have u:=G a;clear a d)
  ·obtain⟨F,A⟩:=PA.next y z (V b off rfl Qe) X off 0 (.inl ⟨by assumption,rfl,rfl⟩);go_ret;exact⟨rfl,F,an (u.out.grownBy _) A⟩
  ·obtain⟨F,A⟩:=PA.next y z (V b off rfl Qe) X (off+4) (c-1) (.inr ⟨by assumption,rfl,rfl⟩);go_ret;exact⟨rfl,F,an (u.out.grownBy _) A⟩
theorem fl (g:Nat) (l:List cB) (en:Int) (s:List UInt8) (a:World) (w:PA a g l en) (hi:dJ s l=true):Calls prog 99 #[.pointer (some ⟨g,0,none⟩),.string (Z s)] a λe w'=>e=.returned (.tuple #[])/\PA w' g l.tail en/\a.grownBy w' (some g):=by
 have d:=G (cV g l en s a w);rw[hi]at d;simp only[if_true]at d;clear w hi;go_enter func99,ntmps99;go_wp2_with (go_at_call 97;refine d.out.mono ?_;rintro e A ⟨rfl,u,o⟩;have z:=G u;have y:=G o;clear u o d)
 go_end0
 exact⟨rfl,z.out,y.out⟩
theorem iq (g:Nat) (l:List cB) (en:Int) (s:List UInt8) (a:World) (y:PA a g l en) (hi:dJ s l=false):Calls prog 99 #[.pointer (some ⟨g,0,none⟩),.string (Z s)] a λe w'=>e=be en l 3/\a.grownBy w' (some g):=by
 have d:=G (cV g l en s a y);rw[hi]at d;simp only[aR,if_false]at d;clear y hi;go_enter func99,ntmps99
 go_wp2_with (first
  |(go_at_call 97;refine d.out.mono ?_;rintro e V ⟨rfl,w,u⟩;have F:=G w;have A:=G u;clear w u d)
  |(go_at_call 159;refine(qW g l en 3 _ F.out).mono ?_;unfold be;rintro e R ⟨rfl,o⟩;have z:=G (an A.out (o.grownBy _));clear o))
 exact⟨rfl,rfl,z.out⟩
theorem qN (g:Nat) (l:List cB) (en:Int) (a:World) (d:PA a g l en) (hi: ¬(cX l).k=1):Calls prog 100 #[.pointer (some ⟨g,0,none⟩)] a λe w'=>e=be en l 3/\a.grownBy w' (some g):=by
 have o:=G (fq g l en a d);have z:=G d;generalize cX l=t at*;obtain⟨k,tx,v,f⟩:=t;simp only at o hi;have V:(k==1)=false:=Qn.2 hi;clear d hi;go_enter func100,ntmps100
 go_wp2_with (first
  |(go_at_call 158;refine o.out.mono ?_;rintro e R ⟨rfl,u⟩;have y:=G (u.alloc' (.cells #[.int i64 k,.string (Z tx),.int i64 v,.int i64 f] 188));clear u o)
  |(go_at_call 159;refine(qW g l en 3 _ (z.out.ext y.out)).mono ?_;unfold be;rintro e F ⟨rfl,w⟩;have A:=G (y.out.trans w);clear w))
 exact⟨rfl,rfl,A.out.grownBy _⟩
theorem j8 (g:Nat) (l:List cB) (en:Int) (a:World) (y:PA a g l en) (hi:(cX l).k=1):Calls prog 100 #[.pointer (some ⟨g,0,none⟩)] a λe w'=>e=.returned (.string (Z (cX l).t))/\PA w' g l.tail en/\a.grownBy w' (some g):=by
 have A:=G (fq g l en a y);have X:=G y;obtain⟨t,r,rfl⟩: ∃t r,l=t::r:=by
  cases l with
  |nil=>exact absurd hi Qd
  |cons t r=>exact⟨t,r,rfl⟩
 clear y;obtain⟨k,tx,v,f⟩:=t;simp only[cX]at A hi;obtain rfl:k=1:=hi;go_enter func100,ntmps100;go_wp2_with (go_at_call 158;refine A.out.mono ?_;rintro e aa ⟨rfl,V⟩;have z:=G (V.alloc' (.cells #[.int i64 1,.string (Z tx),.int i64 v,.int i64 f] 188));obtain⟨ad,c,d,o,F⟩:=X.out.ext z.out;obtain⟨b,off,rfl,R,_⟩:=o.at_ 0 Qe;have H:=d.cell;have I:=d.frozen;clear V A)
 ·obtain⟨w,u⟩:=PA.next d o (F b off rfl Qe) R off 0 (.inl ⟨by assumption,rfl,rfl⟩);go_ret;exact⟨rfl,w,an (z.out.grownBy _) u⟩
 ·obtain⟨w,u⟩:=PA.next d o (F b off rfl Qe) R (off+4) (c-1) (.inr ⟨by assumption,rfl,rfl⟩);go_ret;exact⟨rfl,w,an (z.out.grownBy _) u⟩
theorem Cc (s:List UInt8):s=[124,124]\/s=[38,38]\/s=[61,61]\/s=[33,61]\/s=[60]\/s=[60,61]\/s=[62]\/s=[62,61]\/s=[43]\/s=[45]\/s=[42]\/s=[47]\/s=[37]\/
  (((s==[124,124])=false/\(s==[38,38])=false/\(s==[61,61])=false/\(s==[33,61])=false/\(s==[60])=false/\(s==[60,61])=false/\(s==[62])=false/\(s==[62,61])=false/\(s==[43])=false/\(s==[45])=false/\(s==[42])=false/\(s==[47])=false/\(s==[37])=false)/\mX s=0):=by
 by_cases h1:s=[124,124]
 ·exact .inl h1
 by_cases h2:s=[38,38]
 ·exact(.inr (.inl h2))
 by_cases h3:s=[61,61]
 ·exact(.inr (.inr (.inl h3)))
 by_cases h4:s=[33,61]
 ·exact(.inr (.inr (.inr (.inl h4))))
 by_cases h5:s=[60]
 ·exact(.inr (.inr (.inr (.inr (.inl h5)))))
 by_cases h6:s=[60,61]
 ·exact(.inr (.inr (.inr (.inr (.inr (.inl h6))))))
 by_cases h7:s=[62]
 ·exact(.inr (.inr (.inr (.inr (.inr (.inr (.inl h7)))))))
 by_cases h8:s=[62,61]
 ·exact(.inr (.inr (.inr (.inr (.inr (.inr (.inr (.inl h8))))))))
 by_cases h9:s=[43]
 ·exact(.inr (.inr (.inr (.inr (.inr (.inr (.inr (.inr (.inl h9)))))))))
 by_cases h10:s=[45]
 ·exact(.inr (.inr (.inr (.inr (.inr (.inr (.inr (.inr (.inr (.inl h10))))))))))
 by_cases h11:s=[42]
 ·exact(.inr (.inr (.inr (.inr (.inr (.inr (.inr (.inr (.inr (.inr (.inl h11)))))))))))
 by_cases h12:s=[47]
 ·exact(.inr (.inr (.inr (.inr (.inr (.inr (.inr (.inr (.inr (.inr (.inr (.inl h12))))))))))))
 by_cases h13:s=[37]
 ·exact(.inr (.inr (.inr (.inr (.inr (.inr (.inr (.inr (.inr (.inr (.inr (.inr (.inl h13)))))))))))))
 refine(.inr (.inr (.inr (.inr (.inr (.inr (.inr (.inr (.inr (.inr (.inr (.inr (.inr ⟨⟨Qn.2 h1,Qn.2 h2,Qn.2 h3,Qn.2 h4,Qn.2 h5,Qn.2 h6,Qn.2 h7,Qn.2 h8,Qn.2 h9,Qn.2 h10,Qn.2 h11,Qn.2 h12,Qn.2 h13⟩,?_⟩)))))))))))));unfold mX;rw[if_neg h1,if_neg h2,if_neg h3,if_neg h4,if_neg h5,if_neg h6,if_neg h7,if_neg h8,if_neg h9,if_neg h10,if_neg h11,if_neg h12,if_neg h13]
theorem mF (s:List UInt8) (a:World):Calls prog 167 #[.string (Z s)] a λe w'=>e=.returned (.int i64 (mX s))/\a=w':=by
 rcases Cc s with rfl|rfl|rfl|rfl|rfl|rfl|rfl|rfl|rfl|rfl|rfl|rfl|rfl|⟨⟨e1,e2,e3,e4,e5,e6,e7,e8,e9,e10,e11,e12,e13⟩,hz⟩
 all_goals
  go_enter func167,ntmps167;go_wp2_with fail;go_ret;refine⟨?_,rfl⟩;first|exact congrArg (λn=>Ending.returned (.int i64 n)) hz.symm|rfl|(simp[mX];done)
theorem em (b:Nat): ∀(h:List Value) (d:Nat) (a:World),a.grownBy (a.setCells b d h) (some b)
 | [],d,a=>⟨rfl,rfl,rfl,ah _,λ_ _ _=>rfl⟩
 |v::r,d,a=>an (show a.grownBy (a.setCell ⟨b,d,none⟩ v) (some b)from⟨rfl,rfl,rfl,by simp[World.setCell],λk _ o=>Below.heap_setCell a ⟨b,d,none⟩ v k (λe=>o (by rw[e]))⟩) (em b r (d+1) _)
theorem et {w0 h w':World} {g k:Nat} (a:w0.grownBy h (some g)) (d:h.grownBy w' (some k)) (u:w0.heap.size<=k):w0.grownBy w' (some g):=
 ⟨d.os.trans a.os,d.tape.trans a.tape,d.output.trans a.output,ay a.size d.size,λi hi o=>(d.block i (aA hi a.size) (λe=>by injection e with e;omega)).trans (a.block i hi o)⟩
theorem aO.put6 {h:World} {g:Nat} {t:TypeId} {A z y w u o:Value} (F:aO h g t #[A,z,y,w,u,o]) (d b c a e f:Value):aO (h.setCells g 0 [d,b,c,a,e,f]) g t #[d,b,c,a,e,f]:=by
 have:=(((((F.set 0 d).set 1 b).set 2 c).set 3 a).set 4 e).set 5 f;simpa[World.setCells]using this
theorem aO.put5' {h:World} {g:Nat} {t:TypeId} {z y w u o:Value} (A:aO h g t #[z,y,w,u,o]) (d b c a e:Value):aO (h.setCells g 0 [d,b,c,a,e]) g t #[d,b,c,a,e]:=by
 have:=((((A.set 0 d).set 1 b).set 2 c).set 3 a).set 4 e;simpa[World.setCells]using this
def rM (g:Nat) (en:Int) (w:World) (r:PR Ex) (e:Ending) (w':World):Prop:=
 w.grownBy w' (some g)/\match r with
 | .ok (x,q)=> ∃A n c,e=.returned (.agg #[.int i64 x.k,.string (Z x.op),.string (Z x.nm),.string (Z x.tx),.int i64 x.v,.slice A n c])/\dS w' (λb=>w.heap.size<=b) (.slice A n c) x.args/\PA w' g q en
 | .error (q,n)=>e=be en q n
def fO (f:Nat):Prop:= ∀(n:Int) (l:List cB) (en:Int) (w:World) (g:Nat),PA w g l en->1<=n->n<=7->4*l.length+2<=f->Calls prog 204 #[.pointer (some ⟨g,0,none⟩),.int i64 n] w (rM g en w (cF f n l))
def sF (f:Nat):Prop:= ∀(l:List cB) (en:Int) (w:World) (g:Nat),PA w g l en->4*l.length+1<=f->Calls prog 229 #[.pointer (some ⟨g,0,none⟩)] w (rM g en w (dw f l))
def jY (f:Nat):Prop:= ∀(nm:List UInt8) (l:List cB) (en:Int) (w:World) (g:Nat),PA w g l en->4*l.length+1<=f->Calls prog 230 #[.pointer (some ⟨g,0,none⟩),.string (Z nm)] w (rM g en w (cZ f nm l))
theorem oB {l:List cB} {k:Int} (d:(cX l).k=k) (a:k≠0): ∃t r,l=t::r:=by
 cases l with
 |nil=>exact absurd d.symm a
 |cons t r=>exact⟨t,r,rfl⟩
theorem PA.next_a {a:World} {g:Nat} {t:cB} {r:List cB} {en:Int} {b off c:Nat} (u:aO a g 124 #[.slice (some ⟨b,off,none⟩) (t::r).length c,.int i64 en]) (d:yG a (some ⟨b,off,none⟩) c (t::r)) (h:b<g) (o:b<a.heap.size) (w:c=1):
  PA (a.setCell ⟨g,0,none⟩ (.slice (some ⟨b,off,none⟩) r.length 0)) g r en/\a.grownBy (a.setCell ⟨g,0,none⟩ (.slice (some ⟨b,off,none⟩) r.length 0)) (some g):=PA.next u d h o _ _ (.inl ⟨w,rfl,rfl⟩)
theorem PA.next_b {a:World} {g:Nat} {t:cB} {r:List cB} {en:Int} {b off c:Nat} (u:aO a g 124 #[.slice (some ⟨b,off,none⟩) (t::r).length c,.int i64 en]) (d:yG a (some ⟨b,off,none⟩) c (t::r)) (h:b<g) (o:b<a.heap.size) (w: ¬c=1):
  PA (a.setCell ⟨g,0,none⟩ (.slice (some ⟨b,off+4,none⟩) r.length (c-1))) g r en/\a.grownBy (a.setCell ⟨g,0,none⟩ (.slice (some ⟨b,off+4,none⟩) r.length (c-1))) (some g):=PA.next u d h o _ _ (.inr ⟨w,rfl,rfl⟩)
theorem iy {g:Nat} {en:Int} {a w':World} {r:PR Ex} {q:List cB} {n:Int} (d:r=.error (q,n)) (h:a.grownBy w' (some g)):rM g en a r (be en q n) w':=by
 subst d;exact⟨h,rfl⟩
theorem qG {f:Nat} {l:List cB} (h: ¬(cX l).k=3) (d: ¬(cX l).k=4) (o: ¬(cX l).k=1) (a:(dJ wf l||dJ ya l)=true):dw (f+1) l=(dw f l.tail).then λx q=> .ok (.mk 6 (cX l).t [] [] 0 [x],q):=by
 rw[dw,if_neg h,if_neg d,if_neg o,if_pos a]
theorem j7 {f:Nat} {l:List cB} (h: ¬(cX l).k=3) (d: ¬(cX l).k=4) (o: ¬(cX l).k=1) (a:(dJ wf l||dJ ya l)=false):dw (f+1) l=(cJ oT l).then λ_ r=>(cF f 1 r).then λx r=>(cJ mA r).then λ_ r=> .ok (x,r):=by
 rw[dw,if_neg h,if_neg d,if_neg o,if_neg (by rw[a];simp)]
theorem l_ {d W:World} {g u:Nat} {en:Int} {q:List cB} {R G F A z y:Value} {r:PR Ex} (x:Ex) (k:Int) (so o h:ByteArray) (v:Int) (a:Option Addr) (n c:Nat) (aa:r=.ok (x,q)) (ae:x.k=k) (H:Z x.op=so) (ad:Z x.nm=o) (X:Z x.tx=h) (V:x.v=v) (I:u=d.heap.size)
  (al:aO W u 206 #[R,G,F,A,z,y]) (aj:d.grownBy W (some g)) (ai:PA W g q en) (am:g<d.heap.size) (ag:dS W (λb=>d.heap.size+1<=b) (.slice a n c) x.args):
  (∀i,(W.setCells u 0 [.int i64 k,.string so,.string o,.string h,.int i64 v,.slice a n c]).cell? ⟨u,i,none⟩=(#[.int i64 k,.string so,.string o,.string h,.int i64 v,.slice a n c]:Array Value)[i]?)/\
  rM g en d r (.returned (.agg #[.int i64 k,.string so,.string o,.string h,.int i64 v,.slice a n c])) (W.setCells u 0 [.int i64 k,.string so,.string o,.string h,.int i64 v,.slice a n c]):=by
 subst aa ae H ad X V I;have w:=em d.heap.size [.int i64 x.k,.string (Z x.op),.string (Z x.nm),.string (Z x.tx),.int i64 x.v,.slice a n c] 0 W;refine⟨(aO.put6 al _ _ _ _ _ _).cell,et aj w (ah _),a,n,c,rfl,ag.keep (.of_grown w λb af e=>by injection e with e;omega) λb af _=>by omega,ai.grown w λk e=>by injection e with e;omega⟩
theorem BE (f:Nat) (l:List cB) (en:Int) (a:World) (g:Nat) (o:PA a g l en) (H:(cX l).k=3):Calls prog 229 #[.pointer (some ⟨g,0,none⟩)] a (rM g en a (dw (f+1) l)):=by
 obtain⟨⟨k,tx,v,fr⟩,r,rfl⟩:=oB H Qd;obtain rfl:k=3:=H;have am:=G (show dw (f+1) (⟨3,tx,v,fr⟩::r)=.ok (.mk 1 [] [] [] v [],r)from by rw[dw];rfl);have y:=G (aa a (.cells #[.int i64 0,.string ⟨#[]⟩,.string ⟨#[]⟩,.string ⟨#[]⟩,.int i64 0,.slice none 0 0] 206));have ap:=G (aq a 206 #[.int i64 0,.string ⟨#[]⟩,.string ⟨#[]⟩,.string ⟨#[]⟩,.int i64 0,.slice none 0 0]);have z:=G (fq g _ en _ (o.ext y.out));have ao:=G o;have ai:=o.lt;clear o;simp only[cX]at z;go_enter func229,ntmps229;go_wp2_with (go_at_call 158;refine z.out.mono ?_;rintro e ag ⟨rfl,ae⟩;have w:=G (ae.alloc' (.cells #[.int i64 3,.string (Z tx),.int i64 v,.int i64 fr] 188));have A:=G (ap.out.ext w.out);have ay:=G (aq ag 188 #[.int i64 3,.string (Z tx),.int i64 v,.int i64 fr]);have au:=A.out.cell;have ar:=A.out.frozen;have ah:a.heap.size≠g:=J;have av:g≠a.heap.size:=J;clear ae z;obtain⟨az,c,d,u,V⟩:=(ao.out.ext y.out).ext w.out;obtain⟨b,off,rfl,X,_⟩:=u.at_ 0 Qe;have ax:=d.cell;have aw:=d.frozen);all_goals
  first|have R:=PA.next_a d u (V b off rfl Qe) X (by assumption)|have R:=PA.next_b d u (V b off rfl Qe) X (by assumption)
  obtain⟨al,af⟩:=R;have aj:=A.out.grown af (λe=>ah (I e));obtain⟨F,ad⟩:=l_ (.mk 1 [] [] [] v []) 1 ⟨#[]⟩ ⟨#[]⟩ ⟨#[]⟩ v none 0 0 am.out rfl rfl rfl rfl rfl rfl aj (an ((y.out.trans w.out).grownBy _) af) al ai (.nil _ _);simp only[World.setCells,aE,Nat.reduceAdd]at F ad;exact bodyPost_ret (v:=.agg #[.int i64 1,.string ⟨#[]⟩,.string ⟨#[]⟩,.string ⟨#[]⟩,.int i64 v,.slice none 0 0]) (by simp[results,results229,go_sem,F]) rfl ad
theorem BD (f:Nat) (l:List cB) (en:Int) (a:World) (g:Nat) (o:PA a g l en) (H:(cX l).k=4):Calls prog 229 #[.pointer (some ⟨g,0,none⟩)] a (rM g en a (dw (f+1) l)):=by
 obtain⟨⟨k,tx,v,fr⟩,r,rfl⟩:=oB H Qd;obtain rfl:k=4:=H;have am:=G (show dw (f+1) (⟨4,tx,v,fr⟩::r)=.ok (.mk 2 [] [] tx 0 [],r)from by rw[dw];rfl);have y:=G (aa a (.cells #[.int i64 0,.string ⟨#[]⟩,.string ⟨#[]⟩,.string ⟨#[]⟩,.int i64 0,.slice none 0 0] 206));have ap:=G (aq a 206 #[.int i64 0,.string ⟨#[]⟩,.string ⟨#[]⟩,.string ⟨#[]⟩,.int i64 0,.slice none 0 0]);have z:=G (fq g _ en _ (o.ext y.out));have ao:=G o;have ai:=o.lt;clear o;simp only[cX]at z;go_enter func229,ntmps229;go_wp2_with (go_at_call 158;refine z.out.mono ?_;rintro e ag ⟨rfl,ae⟩;have w:=G (ae.alloc' (.cells #[.int i64 4,.string (Z tx),.int i64 v,.int i64 fr] 188));have A:=G (ap.out.ext w.out);have ay:=G (aq ag 188 #[.int i64 4,.string (Z tx),.int i64 v,.int i64 fr]);have au:=A.out.cell;have ar:=A.out.frozen;have ah:a.heap.size≠g:=J;have av:g≠a.heap.size:=J;clear ae z;obtain⟨az,c,d,u,V⟩:=(ao.out.ext y.out).ext w.out;obtain⟨b,off,rfl,X,_⟩:=u.at_ 0 Qe;have ax:=d.cell;have aw:=d.frozen);all_goals
  first|have R:=PA.next_a d u (V b off rfl Qe) X (by assumption)|have R:=PA.next_b d u (V b off rfl Qe) X (by assumption)
  obtain⟨al,af⟩:=R;have aj:=A.out.grown af (λe=>ah (I e));obtain⟨F,ad⟩:=l_ (.mk 2 [] [] tx 0 []) 2 ⟨#[]⟩ ⟨#[]⟩ (Z tx) 0 none 0 0 am.out rfl rfl rfl rfl rfl rfl aj (an ((y.out.trans w.out).grownBy _) af) al ai (.nil _ _);simp only[World.setCells,aE,Nat.reduceAdd]at F ad;exact bodyPost_ret (v:=.agg #[.int i64 2,.string ⟨#[]⟩,.string ⟨#[]⟩,.string (Z tx),.int i64 0,.slice none 0 0]) (by simp[results,results229,go_sem,F]) rfl ad
theorem zq (f:Nat) (l:List cB) (en:Int) (a:World) (g:Nat) (X:PA a g l en) (aA:jY f) (aJ:4*l.length+1<=f+1) (au:(cX l).k=1):Calls prog 229 #[.pointer (some ⟨g,0,none⟩)] a (rM g en a (dw (f+1) l)):=by
 obtain⟨⟨k,nm,v,fr⟩,r,rfl⟩:=oB au Qd;obtain rfl:k=1:=au;have H:=G (show dw (f+1) (⟨1,nm,v,fr⟩::r)=cZ f nm r from by rw[dw];rfl);have F:=G (aa a (.cells #[.int i64 0,.string ⟨#[]⟩,.string ⟨#[]⟩,.string ⟨#[]⟩,.int i64 0,.slice none 0 0] 206));have aC:=G (aq a 206 #[.int i64 0,.string ⟨#[]⟩,.string ⟨#[]⟩,.string ⟨#[]⟩,.int i64 0,.slice none 0 0]);have R:=G (fq g _ en _ (X.ext F.out));have aB:=G X;have aI:=X.lt;clear X;simp only[cX]at R;have aw:4*r.length+1<=f:=by simp only[ag]at aJ;omega
 cases hpn:cZ f nm r with
 |error q=>
  obtain⟨q,n⟩:=q;rw[hpn]at H;go_enter func229,ntmps229;go_wp2_with (first|(go_at_call 158;refine R.out.mono ?_;rintro e ad ⟨rfl,z⟩;have o:=G (z.alloc' (.cells #[.int i64 1,.string (Z nm),.int i64 v,.int i64 fr] 188));have u:=G (aC.out.ext o.out);have aL:=G (aq ad 188 #[.int i64 1,.string (Z nm),.int i64 v,.int i64 fr]);have af:=u.out.cell;have ae:=u.out.frozen;have V:a.heap.size≠g:=J;have aH:g≠a.heap.size:=J;clear z R;have ai:=G ((aB.out.ext F.out).ext o.out))|(go_at_call 100;refine(j8 g _ en _ ai.out rfl).mono ?_;simp only[cX,List.tail_cons];rintro e ap ⟨rfl,A,d⟩;have ah:=G A;have al:=G (an ((F.out.trans o.out).grownBy _) d);have ao:=G (u.out.grown d (λe=>V (I e)));clear A d)|(go_at_call 230;refine(aA nm r en _ g ah.out aw).mono ?_;intro e aF y;rw[hpn]at y;obtain⟨w,rfl⟩:=y;unfold be;have aj:=G (an al.out w);clear w));exact⟨rfl,iy H.out aj.out⟩
 |ok p=>
  obtain⟨x,q⟩:=p;rw[hpn]at H;have aN:=H;go_enter func229,ntmps229;go_wp2_with (first|(go_at_call 158;refine R.out.mono ?_;rintro e ad ⟨rfl,z⟩;have o:=G (z.alloc' (.cells #[.int i64 1,.string (Z nm),.int i64 v,.int i64 fr] 188));have u:=G (aC.out.ext o.out);have aL:=G (aq ad 188 #[.int i64 1,.string (Z nm),.int i64 v,.int i64 fr]);have af:=u.out.cell;have ae:=u.out.frozen;have V:a.heap.size≠g:=J;have aH:g≠a.heap.size:=J;clear z R;have ai:=G ((aB.out.ext F.out).ext o.out))|(go_at_call 100;refine(j8 g _ en _ ai.out rfl).mono ?_;simp only[cX,List.tail_cons];rintro e ap ⟨rfl,A,d⟩;have ah:=G A;have al:=G (an ((F.out.trans o.out).grownBy _) d);have ao:=G (u.out.grown d (λe=>V (I e)));clear A d)|(go_at_call 230;refine(aA nm r en _ g ah.out aw).mono ?_;intro e aF y;rw[hpn]at y;obtain⟨w,aD,n,c,rfl,ax,az⟩:=y;have aj:=G (an al.out w);have am:=G (ao.out.grown w (λe=>V (I e)));have aG:a.heap.size+1<=ap.heap.size:=(by have:=ao.out.lt;omega);have aM:=G (ax.mono (λb aK _=>ay aG aK));have aO:=G az;clear af ae;have af:=am.out.cell;have ae:=am.out.frozen;clear w ax az));obtain⟨ar,av⟩:=l_ (x) x.k (Z x.op) (Z x.nm) (Z x.tx) x.v aD n c aN.out rfl rfl rfl rfl rfl rfl am.out aj.out aO.out aI aM.out;simp only[World.setCells,aE,Nat.reduceAdd]at ar av;exact bodyPost_ret (v:=.agg #[.int i64 x.k,.string (Z x.op),.string (Z x.nm),.string (Z x.tx),.int i64 x.v,.slice aD n c]) (by simp[results,results229,go_sem,ar]) rfl av
theorem wY (f:Nat) (l:List cB) (en:Int) (z:World) (g:Nat) (d:PA z g l en) (aV:sF f) (a6:4*l.length+1<=f+1) (az: ¬(cX l).k=3) (ax: ¬(cX l).k=4) (aA: ¬(cX l).k=1) (au:dJ wf l=true):Calls prog 229 #[.pointer (some ⟨g,0,none⟩)] z (rM g en z (dw (f+1) l)):=by
 obtain⟨⟨k,tx,v,fr⟩,r,rfl⟩: ∃t r,l=t::r:=by
  cases l with
  |nil=>exact absurd rfl (oA au)
  |cons t r=>exact⟨t,r,rfl⟩
 simp only[cX]at az ax aA;have bv:(k==3)=false:=Qn.2 az;have bu:(k==4)=false:=Qn.2 ax;have bw:(k==1)=false:=Qn.2 aA;have aK:=G (show dw (f+1) (⟨k,tx,v,fr⟩::r)=(dw f r).then λx q=> .ok (.mk 6 tx [] [] 0 [x],q)from qG az ax aA (by rw[au];rfl));have aU:4*r.length+1<=f:=by simp only[ag]at a6;omega
 have aH:=G (aa z (.cells #[.int i64 0,.string ⟨#[]⟩,.string ⟨#[]⟩,.string ⟨#[]⟩,.int i64 0,.slice none 0 0] 206));have a1:=G (aq z 206 #[.int i64 0,.string ⟨#[]⟩,.string ⟨#[]⟩,.string ⟨#[]⟩,.int i64 0,.slice none 0 0]);have aN:=G (fq g _ en _ (d.ext aH.out));have bl:=G d;have a5:=d.lt;clear d;simp only[cX]at aN;go_enter func229,ntmps229;go_wp2_with (first|(go_at_call 158;refine aN.out.mono ?_;rintro e F ⟨rfl,A⟩;have bq:z.heap.size<F.heap.size:=(by have:=a1.out.lt;have:=dr A;omega);have aG:=G (A.alloc' (.cells #[.int i64 k,.string (Z tx),.int i64 v,.int i64 fr] 188));have aP:=G (a1.out.ext aG.out);have bi:=G (aq F 188 #[.int i64 k,.string (Z tx),.int i64 v,.int i64 fr]);have al:=aP.out.cell;have aj:=aP.out.frozen;have aR:z.heap.size≠g:=J;have br:g≠z.heap.size:=J;clear A aN;have aM:=G ((bl.out.ext aH.out).ext aG.out))|(go_at_call 157;refine(iV g _ en wf _ aM.out).mono ?_;rw[au];rintro e bn ⟨rfl,A⟩;have bg:=G (aG.out.trans A);have bk:=G (aM.out.ext A);have aO:=G (aP.out.ext A);have bh:=G (bi.out.ext A);clear al aj;have al:=aO.out.cell;have aj:=aO.out.frozen;clear aM;obtain⟨u,c,a,ai,ar⟩:=bk.out;obtain⟨b,off,rfl,av,_⟩:=ai.at_ 0 Qe;have a9:=a.cell;have a8:=a.frozen;clear A));all_goals
  first|have aS:=PA.next_a a ai (ar b off rfl Qe) av (by assumption)|have aS:=PA.next_b a ai (ar b off rfl Qe) av (by assumption)
  obtain⟨aW,am⟩:=aS;have ap:F.heap.size≠g:=J
  have aY:=G (an ((aH.out.trans bg.out).grownBy (some g)) am);have aZ:=G (aO.out.grown am (λe=>aR (I e)));have aX:=G (bh.out.grown am (λe=>ap (I e)));have aL:=G aW;clear a ai ar av a9 a8 al aj am aW;generalize World.setCell _ _ _=ah at*
  cases hpp:dw f r with
  |error p=>
   obtain⟨q,n⟩:=p;rw[hpp]at aK;refine cS 6 12 [(3,λv=>v=.agg #[.int i64 0,.string ⟨#[]⟩,.string ⟨#[]⟩,.string ⟨#[]⟩,.int i64 0,.slice none 0 0],λ_ _=>False),(4,λv=> ∃V,v=.slice (some ⟨V,0,none⟩) 1 1,λ_ _=>True)] 3 (some g) mixed Qb ⟨λ_ _ _ d _=>d,λ_ _ _ d _=>d,trivial⟩ ⟨.inl rfl,.inr λ_ _ _ d _=>d,trivial⟩ ?_;repeat (refine sx ?_ (λF w=> ?_) ?_;rotate_left;(focus have bf:=(aX.out.grown (aJ w) (λe=>ap (I e))).cell;clear w;go_simp<;>with_reducible rfl);simp only[bE,bD,bC,bB,bA])
   refine dL _ _ Qf rfl ⟨_,rfl⟩ rfl (λy R o K H=> ?_) ?_
   ·clear o;have aB:=aV r en y g (aL.out.ext R.un) aU;have aI:=G R.un;clear R;go_simp;refine aB.mono ?_;intro e a2 ad;rw[hpp]at ad;obtain⟨aC,rfl⟩:=ad;unfold be;intro bx a7;exact⟨a7,iy aK.out (an aY.out (an (aI.out.grownBy _) aC))⟩
   rintro _ rfl;simp only[bE,bD,bC,bB,bA];refine cU _ _ Qf rfl ⟨_,0,rfl⟩ Qe (λy w o K H=> ?_) ?_
   ·clear o;go_simp;exact H _ _ (aa y _) ⟨_,rfl⟩ trivial
   rintro _ ⟨V,rfl⟩;simp only[bE,bD,bC,bB,bA];repeat (refine sx ?_ (λF w=> ?_) ?_;rotate_left;(focus go_simp<;>with_reducible rfl);simp only[bE,bD,bC,bB,bA])
   intro y bp o;exact(o _ (.tail _ (.head _))).elim
  |ok p=>
   obtain⟨x,q⟩:=p;have bj:=G (show dw (f+1) (⟨k,tx,v,fr⟩::r)=.ok (.mk 6 tx [] [] 0 [x],q)from by rw[aK.out,hpp];rfl);have bt:g<ah.heap.size:=aL.out.lt;have a4:z.heap.size+1<=ah.heap.size:=aZ.out.lt
   refine cS 6 12 [(3,λv=> ∃u n c,v=.agg #[.int i64 x.k,.string (Z x.op),.string (Z x.nm),.string (Z x.tx),.int i64 x.v,.slice u n c],λv af=> ∀u n c,v=.agg #[.int i64 x.k,.string (Z x.op),.string (Z x.nm),.string (Z x.tx),.int i64 x.v,.slice u n c]->dS af (λb=>ah.heap.size<=b) (.slice u n c) x.args/\PA af g q en),
     (4,λv=> ∃V,v=.slice (some ⟨V,0,none⟩) 1 1,λv af=>dS af (λb=>ah.heap.size<=b) v [x])] 3 (some g) mixed Qb
    ⟨λ_ _ _ d X u n c e=>⟨(d u n c e).1.keep (.of_ext X) (λ_ a _=>a),(d u n c e).2.ext X⟩,λ_ _ _ d X=>d.keep (.of_ext X) (λ_ a _=>a),trivial⟩
    ⟨.inl rfl,.inr λ_ _ _ d X=>d.keep (.of_grown X λb a e=>by injection e with e;omega) (λ_ a _=>a),trivial⟩ ?_
   repeat (refine sx ?_ (λF w=> ?_) ?_;rotate_left;(focus have bf:=(aX.out.grown (aJ w) (λe=>ap (I e))).cell;clear w;go_simp<;>with_reducible rfl);simp only[bE,bD,bC,bB,bA])
   refine dL _ _ Qf rfl ⟨_,none,0,0,rfl⟩ rfl (λy R o K H=> ?_) ?_
   ·clear o;have aB:=aV r en y g (aL.out.ext R.un) aU;have aI:=G R.un;clear R;go_simp;refine aB.mono ?_;intro e a2 ad;rw[hpp]at ad;obtain⟨aC,u,n,c,rfl,ba,bb⟩:=ad;exact H _ _ aC ⟨_,_,_,rfl⟩ (λbz bo c' e=>by injection e with e;simp only[gu,dT,ff,and_true,true_and]at e;obtain⟨rfl,rfl,rfl⟩:=e;exact⟨ba.mono (λb a _=>ay (dr aI.out) a),bb⟩)
   rintro _ ⟨u,n,c,rfl⟩;simp only[bE,bD,bC,bB,bA];refine cU _ _ Qf rfl ⟨_,0,rfl⟩ Qe (λy w o K H=> ?_) ?_
   ·have aF:=(o _ (.head _) Qb) u n c rfl;have a3:=(aJ w).size;clear o w;go_simp;exact H _ _ (aa y _) ⟨_,rfl⟩ (dS.one (aq y _ _) a3 (aF.1.keep (.of_ext (aa y _)) (λ_ a _=>a)))
   rintro _ ⟨V,rfl⟩;simp only[bE,bD,bC,bB,bA];repeat (refine sx ?_ (λF w=> ?_) ?_;rotate_left;(focus go_simp<;>with_reducible rfl);simp only[bE,bD,bC,bB,bA])
   intro bm ao o;have bd:=o _ (.head _);have aF:=(o _ (.tail _ (.head _)) u n c rfl).2;clear o;simp only[ae,aw];have bc:=an aY.out (aJ ao);have aD:=aZ.out.grown (aJ ao) (λe=>aR (I e));have al:=aD.cell;have aj:=aD.frozen;clear ao;go_wp2_with fail;obtain⟨aQ,aT⟩:=l_ (.mk 6 tx [] [] 0 [x]) 6 (Z tx) ⟨#[]⟩ ⟨#[]⟩ 0 (some ⟨V,0,none⟩) 1 1 bj.out rfl rfl rfl rfl rfl rfl aD bc aF a5 (bd.mono λb a _=>ay a4 a);simp only[World.setCells,aE,Nat.reduceAdd]at aQ aT;exact bodyPost_ret (v:=.agg #[.int i64 6,.string (Z tx),.string ⟨#[]⟩,.string ⟨#[]⟩,.int i64 0,.slice (some ⟨V,0,none⟩) 1 1]) (by simp[results,results229,go_sem,aQ]) rfl aT
theorem BF (f:Nat) (l:List cB) (en:Int) (A:World) (g:Nat) (d:PA A g l en) (aY:sF f) (a9:4*l.length+1<=f+1) (az: ¬(cX l).k=3) (ax: ¬(cX l).k=4) (aA: ¬(cX l).k=1) (aV:dJ wf l=false) (ar:dJ ya l=true):Calls prog 229 #[.pointer (some ⟨g,0,none⟩)] A (rM g en A (dw (f+1) l)):=by
 obtain⟨⟨k,tx,v,fr⟩,r,rfl⟩: ∃t r,l=t::r:=by
  cases l with
  |nil=>exact absurd rfl (oA ar)
  |cons t r=>exact⟨t,r,rfl⟩
 simp only[cX]at az ax aA;have bH:(k==3)=false:=Qn.2 az;have bG:(k==4)=false:=Qn.2 ax;have bI:(k==1)=false:=Qn.2 aA;have aK:=G (show dw (f+1) (⟨k,tx,v,fr⟩::r)=(dw f r).then λx q=> .ok (.mk 6 tx [] [] 0 [x],q)from qG az ax aA (by rw[aV,ar];rfl));have aX:4*r.length+1<=f:=by simp only[ag]at a9;omega
 have aH:=G (aa A (.cells #[.int i64 0,.string ⟨#[]⟩,.string ⟨#[]⟩,.string ⟨#[]⟩,.int i64 0,.slice none 0 0] 206));have a4:=G (aq A 206 #[.int i64 0,.string ⟨#[]⟩,.string ⟨#[]⟩,.string ⟨#[]⟩,.int i64 0,.slice none 0 0]);have aO:=G (fq g _ en _ (d.ext aH.out));have bq:=G d;have a8:=d.lt;clear d;simp only[cX]at aO;go_enter func229,ntmps229;go_wp2_with (first|(go_at_call 158;refine aO.out.mono ?_;rintro e F ⟨rfl,u⟩;have bx:A.heap.size<F.heap.size:=(by have:=a4.out.lt;have:=dr u;omega);have aG:=G (u.alloc' (.cells #[.int i64 k,.string (Z tx),.int i64 v,.int i64 fr] 188));have aR:=G (a4.out.ext aG.out);have bn:=G (aq F 188 #[.int i64 k,.string (Z tx),.int i64 v,.int i64 fr]);have ad:=aR.out.cell;have H:=aR.out.frozen;have aT:A.heap.size≠g:=J;have bz:g≠A.heap.size:=J;clear u aO;have aN:=G ((bq.out.ext aH.out).ext aG.out))|(go_at_call 157;refine(iV g _ en wf _ aN.out).mono ?_;rw[aV];rintro e bu ⟨rfl,u⟩;have bk:=G (aG.out.trans u);have aM:=G (aN.out.ext u);have aQ:=G (aR.out.ext u);have bm:=G (bn.out.ext u);clear ad H;have ad:=aQ.out.cell;have H:=aQ.out.frozen;clear aN)|(go_at_call 157;refine(iV g _ en ya _ aM.out).mono ?_;rw[ar];rintro e bt ⟨rfl,u⟩;have bj:=G (bk.out.trans u);have bp:=G (aM.out.ext u);have aP:=G (aQ.out.ext u);have bl:=G (bm.out.ext u);clear ad H;have ad:=aP.out.cell;have H:=aP.out.frozen;clear aM;obtain⟨w,c,a,al,au⟩:=bp.out;obtain⟨b,off,rfl,av,_⟩:=al.at_ 0 Qe;have bc:=a.cell;have bb:=a.frozen;clear u));all_goals
  first|have aU:=PA.next_a a al (au b off rfl Qe) av (by assumption)|have aU:=PA.next_b a al (au b off rfl Qe) av (by assumption)
  obtain⟨aZ,am⟩:=aU;have ap:F.heap.size≠g:=J
  have a2:=G (an ((aH.out.trans bj.out).grownBy (some g)) am);have a3:=G (aP.out.grown am (λe=>aT (I e)));have a1:=G (bl.out.grown am (λe=>ap (I e)));have aL:=G aZ;clear a al au av bc bb ad H am aZ;generalize World.setCell _ _ _=aj at*
  cases hpp:dw f r with
  |error p=>
   obtain⟨q,n⟩:=p;rw[hpp]at aK;refine cS 6 12 [(3,λv=>v=.agg #[.int i64 0,.string ⟨#[]⟩,.string ⟨#[]⟩,.string ⟨#[]⟩,.int i64 0,.slice none 0 0],λ_ _=>False),(4,λv=> ∃V,v=.slice (some ⟨V,0,none⟩) 1 1,λ_ _=>True)] 3 (some g) mixed Qb ⟨λ_ _ _ d _=>d,λ_ _ _ d _=>d,trivial⟩ ⟨.inl rfl,.inr λ_ _ _ d _=>d,trivial⟩ ?_;repeat (refine sx ?_ (λF y=> ?_) ?_;rotate_left;(focus have bi:=(a1.out.grown (aJ y) (λe=>ap (I e))).cell;clear y;go_simp<;>with_reducible rfl);simp only[bE,bD,bC,bB,bA])
   refine dL _ _ Qf rfl ⟨_,rfl⟩ rfl (λz R o K af=> ?_) ?_
   ·clear o;have aB:=aY r en z g (aL.out.ext R.un) aX;have aI:=G R.un;clear R;go_simp;refine aB.mono ?_;intro e a5 ah;rw[hpp]at ah;obtain⟨aC,rfl⟩:=ah;unfold be;intro bJ ba;exact⟨ba,iy aK.out (an a2.out (an (aI.out.grownBy _) aC))⟩
   rintro _ rfl;simp only[bE,bD,bC,bB,bA];refine cU _ _ Qf rfl ⟨_,0,rfl⟩ Qe (λz y o K af=> ?_) ?_
   ·clear o;go_simp;exact af _ _ (aa z _) ⟨_,rfl⟩ trivial
   rintro _ ⟨V,rfl⟩;simp only[bE,bD,bC,bB,bA];repeat (refine sx ?_ (λF y=> ?_) ?_;rotate_left;(focus go_simp<;>with_reducible rfl);simp only[bE,bD,bC,bB,bA])
   intro z bw o;exact(o _ (.tail _ (.head _))).elim
  |ok p=>
   obtain⟨x,q⟩:=p;have bo:=G (show dw (f+1) (⟨k,tx,v,fr⟩::r)=.ok (.mk 6 tx [] [] 0 [x],q)from by rw[aK.out,hpp];rfl);have bF:g<aj.heap.size:=aL.out.lt;have a7:A.heap.size+1<=aj.heap.size:=a3.out.lt
   refine cS 6 12 [(3,λv=> ∃w n c,v=.agg #[.int i64 x.k,.string (Z x.op),.string (Z x.nm),.string (Z x.tx),.int i64 x.v,.slice w n c],λv ai=> ∀w n c,v=.agg #[.int i64 x.k,.string (Z x.op),.string (Z x.nm),.string (Z x.tx),.int i64 x.v,.slice w n c]->dS ai (λb=>aj.heap.size<=b) (.slice w n c) x.args/\PA ai g q en),
     (4,λv=> ∃V,v=.slice (some ⟨V,0,none⟩) 1 1,λv ai=>dS ai (λb=>aj.heap.size<=b) v [x])] 3 (some g) mixed Qb
    ⟨λ_ _ _ d X w n c e=>⟨(d w n c e).1.keep (.of_ext X) (λ_ a _=>a),(d w n c e).2.ext X⟩,λ_ _ _ d X=>d.keep (.of_ext X) (λ_ a _=>a),trivial⟩
    ⟨.inl rfl,.inr λ_ _ _ d X=>d.keep (.of_grown X λb a e=>by injection e with e;omega) (λ_ a _=>a),trivial⟩ ?_
   repeat (refine sx ?_ (λF y=> ?_) ?_;rotate_left;(focus have bi:=(a1.out.grown (aJ y) (λe=>ap (I e))).cell;clear y;go_simp<;>with_reducible rfl);simp only[bE,bD,bC,bB,bA])
   refine dL _ _ Qf rfl ⟨_,none,0,0,rfl⟩ rfl (λz R o K af=> ?_) ?_
   ·clear o;have aB:=aY r en z g (aL.out.ext R.un) aX;have aI:=G R.un;clear R;go_simp;refine aB.mono ?_;intro e a5 ah;rw[hpp]at ah;obtain⟨aC,w,n,c,rfl,bd,bf⟩:=ah;exact af _ _ aC ⟨_,_,_,rfl⟩ (λbK bv c' e=>by injection e with e;simp only[gu,dT,ff,and_true,true_and]at e;obtain⟨rfl,rfl,rfl⟩:=e;exact⟨bd.mono (λb a _=>ay (dr aI.out) a),bf⟩)
   rintro _ ⟨w,n,c,rfl⟩;simp only[bE,bD,bC,bB,bA];refine cU _ _ Qf rfl ⟨_,0,rfl⟩ Qe (λz y o K af=> ?_) ?_
   ·have aF:=(o _ (.head _) Qb) w n c rfl;have a6:=(aJ y).size;clear o y;go_simp;exact af _ _ (aa z _) ⟨_,rfl⟩ (dS.one (aq z _ _) a6 (aF.1.keep (.of_ext (aa z _)) (λ_ a _=>a)))
   rintro _ ⟨V,rfl⟩;simp only[bE,bD,bC,bB,bA];repeat (refine sx ?_ (λF y=> ?_) ?_;rotate_left;(focus go_simp<;>with_reducible rfl);simp only[bE,bD,bC,bB,bA])
   intro br ao o;have bh:=o _ (.head _);have aF:=(o _ (.tail _ (.head _)) w n c rfl).2;clear o;simp only[ae,aw];have bg:=an a2.out (aJ ao);have aD:=a3.out.grown (aJ ao) (λe=>aT (I e));have ad:=aD.cell;have H:=aD.frozen;clear ao;go_wp2_with fail;obtain⟨aS,aW⟩:=l_ (.mk 6 tx [] [] 0 [x]) 6 (Z tx) ⟨#[]⟩ ⟨#[]⟩ 0 (some ⟨V,0,none⟩) 1 1 bo.out rfl rfl rfl rfl rfl rfl aD bg aF a8 (bh.mono λb a _=>ay a7 a);simp only[World.setCells,aE,Nat.reduceAdd]at aS aW;exact bodyPost_ret (v:=.agg #[.int i64 6,.string (Z tx),.string ⟨#[]⟩,.string ⟨#[]⟩,.int i64 0,.slice (some ⟨V,0,none⟩) 1 1]) (by simp[results,results229,go_sem,aS]) rfl aW
theorem zw (f:Nat) (l:List cB) (en:Int) (d:World) (g:Nat) (w:PA d g l en) (aK:fO f) (aG:4*l.length+1<=f+1) (z: ¬(cX l).k=3) (y: ¬(cX l).k=4) (A: ¬(cX l).k=1) (ag:dJ wf l=false) (af:dJ ya l=false) (ah:dJ oT l=false):Calls prog 229 #[.pointer (some ⟨g,0,none⟩)] d (rM g en d (dw (f+1) l)):=by
 have aj:=G (j7 (f:=f) z y A (by rw[ag,af];rfl));have R:=G (aa d (.cells #[.int i64 0,.string ⟨#[]⟩,.string ⟨#[]⟩,.string ⟨#[]⟩,.int i64 0,.slice none 0 0] 206));have am:=G (aq d 206 #[.int i64 0,.string ⟨#[]⟩,.string ⟨#[]⟩,.string ⟨#[]⟩,.int i64 0,.slice none 0 0]);have I:=G (fq g _ en _ (w.ext R.out));have ax:=G w;have aF:=w.lt;clear w;have av:=G (show dw (f+1) l=.error (l,3)from by rw[aj.out];unfold cJ;rw[ah];rfl);clear aj;generalize cX l=t at*;obtain⟨k,tx,v,fr⟩:=t;simp only at z y A I;have aI:(k==3)=false:=Qn.2 z;have aH:(k==4)=false:=Qn.2 y;have aJ:(k==1)=false:=Qn.2 A;go_enter func229,ntmps229;go_wp2_with (first|(go_at_call 158;refine I.out.mono ?_;rintro e ae ⟨rfl,a⟩;have aD:d.heap.size<ae.heap.size:=(by have:=am.out.lt;have:=dr a;omega);have F:=G (a.alloc' (.cells #[.int i64 k,.string (Z tx),.int i64 v,.int i64 fr] 188));have ad:=G (am.out.ext F.out);have au:=G (aq ae 188 #[.int i64 k,.string (Z tx),.int i64 v,.int i64 fr]);have u:=ad.out.cell;have o:=ad.out.frozen;have aC:d.heap.size≠g:=J;have aE:g≠d.heap.size:=J;clear a I;have X:=G ((ax.out.ext R.out).ext F.out))|(go_at_call 157;refine(iV g _ en wf _ X.out).mono ?_;rw[ag];rintro e aB ⟨rfl,a⟩;have ap:=G (F.out.trans a);have V:=G (X.out.ext a);have H:=G (ad.out.ext a);have ar:=G (au.out.ext a);clear u o;have u:=H.out.cell;have o:=H.out.frozen;clear X)|(go_at_call 157;refine(iV g _ en ya _ V.out).mono ?_;rw[af];rintro e aA ⟨rfl,a⟩;have ao:=G (ap.out.trans a);have aw:=G (V.out.ext a);have al:=G (H.out.ext a);have aL:=G (ar.out.ext a);clear u o;have u:=al.out.cell;have o:=al.out.frozen;clear V)|(go_at_call 99;refine(iq g _ en oT _ aw.out ah).mono ?_;unfold be;rintro e az ⟨rfl,ai⟩;have ay:=G (an ((R.out.trans ao.out).grownBy _) ai);clear ai));exact⟨rfl,iy av.out ay.out⟩
theorem zu (f:Nat) (l:List cB) (en:Int) (d:World) (g:Nat) (w:PA d g l en) (aA:fO f) (aR:4*l.length+1<=f+1) (A: ¬(cX l).k=3) (z: ¬(cX l).k=4) (F: ¬(cX l).k=1) (am:dJ wf l=false) (al:dJ ya l=false) (y:dJ oT l=true) (q:List cB) (n:Int) (aj:cF f 1 l.tail=.error (q,n)):Calls prog 229 #[.pointer (some ⟨g,0,none⟩)] d (rM g en d (dw (f+1) l)):=by
 have au:=G (j7 (f:=f) A z F (by rw[am,al];rfl));have X:=G (aa d (.cells #[.int i64 0,.string ⟨#[]⟩,.string ⟨#[]⟩,.string ⟨#[]⟩,.int i64 0,.slice none 0 0] 206));have ax:=G (aq d 206 #[.int i64 0,.string ⟨#[]⟩,.string ⟨#[]⟩,.string ⟨#[]⟩,.int i64 0,.slice none 0 0]);have ae:=G (fq g _ en _ (w.ext X.out));have aH:=G w;have aQ:=w.lt;clear w;have av:=G (show dw (f+1) l=(cF f 1 l.tail).then λx r=>(cJ mA r).then λ_ r=> .ok (x,r)from by rw[au.out];unfold cJ;rw[y];rfl);have az:4*l.tail.length+2<=f:=by have:=bO y;omega
 clear au;have aF:=G (show dw (f+1) l=.error (q,n)from by rw[av.out,aj];rfl);clear av;generalize cX l=t at*;obtain⟨k,tx,v,fr⟩:=t;simp only at A z F ae;have aT:(k==3)=false:=Qn.2 A;have aS:(k==4)=false:=Qn.2 z;have aU:(k==1)=false:=Qn.2 F;go_enter func229,ntmps229;go_wp2_with (first|(go_at_call 158;refine ae.out.mono ?_;rintro e ai ⟨rfl,a⟩;have aO:d.heap.size<ai.heap.size:=(by have:=ax.out.lt;have:=dr a;omega);have V:=G (a.alloc' (.cells #[.int i64 k,.string (Z tx),.int i64 v,.int i64 fr] 188));have ah:=G (ax.out.ext V.out);have aE:=G (aq ai 188 #[.int i64 k,.string (Z tx),.int i64 v,.int i64 fr]);have u:=ah.out.cell;have o:=ah.out.frozen;have ay:d.heap.size≠g:=J;have aP:g≠d.heap.size:=J;clear a ae;have ad:=G ((aH.out.ext X.out).ext V.out))|(go_at_call 157;refine(iV g _ en wf _ ad.out).mono ?_;rw[am];rintro e aN ⟨rfl,a⟩;have aC:=G (V.out.trans a);have H:=G (ad.out.ext a);have ag:=G (ah.out.ext a);have aD:=G (aE.out.ext a);clear u o;have u:=ag.out.cell;have o:=ag.out.frozen;clear ad)|(go_at_call 157;refine(iV g _ en ya _ H.out).mono ?_;rw[al];rintro e aM ⟨rfl,a⟩;have aB:=G (aC.out.trans a);have aw:=G (H.out.ext a);have af:=G (ag.out.ext a);have aV:=G (aD.out.ext a);clear u o;have u:=af.out.cell;have o:=af.out.frozen;clear H)|(go_at_call 99;refine(fl g _ en oT _ aw.out y).mono ?_;rintro e aL ⟨rfl,ar,R⟩;have aG:=G ar;have aJ:=G (an ((X.out.trans aB.out).grownBy _) R);have aW:=G (af.out.grown R (λe=>ay (I e)));clear ar R aw)|(go_at_call 204;refine(aA 1 _ en _ g aG.out Qd Qd az).mono ?_;intro e aK ao;rw[aj]at ao;obtain⟨ap,rfl⟩:=ao;unfold be;have aI:=G (an aJ.out ap);clear ap));exact⟨rfl,iy aF.out aI.out⟩
theorem zv (f:Nat) (l:List cB) (en:Int) (d:World) (g:Nat) (A:PA d g l en) (aM:fO f) (a5:4*l.length+1<=f+1) (V: ¬(cX l).k=3) (R: ¬(cX l).k=4) (X: ¬(cX l).k=1) (ax:dJ wf l=false) (aw:dJ ya l=false) (F:dJ oT l=true) (x:Ex) (q:List cB) (ar:cF f 1 l.tail=.ok (x,q)) (au:dJ mA q=false):Calls prog 229 #[.pointer (some ⟨g,0,none⟩)] d (rM g en d (dw (f+1) l)):=by
 have aC:=G (j7 (f:=f) V R X (by rw[ax,aw];rfl));have af:=G (aa d (.cells #[.int i64 0,.string ⟨#[]⟩,.string ⟨#[]⟩,.string ⟨#[]⟩,.int i64 0,.slice none 0 0] 206));have aH:=G (aq d 206 #[.int i64 0,.string ⟨#[]⟩,.string ⟨#[]⟩,.string ⟨#[]⟩,.int i64 0,.slice none 0 0]);have aj:=G (fq g _ en _ (A.ext af.out));have aT:=G A;have a4:=A.lt;clear A;have aD:=G (show dw (f+1) l=(cF f 1 l.tail).then λx r=>(cJ mA r).then λ_ r=> .ok (x,r)from by rw[aC.out];unfold cJ;rw[F];rfl);have aK:4*l.tail.length+2<=f:=by have:=bO F;omega
 clear aC;have aR:=G (show dw (f+1) l=.error (q,3)from by rw[aD.out,ar];show(cJ mA q).then (λ_ r=>(Except.ok (x,r):PR Ex))=_;unfold cJ;rw[au];rfl);clear aD;generalize cX l=t at*;obtain⟨k,tx,v,fr⟩:=t;simp only at V R X aj;have a7:(k==3)=false:=Qn.2 V;have a6:(k==4)=false:=Qn.2 R;have a8:(k==1)=false:=Qn.2 X;go_enter func229,ntmps229;go_wp2_with (first|(go_at_call 158;refine aj.out.mono ?_;rintro e ap ⟨rfl,a⟩;have a2:d.heap.size<ap.heap.size:=(by have:=aH.out.lt;have:=dr a;omega);have ae:=G (a.alloc' (.cells #[.int i64 k,.string (Z tx),.int i64 v,.int i64 fr] 188));have ao:=G (aH.out.ext ae.out);have aQ:=G (aq ap 188 #[.int i64 k,.string (Z tx),.int i64 v,.int i64 fr]);have z:=ao.out.cell;have y:=ao.out.frozen;have av:d.heap.size≠g:=J;have a3:g≠d.heap.size:=J;clear a aj;have ai:=G ((aT.out.ext af.out).ext ae.out))|(go_at_call 157;refine(iV g _ en wf _ ai.out).mono ?_;rw[ax];rintro e aZ ⟨rfl,a⟩;have aO:=G (ae.out.trans a);have ag:=G (ai.out.ext a);have am:=G (ao.out.ext a);have aP:=G (aQ.out.ext a);clear z y;have z:=am.out.cell;have y:=am.out.frozen;clear ai)|(go_at_call 157;refine(iV g _ en ya _ ag.out).mono ?_;rw[aw];rintro e aY ⟨rfl,a⟩;have aN:=G (aO.out.trans a);have aF:=G (ag.out.ext a);have al:=G (am.out.ext a);have ba:=G (aP.out.ext a);clear z y;have z:=al.out.cell;have y:=al.out.frozen;clear ag)|(go_at_call 99;refine(fl g _ en oT _ aF.out F).mono ?_;rintro e aI ⟨rfl,aB,ad⟩;have aE:=G aB;have aW:=G (an ((af.out.trans aN.out).grownBy _) ad);have aG:=G (al.out.grown ad (λe=>av (I e)));clear aB ad aF)|(go_at_call 204;refine(aM 1 _ en _ g aE.out Qd Qd aK).mono ?_;intro e u az;rw[ar]at az;obtain⟨o,w,n,c,rfl,aA,H⟩:=az;have aV:=G (et (an aW.out o) ((aa u (.cells #[.int i64 x.k,.string (Z x.op),.string (Z x.nm),.string (Z x.tx),.int i64 x.v,.slice w n c] 206)).grownBy (some d.heap.size)) (ah _));have bc:=G ((aG.out.grown o (λe=>av (I e))).alloc (.cells #[.int i64 x.k,.string (Z x.op),.string (Z x.nm),.string (Z x.tx),.int i64 x.v,.slice w n c] 206));have a9:=G (aq u 206 #[.int i64 x.k,.string (Z x.op),.string (Z x.nm),.string (Z x.tx),.int i64 x.v,.slice w n c]);have aS:=G (H.ext (aa u (.cells #[.int i64 x.k,.string (Z x.op),.string (Z x.nm),.string (Z x.tx),.int i64 x.v,.slice w n c] 206)));have aJ:d.heap.size+1<=aI.heap.size:=aG.out.lt;have bb:=G (aA.keep (.of_ext (aa u (.cells #[.int i64 x.k,.string (Z x.op),.string (Z x.nm),.string (Z x.tx),.int i64 x.v,.slice w n c] 206))) (λb aL _=>ay aJ aL));have a1:u.heap.size≠g:=(by have:=H.lt;omega);clear o aA H aE)|(go_at_call 99;refine(iq g _ en mA _ aS.out au).mono ?_;unfold be;rintro e aX ⟨rfl,o⟩;have aU:=G (an aV.out o);clear o));exact⟨rfl,iy aR.out aU.out⟩
theorem BM (f:Nat) (l:List cB) (en:Int) (d:World) (g:Nat) (R:PA d g l en) (aT:fO f) (bg:4*l.length+1<=f+1) (ad: ¬(cX l).k=3) (H: ¬(cX l).k=4) (ae: ¬(cX l).k=1) (aC:dJ wf l=false) (aB:dJ ya l=false) (X:dJ oT l=true) (x:Ex) (q:List cB) (ax:cF f 1 l.tail=.ok (x,q)) (aA:dJ mA q=true):Calls prog 229 #[.pointer (some ⟨g,0,none⟩)] d (rM g en d (dw (f+1) l)):=by
 have aH:=G (j7 (f:=f) ad H ae (by rw[aC,aB];rfl));have aj:=G (aa d (.cells #[.int i64 0,.string ⟨#[]⟩,.string ⟨#[]⟩,.string ⟨#[]⟩,.int i64 0,.slice none 0 0] 206));have aN:=G (aq d 206 #[.int i64 0,.string ⟨#[]⟩,.string ⟨#[]⟩,.string ⟨#[]⟩,.int i64 0,.slice none 0 0]);have ao:=G (fq g _ en _ (R.ext aj.out));have a5:=G R;have aR:=R.lt;clear R;have aI:=G (show dw (f+1) l=(cF f 1 l.tail).then λx r=>(cJ mA r).then λ_ r=> .ok (x,r)from by rw[aH.out];unfold cJ;rw[X];rfl);have aS:4*l.tail.length+2<=f:=by have:=bO X;omega
 clear aH;have a3:=G (show dw (f+1) l=.ok (x,q.tail)from by rw[aI.out,ax];show(cJ mA q).then (λ_ r=>(Except.ok (x,r):PR Ex))=_;unfold cJ;rw[aA];rfl);clear aI;generalize cX l=t at*;obtain⟨k,tx,v,fr⟩:=t;simp only at ad H ae ao;have bi:(k==3)=false:=Qn.2 ad;have bh:(k==4)=false:=Qn.2 H;have bj:(k==1)=false:=Qn.2 ae;go_enter func229,ntmps229;go_wp2_with (first|(go_at_call 158;refine ao.out.mono ?_;rintro e aw ⟨rfl,a⟩;have be:d.heap.size<aw.heap.size:=(by have:=aN.out.lt;have:=dr a;omega);have ai:=G (a.alloc' (.cells #[.int i64 k,.string (Z tx),.int i64 v,.int i64 fr] 188));have av:=G (aN.out.ext ai.out);have aZ:=G (aq aw 188 #[.int i64 k,.string (Z tx),.int i64 v,.int i64 fr]);have y:=av.out.cell;have w:=av.out.frozen;have V:d.heap.size≠g:=J;have bf:g≠d.heap.size:=J;clear a ao;have am:=G ((a5.out.ext aj.out).ext ai.out))|(go_at_call 157;refine(iV g _ en wf _ am.out).mono ?_;rw[aC];rintro e bc ⟨rfl,a⟩;have aV:=G (ai.out.trans a);have al:=G (am.out.ext a);have au:=G (av.out.ext a);have aY:=G (aZ.out.ext a);clear y w;have y:=au.out.cell;have w:=au.out.frozen;clear am)|(go_at_call 157;refine(iV g _ en ya _ al.out).mono ?_;rw[aB];rintro e bb ⟨rfl,a⟩;have aU:=G (aV.out.trans a);have aL:=G (al.out.ext a);have ar:=G (au.out.ext a);have bk:=G (aY.out.ext a);clear y w;have y:=ar.out.cell;have w:=ar.out.frozen;clear al)|(go_at_call 99;refine(fl g _ en oT _ aL.out X).mono ?_;rintro e aO ⟨rfl,A,o⟩;have aK:=G A;have a8:=G (an ((aj.out.trans aU.out).grownBy _) o);have aM:=G (ar.out.grown o (λe=>V (I e)));clear A o aL)|(go_at_call 204;refine(aT 1 _ en _ g aK.out Qd Qd aS).mono ?_;intro e z aD;rw[ax]at aD;obtain⟨ag,u,n,c,rfl,aG,af⟩:=aD;have a7:=G (et (an a8.out ag) ((aa z (.cells #[.int i64 x.k,.string (Z x.op),.string (Z x.nm),.string (Z x.tx),.int i64 x.v,.slice u n c] 206)).grownBy (some d.heap.size)) (ah _));have a9:=G ((aM.out.grown ag (λe=>V (I e))).alloc (.cells #[.int i64 x.k,.string (Z x.op),.string (Z x.nm),.string (Z x.tx),.int i64 x.v,.slice u n c] 206));have aX:=G (aq z 206 #[.int i64 x.k,.string (Z x.op),.string (Z x.nm),.string (Z x.tx),.int i64 x.v,.slice u n c]);have aJ:=G (af.ext (aa z (.cells #[.int i64 x.k,.string (Z x.op),.string (Z x.nm),.string (Z x.tx),.int i64 x.v,.slice u n c] 206)));have aP:d.heap.size+1<=aO.heap.size:=aM.out.lt;have a2:=G (aG.keep (.of_ext (aa z (.cells #[.int i64 x.k,.string (Z x.op),.string (Z x.nm),.string (Z x.tx),.int i64 x.v,.slice u n c] 206))) (λb F _=>ay aP F));have aQ:z.heap.size≠g:=(by have:=af.lt;omega);clear ag aG af aK)|(go_at_call 99;refine(fl g _ en mA _ aJ.out aA).mono ?_;rintro e ba ⟨rfl,A,o⟩;have a4:=G A;have a6:=G (an a7.out o);have ap:=G (a9.out.grown o (λe=>V (I e)));have aW:=G (aX.out.grown o (λe=>aQ (I e)));have a1:=G (a2.out.keep (.of_grown o λb F e=>by injection e with e;omega) (λb F _=>F));clear y w;have y:=ap.out.cell;have w:=ap.out.frozen;have bd:=aW.out.cell;clear A o aJ));obtain⟨az,aF⟩:=l_ (x) x.k (Z x.op) (Z x.nm) (Z x.tx) x.v u n c a3.out rfl rfl rfl rfl rfl rfl ap.out a6.out a4.out aR a1.out;simp only[World.setCells,aE,Nat.reduceAdd]at az aF;exact bodyPost_ret (v:=.agg #[.int i64 x.k,.string (Z x.op),.string (Z x.nm),.string (Z x.tx),.int i64 x.v,.slice u n c]) (by simp[results,results229,go_sem,az]) rfl aF
theorem zp (f:Nat) (o:fO f) (u:sF f) (w:jY f):sF (f+1):=by
 intro l en a g d h;by_cases hk3:(cX l).k=3
 ·exact BE f l en a g d hk3
 by_cases hk4:(cX l).k=4
 ·exact BD f l en a g d hk4
 by_cases hk1:(cX l).k=1
 ·exact zq f l en a g d w h hk1
 cases hmi:dJ wf l with
 |true=>exact wY f l en a g d u h hk3 hk4 hk1 hmi
 |false=>
  cases hno:dJ ya l with
  |true=>exact BF f l en a g d u h hk3 hk4 hk1 hmi hno
  |false=>
   cases hlp:dJ oT l with
   |false=>exact zw f l en a g d o h hk3 hk4 hk1 hmi hno hlp
   |true=>
    cases hx:cF f 1 l.tail with
    |error p=>exact zu f l en a g d o h hk3 hk4 hk1 hmi hno hlp p.1 p.2 hx
    |ok p=>
     cases hrp:dJ mA p.2 with
     |false=>exact zv f l en a g d o h hk3 hk4 hk1 hmi hno hlp p.1 p.2 hx hrp
     |true=>exact BM f l en a g d o h hk3 hk4 hk1 hmi hno hlp p.1 p.2 hx hrp
structure Fr (base g px:Nat) (w w':World):Prop where
 os:w'.os=w.os
 tape:w'.tape=w.tape
 output:w'.output=w.output
 size:w.heap.size<=w'.heap.size
 block: ∀k,k<base->k≠g->k≠px->w'.heap[k]? =w.heap[k]?
theorem Fr.trans {base g d:Nat} {u b c:World} (a:Fr base g d u b) (k:Fr base g d b c):Fr base g d u c:=
 ⟨k.os.trans a.os,k.tape.trans a.tape,k.output.trans a.output,ay a.size k.size,λi hi o h=>(k.block i hi o h).trans (a.block i hi o h)⟩
theorem Fr.of_grown {base g h:Nat} {d w':World} {row:Option Nat} (a:d.grownBy w' row) (w:base<=d.heap.size) (o: ∀k,row=some k->k=g\/k=h\/base<=k):Fr base g h d w':=
 ⟨a.os,a.tape,a.output,a.size,λk u z y=>a.block k J (λe=>by rcases o k e.symm with a|a|a<;>omega)⟩
theorem Fr.grown {base g o:Nat} {w0 h w':World} (a:w0.grownBy h (some g)) (d:Fr base g o h w') (y:w0.heap.size<=o) (z:w0.heap.size<=base):w0.grownBy w' (some g):=
 ⟨d.os.trans a.os,d.tape.trans a.tape,d.output.trans a.output,ay a.size d.size,λk w u=>(d.block k J (λe=>u (by rw[e])) J).trans (a.block k w u)⟩
theorem Fr.blk {base g d k:Nat} {t:TypeId} {h:Array Value} {a w':World} (z:Fr base g d a w') (u:aO a k t h) (o:k<base) (y:k≠g) (w:k≠d):aO w' k t h:=(z.block k o y w).trans u
theorem JC:nL prog 144 206 6 88 (.agg #[.int i64 0,.string ⟨#[]⟩,.string ⟨#[]⟩,.string ⟨#[]⟩,.int i64 0,.slice none 0 0]):=⟨underlying144,by kernel_rfl,by rfl,by decide⟩
theorem yc {y:World} {base w n X:Nat} {e:TypeId} {xs:List Value} {af ae ad H I aa:Value} (ag:y.ownsRow base e 6 (.slice (some ⟨w,0,none⟩) (n+1) X) (n+1) (xs++[af,ae,ad,H,I,aa])) (ah:xs.length=n*6) (u b c o f i:Value):
  (y.setCells w (n*6) [u,b,c,o,f,i]).ownsRow base e 6 (.slice (some ⟨w,0,none⟩) (n+1) X) (n+1) (xs++[u,b,c,o,f,i]):=by
 have a: ∀(d:List Value) (j:Nat) (h:Value),(xs++d).set (n*6+j) h=xs++d.set j h:=λd j h=>by
  rw[List.set_append,if_neg J]
  congr 2
  omega
 have V:=(ag.stored (n*6+0) u).1;rw[a]at V;have R:=(V.stored (n*6+1) b).1;rw[a]at R;have G:=(R.stored (n*6+2) c).1;rw[a]at G;have F:=(G.stored (n*6+3) o).1;rw[a]at F;have A:=(F.stored (n*6+4) f).1;rw[a]at A;have z:=(A.stored (n*6+5) i).1;rw[a]at z;exact z
theorem fK (a:World) (d i:Nat) (v:Value):a.grownBy (a.setCell ⟨d,i,none⟩ v) (some d):=em d [v] i a
theorem JM {d:World} {base a h n X:Nat} {e t:TypeId} {xs:List Value} {ag af ae ad H aa G F A z y ai:Value} (al:d.ownsRow base e 6 (.slice (some ⟨a,0,none⟩) (n+1) X) (n+1) (xs++[ag,af,ae,ad,H,aa])) (Z:xs.length=n*6) (aj:aO d h t #[G,F,A,z,y,ai]) (V:h≠a) (u b c o f i v:Value):
  ((d.setCells a (n*6) [u,b,c,o,f,i]).setCell ⟨h,5,none⟩ v).ownsRow base e 6 (.slice (some ⟨a,0,none⟩) (n+1) X) (n+1) (xs++[u,b,c,o,f,i])/\aO ((d.setCells a (n*6) [u,b,c,o,f,i]).setCell ⟨h,5,none⟩ v) h t #[G,F,A,z,y,v]/\Fr d.heap.size a h d ((d.setCells a (n*6) [u,b,c,o,f,i]).setCell ⟨h,5,none⟩ v):=by
 have w:=em a [u,b,c,o,f,i] (n*6) d;have R:=fK (d.setCells a (n*6) [u,b,c,o,f,i]) h 5 v;refine⟨World.ownsRow.kept (yc al Z u b c o f i) R (.inr λe=> ?_),?_,(Fr.of_grown w (ah _) (λk e=> .inl (I e).symm)).trans (Fr.of_grown R w.size (λk e=> .inr (.inl (I e).symm)))⟩
 ·have e:a=h:=I e;exact V e.symm
 ·have:=(aj.grown w (λe=>V (I e))).set 5 v;simpa using this
theorem JL {d:World} {base h a n X:Nat} {e t:TypeId} {xs:List Value} {ag af ae ad H aa G F A z y ai:Value} (al:d.ownsRow base e 6 (.slice (some ⟨h,0,none⟩) (n+1) X) (n+1) (xs++[ag,af,ae,ad,H,aa])) (Z:xs.length=n*6) (aj:aO d a t #[G,F,A,z,y,ai]) (R:a≠h) (u b c o f i v:Value):
  ((d.setCell ⟨a,5,none⟩ v).setCells h (n*6) [u,b,c,o,f,i]).ownsRow base e 6 (.slice (some ⟨h,0,none⟩) (n+1) X) (n+1) (xs++[u,b,c,o,f,i])/\aO ((d.setCell ⟨a,5,none⟩ v).setCells h (n*6) [u,b,c,o,f,i]) a t #[G,F,A,z,y,v]/\Fr d.heap.size h a d ((d.setCell ⟨a,5,none⟩ v).setCells h (n*6) [u,b,c,o,f,i]):=by
 have w:=fK d a 5 v;have V:=em h [u,b,c,o,f,i] (n*6) (d.setCell ⟨a,5,none⟩ v);refine⟨yc (World.ownsRow.kept al w (.inr λe=> ?_)) Z u b c o f i,?_,(Fr.of_grown w (ah _) (λk e=> .inr (.inl (I e).symm))).trans (Fr.of_grown V w.size (λk e=> .inl (I e).symm))⟩
 ·have e:h=a:=I e;exact R e.symm
 ·have:=(aj.set 5 v).grown V (λe=>R (I e));simpa using this
theorem iJ.snocK {h w':World} {base:Nat} {e:TypeId} {v:Value} {l:List (Ex×Value)} {x:Ex} {w:Value} {d n u:Nat} (R:iJ h base e v l) (ha:dS h (λb=>base<=b/\some b≠v.ownBlock) w x.args) (G:l.length=n)
  (F:w'.ownsRow base e 6 (.slice (some ⟨d,0,none⟩) (n+1) u) (n+1) (il l++zL x w)) (z:dM (λb=>base<=b/\some b≠v.ownBlock) h w') (o:some d=v.ownBlock\/d=h.heap.size):
  iJ w' base e (.slice (some ⟨d,0,none⟩) (n+1) u) (l++[(x,w)]):=by
 subst G;have y: ∀b,(base<=b/\some b≠v.ownBlock)->b<h.heap.size->(base<=b/\some b≠Value.ownBlock (.slice (some ⟨d,0,none⟩) (l.length+1) u)):=λb A V=>by
  refine⟨A.1,λe=> ?_⟩;have e:b=d:=I e;rcases o with o|o
  ·exact A.2 (by rw[e,o])
  ·omega
 refine⟨by rw[H,sk];simpa[il]using F,λp a=> ?_⟩;rcases List.mem_append.1 a with a|a
 ·exact(R.2 p a).keep z y
 ·rw[bR]at a;subst a;exact ha.keep z y
theorem E6 {a w h W:World} {base g o u n F cap' m:Nat} {C an:Option Addr} {c:Nat} {nm:List UInt8} {G:List (Ex×Value)} {x:Ex} {q:List cB} {en:Int} (ao:G.length=n) (ar:base<=a.heap.size) (aJ:g<o) (aI:o<base)
  (ae:a.grownBy w (some g)) (ax:iJ w base 206 (.slice C n F) G) (aC:dS w (λb=>a.heap.size<=b) (.slice an m c) x.args) (aB:PA w g q en) (az:iJ a base 206 (.slice C n F) G)
  (X:w.grownBy h (Value.ownBlock (.slice C n F))) (ad:some u=Value.ownBlock (.slice C n F)\/u=w.heap.size)
  (av:W.ownsRow base 206 6 (.slice (some ⟨u,0,none⟩) (n+1) cap') (n+1) (il G++zL x (.slice an m c))) (au:aO W o 206 #[.int i64 5,.string ⟨#[]⟩,.string (Z nm),.string ⟨#[]⟩,.int i64 0,.slice (some ⟨u,0,none⟩) (n+1) cap'])
  (d:Fr h.heap.size u o h W):
  Fr base g o a W/\PA W g q en/\ ∃am cap' al,aO W o 206 #[.int i64 5,.string ⟨#[]⟩,.string (Z nm),.string ⟨#[]⟩,.int i64 0,.slice am (n+1) cap']/\iJ W base 206 (.slice am (n+1) cap') (G++[(x,al)]):=by
 have V: ∀k,Value.ownBlock (.slice C n F)=some k->base<=k/\k<a.heap.size:=λk aa=>World.ownsRow.lt az.1 k aa;have aK:base<=u:=by
  have:=ae.size;rcases ad with A|A
  ·exact(V u A.symm).1
  ·omega
 have aH:=ae.size;have aG:=X.size;have z:Fr base g o a h:=(Fr.of_grown ae ar (λk e=>by injection e with e;omega)).trans (Fr.of_grown X J (λk e=>by have:=V k e;omega));have aA:Fr base g o a W:=⟨d.os.trans z.os,d.tape.trans z.tape,d.output.trans z.output,ay z.size d.size,λk aa aD aj=>(d.block k J J aj).trans (z.block k aa aD aj)⟩
 have aw:=aB.grown X (λk e=>by have:=V k e;omega);refine⟨aA,?_,_,cap',_,au,ax.snocK (aC.mono λb y _=>⟨by omega,λe=>by have:=V b e.symm;omega⟩) ao av ⟨by have:=d.size;omega,λb ai y=> ?_⟩ ad⟩
 ·obtain⟨aF,c1,y,H,af⟩:=aw;have ag: ∀k,k<=g->k<h.heap.size->W.heap[k]? =h.heap[k]? :=λk aa ap=>d.block k ap J J;refine⟨aF,c1,(ag g (ah _) y.lt).trans y,⟨H.le,H.max,?_⟩,af⟩;by_cases hl:q=[]
  ·exact .inl hl
  rcases H.rd with aE|⟨b,off,ha,hlt,hc⟩
  ·exact absurd aE hl
  ·have aq:=ag b (by have:=af b off ha hl;omega) hlt;have I: ∀R,W.cell? ⟨b,R,none⟩=h.cell? ⟨b,R,none⟩:=λR=>World.cell?_of_block (w:=h) (a:=⟨b,R,none⟩) aq;exact .inr ⟨b,off,ha,by have:=d.size;omega,λi hi=>let⟨q0,q1,q2,q3⟩:=hc i hi;⟨(I _).trans q0,(I _).trans q1,(I _).trans q2,(I _).trans q3⟩⟩
 ·refine(d.block b J (λe=> ?_) J).trans (X.block b y ai.2);rcases ad with A|A
  ·exact ai.2 (by rw[e,A])
  ·omega
theorem GZ (f:Nat) (ba:fO f) (base g ae am:Nat) (nm:List UInt8) (l:List cB) (en:Int) (V:World) (ap:List (Ex×Value)) (C:Option Addr) (n aE:Nat)
  (aC:PA V g l en) (an:aO V am 122 #[.pointer (some ⟨g,0,none⟩)]) (ag:aO V ae 206 #[.int i64 5,.string ⟨#[]⟩,.string (Z nm),.string ⟨#[]⟩,.int i64 0,.slice C n aE])
  (aR:iJ V base 206 (.slice C n aE) ap) (av:ap.length=n) (a6:base<=V.heap.size) (a2:g<ae) (bu:g<am) (bo:am≠ae) (aZ:ae<base) (bp:am<base) (a3:4*l.length+2<=f) (br:n<=100000)
  (x:Ex) (q:List cB) (a4:cF f 1 l=.ok (x,q)):
  Calls prog 248 #[.pointer (some ⟨ae,0,none⟩),.pointer (some ⟨am,0,none⟩)] V λe w'=>e=.returned (.tuple #[])/\Fr base g ae V w'/\PA w' g q en/\
   ∃a cap' u,aO w' ae 206 #[.int i64 5,.string ⟨#[]⟩,.string (Z nm),.string ⟨#[]⟩,.int i64 0,.slice a (n+1) cap']/\iJ w' base 206 (.slice a (n+1) cap') (ap++[(x,u)]):=by
 have bf:=G aC;have aT:=G an;have aH:=G ag;have aI:=G aR;have bt:g<V.heap.size:=aC.lt;have ax:ae≠g:=J
 have aP:am≠g:=J
 clear aC an ag aR;go_enter func248,ntmps248
 refine lr 6 0 [(3,λv=> ∃R n c,v=.agg #[.int i64 x.k,.string (Z x.op),.string (Z x.nm),.string (Z x.tx),.int i64 x.v,.slice R n c],λv ar=> ∀R n c,v=.agg #[.int i64 x.k,.string (Z x.op),.string (Z x.nm),.string (Z x.tx),.int i64 x.v,.slice R n c]->dS ar (λb=>V.heap.size<=b) (.slice R n c) x.args/\PA ar g q en),
   (5,λv=> ∃A,v=.slice (some ⟨A,0,none⟩) 1 1,λv ar=> ∀A,v=.slice (some ⟨A,0,none⟩) 1 1->V.heap.size<=A/\aO ar A 206 #[.int i64 0,.string ⟨#[]⟩,.string ⟨#[]⟩,.string ⟨#[]⟩,.int i64 0,.slice none 0 0])] 3 (some g) mixed Qb
  ⟨λ_ _ _ F ag R n c e=>⟨(F R n c e).1.keep (.of_ext ag) (λ_ an _=>an),(F R n c e).2.ext ag⟩,λ_ _ _ F ag A e=>⟨(F A e).1,(F A e).2.ext ag⟩,trivial⟩
  ⟨.inl rfl,.inr λ_ _ _ F ag A e=>⟨(F A e).1,(F A e).2.grown ag (λaS=>by have:=(F A e).1;injection aS with aS;omega)⟩,trivial⟩ ?_
 repeat (refine sx ?_ (λaV af=> ?_) ?_;rotate_left;(focus have o:=(aH.out.grown (aJ af) (λe=>ax (I e))).cell;have d:=(aT.out.grown (aJ af) (λe=>aP (I e))).cell;clear af;go_simp<;>with_reducible rfl);simp only[bE,bD,bC,bB,bA])
 refine dL _ _ Qf rfl ⟨_,none,0,0,rfl⟩ rfl (λau aB aj K aD=> ?_) ?_
 ·clear aj;have a5:=ba 1 l en au g (bf.out.ext aB.un) Qd Qd a3;have be:=G aB.un;clear aB;go_simp;refine a5.mono ?_;intro e bh aN;rw[a4]at aN;obtain⟨a9,R,n,c,rfl,a7,a8⟩:=aN;exact aD _ _ a9 ⟨_,_,_,rfl⟩ (λai bi c' e=>by injection e with e;simp only[gu,dT,ff,and_true,true_and]at e;obtain⟨rfl,rfl,rfl⟩:=e;exact⟨a7.mono (λb an _=>ay (dr be.out) an),a8⟩)
 rintro _ ⟨R,m,c,rfl⟩;simp only[bE,bD,bC,bB,bA];repeat (refine sx ?_ (λaV af=> ?_) ?_;rotate_left;(focus have o:=(aH.out.grown (aJ af) (λe=>ax (I e))).cell;have d:=(aT.out.grown (aJ af) (λe=>aP (I e))).cell;clear af;go_simp<;>with_reducible rfl);simp only[bE,bD,bC,bB,bA])
 refine cU _ _ Qf rfl ⟨_,0,rfl⟩ Qe (λau af aj K aD=> ?_) ?_
 ·have aW:=(aJ af).size;clear aj af;go_simp;exact aD _ _ (aa au _) ⟨_,rfl⟩ (λA e=>by injection e with e;injection e with e;injection e with e;subst e;exact⟨aW,aq au _ _⟩)
 rintro _ ⟨A,rfl⟩;simp only[bE,bD,bC,bB,bA];intro bg aY aj;obtain⟨bl,bb⟩:=aj _ (.head _) A rfl;obtain⟨bd,bc⟩:=aj _ (.tail _ (.head _)) R m c rfl;clear aj;have aw:=aJ aY;have aX:=aH.out.grown aw (λe=>ax (I e));have aQ:=aI.out.grown aw (λk e=>by injection e with e;omega);have bk:=aw.size;refine gn [6] Qb Qe (λi hi=> ?_);obtain rfl:i=6:=by simpa using hi
 refine eF rfl Qf ?_;refine xV JC _ _ rfl base _ n (il ap) rfl (by rw[<-av];exact av▸aQ.1) A [.int i64 0,.string ⟨#[]⟩,.string ⟨#[]⟩,.string ⟨#[]⟩,.int i64 0,.slice none 0 0] rfl bb rfl Qd J Qd J ?_;intro ai cap' aU ah aA aK;have bq:(n:Int)<(n:Int)+1:=J
 have aM:(il ap).length=n*6:=by rw[oF,av]
 have al: ∀i,i<6->aU.cell? ⟨ai,n*6+i,none⟩=([.int i64 0,.string ⟨#[]⟩,.string ⟨#[]⟩,.string ⟨#[]⟩,.int i64 0,.slice none 0 0]:List Value)[i]? :=λi hi=>by
  rw[ah.cellAt (n*6+i) J,bH J]
  congr 1
  omega
 have e0:=al 0 J;have bP:=al 1 J;have bO:=al 2 J;have bN:=al 3 J;have bM:=al 4 J;have bL:=al 5 J;have bK:=ah.frozenAt (n*6);have bJ:=ah.frozenAt (n*6+1);have bI:=ah.frozenAt (n*6+2);have bG:=ah.frozenAt (n*6+3);have bF:=ah.frozenAt (n*6+4);have bz:=ah.frozenAt (n*6+5);rw[bx]at e0;have az: ∀k,Value.ownBlock (.slice C n aE)=some k->base<=k/\k<V.heap.size:=λk a1=>World.ownsRow.lt aI.out.1 k a1;have bw:base<=ai:=by
  rcases aK with F|F
  ·exact(az ai F.symm).1
  ·omega
 have ao:=aX.grown aA (λe=>by have:=az ae e.symm;omega);have bn:=ao.cell;have bm:=ao.frozen;have bv:ai≠ae:=J
 have aL:ae≠ai:=J
 have bj:=aA.size;have CF:=G (λW cap'=>E6 (W:=W) (cap':=cap') (nm:=nm) av a6 a2 aZ aw aQ bd bc aI.out aA aK);have aG:=G (JM ah aM ao aL (.int i64 x.k) (.string (Z x.op)) (.string (Z x.nm)) (.string (Z x.tx)) (.int i64 x.v) (.slice R m c) (.slice (some ⟨ai,0,none⟩) (n+1) cap'));have aF:=G (JL ah aM ao aL (.int i64 x.k) (.string (Z x.op)) (.string (Z x.nm)) (.string (Z x.tx)) (.int i64 x.v) (.slice R m c) (.slice (some ⟨ai,0,none⟩) (n+1) cap'));clear al ao az;refine gn [7,9] Qb Qe (λi hi=> ?_);have hi:i=7\/i=9:=by simpa using hi
 rcases hi with rfl|rfl
 ·refine eF rfl Qf ?_;go_simp;try simp only[bE,bD,bC,bB,bA]
  refine gn [8,9] Qb Qe (λi hi=> ?_);have hi:i=8\/i=9:=by simpa using hi
  rcases hi with rfl|rfl
  ·refine eF rfl Qf ?_;go_simp;try simp only[bE,bD,bC,bB,bA]
   refine gn [9] Qb Qe (λi hi=> ?_);obtain rfl:i=9:=by simpa using hi
   refine eF rfl Qf ?_;go_simp;try simp only[bE,bD,bC,bB,bA]
   refine gn [10] Qb Qe (λi hi=> ?_);obtain rfl:i=10:=by simpa using hi
   refine eF rfl Qf ?_;go_simp;try simp only[bE,bD,bC,bB,bA]
   refine kJ Qb ?_;obtain⟨ad,H,X⟩:=aG.out;have w:=CF.out _ _ ad H X;simp only[World.setCells,fw,Nat.reduceAdd]at w
   go_end0
   obtain⟨o,d,a,c',u,z,y⟩:=w;first|exact⟨rfl,o,d,a,c',u,z,y⟩|exact⟨rfl,o,d,a,c',z,u,y⟩
  ·refine eF rfl Qf ?_;go_simp;try simp only[bE,bD,bC,bB,bA]
   refine gn [8,10] Qb Qe (λi hi=> ?_);have hi:i=8\/i=10:=by simpa using hi
   rcases hi with rfl|rfl
   ·refine eF rfl Qf ?_;go_simp;try simp only[bE,bD,bC,bB,bA]
    refine gn [10] Qb Qe (λi hi=> ?_);obtain rfl:i=10:=by simpa using hi
    refine eF rfl Qf ?_;go_simp;try simp only[bE,bD,bC,bB,bA]
    refine kJ Qb ?_;obtain⟨ad,H,X⟩:=aG.out;have w:=CF.out _ _ ad H X;simp only[World.setCells,fw,Nat.reduceAdd]at w
    go_end0
    obtain⟨o,d,a,c',u,z,y⟩:=w;first|exact⟨rfl,o,d,a,c',u,z,y⟩|exact⟨rfl,o,d,a,c',z,u,y⟩
   ·refine eF rfl Qf ?_;go_simp;try simp only[bE,bD,bC,bB,bA]
    refine gn [8] Qb Qe (λi hi=> ?_);obtain rfl:i=8:=by simpa using hi
    refine eF rfl Qf ?_;go_simp;try simp only[bE,bD,bC,bB,bA]
    refine kJ Qb ?_;obtain⟨ad,H,X⟩:=aF.out;have w:=CF.out _ _ ad H X;simp only[World.setCells,fw,Nat.reduceAdd]at w
    go_end0
    obtain⟨o,d,a,c',u,z,y⟩:=w;first|exact⟨rfl,o,d,a,c',u,z,y⟩|exact⟨rfl,o,d,a,c',z,u,y⟩
 ·refine eF rfl Qf ?_;go_simp;try simp only[bE,bD,bC,bB,bA]
  refine gn [7,10] Qb Qe (λi hi=> ?_);have hi:i=7\/i=10:=by simpa using hi
  rcases hi with rfl|rfl
  ·refine eF rfl Qf ?_;go_simp;try simp only[bE,bD,bC,bB,bA]
   refine gn [8,10] Qb Qe (λi hi=> ?_);have hi:i=8\/i=10:=by simpa using hi
   rcases hi with rfl|rfl
   ·refine eF rfl Qf ?_;go_simp;try simp only[bE,bD,bC,bB,bA]
    refine gn [10] Qb Qe (λi hi=> ?_);obtain rfl:i=10:=by simpa using hi
    refine eF rfl Qf ?_;go_simp;try simp only[bE,bD,bC,bB,bA]
    refine kJ Qb ?_;obtain⟨ad,H,X⟩:=aG.out;have w:=CF.out _ _ ad H X;simp only[World.setCells,fw,Nat.reduceAdd]at w
    go_end0
    obtain⟨o,d,a,c',u,z,y⟩:=w;first|exact⟨rfl,o,d,a,c',u,z,y⟩|exact⟨rfl,o,d,a,c',z,u,y⟩
   ·refine eF rfl Qf ?_;go_simp;try simp only[bE,bD,bC,bB,bA]
    refine gn [8] Qb Qe (λi hi=> ?_);obtain rfl:i=8:=by simpa using hi
    refine eF rfl Qf ?_;go_simp;try simp only[bE,bD,bC,bB,bA]
    refine kJ Qb ?_;obtain⟨ad,H,X⟩:=aF.out;have w:=CF.out _ _ ad H X;simp only[World.setCells,fw,Nat.reduceAdd]at w
    go_end0
    obtain⟨o,d,a,c',u,z,y⟩:=w;first|exact⟨rfl,o,d,a,c',u,z,y⟩|exact⟨rfl,o,d,a,c',z,u,y⟩
  ·refine eF rfl Qf ?_;go_simp;try simp only[bE,bD,bC,bB,bA]
   refine gn [7] Qb Qe (λi hi=> ?_);obtain rfl:i=7:=by simpa using hi
   refine eF rfl Qf ?_;go_simp;try simp only[bE,bD,bC,bB,bA]
   refine gn [8] Qb Qe (λi hi=> ?_);obtain rfl:i=8:=by simpa using hi
   refine eF rfl Qf ?_;go_simp;try simp only[bE,bD,bC,bB,bA]
   refine kJ Qb ?_;obtain⟨ad,H,X⟩:=aF.out;have w:=CF.out _ _ ad H X;simp only[World.setCells,fw,Nat.reduceAdd]at w
   go_end0
   obtain⟨o,d,a,c',u,z,y⟩:=w;first|exact⟨rfl,o,d,a,c',u,z,y⟩|exact⟨rfl,o,d,a,c',z,u,y⟩
def dE:=@Fr.of_grown
def kN:=@Fr.grown
def sI:=@iJ.nil_
def uk:=@dS.one
end
end Go.Proofs.YtoedmpgicdekmaaGreatDoor
