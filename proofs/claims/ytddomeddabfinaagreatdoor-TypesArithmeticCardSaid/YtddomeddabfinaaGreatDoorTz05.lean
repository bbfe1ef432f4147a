/-
  Parts of the proof: PlLexQ PlLexU ParH ParI SeqP ParJ ParK ParL ParM SeqR ParN.
-/
import Derived.BigQuiet
import Derived.Test.YtddomeddabfinaaGreatDoorTz04
import Derived.Maps.AppendAt
import Derived.Test.YtddomeddabfinaaGreatDoorTz00
import Derived.Test.YtddomeddabfinaaGreatDoorTz01
import Derived.WalkLawsBesides
set_option maxRecDepth 100000
set_option maxHeartbeats 8000000
set_option linter.unusedVariables false
set_option linter.unusedSimpArgs false
set_option linter.defProp false
set_option linter.unusedSectionVars false
namespace Go.Proofs.YtddomeddabfinaaGreatDoor
open Go.Proofs.Tryz
section
open Go.RowKit
theorem iX: ∀(ts:List bN) (i:Nat) (h:i<ts.length) (k:Nat),k<4->(j6 ts)[i*4+k]? =(fH ts[i])[k]?
 |t::ts,0,h,k,hk=>by
  show(fH t++j6 ts)[0*4+k]? =(fH t)[k]?;rw[a8,aD,c_ (by simpa[fH]using hk)]
 |t::ts,i+1,h,k,hk=>by
  have h':i<ts.length:=by simpa using h
  show(fH t++j6 ts)[(i+1)*4+k]? =(fH ts[i])[k]?;rw[cI (by simp[fH];omega),<-iX ts i h' k hk]
  congr 1
  simp[fH];omega
structure uv (w:World) (A:Option Addr) (cap:Nat) (ts:List bN):Prop where
 le:ts.length<=cap
 max:cap<=maxLen
 rd:ts=[]\/ ∃b off,A=some ⟨b,off,none⟩/\b<w.heap.size/\ ∀i,(h:i<ts.length)->w.cell? ⟨b,off+i*4,none⟩=some (.int .i64 ts[i].k)/\w.cell? ⟨b,off+i*4+1,none⟩=some (.string (ai ts[i].t))/\
  w.cell? ⟨b,off+i*4+2,none⟩=some (.int .i64 ts[i].v)/\w.cell? ⟨b,off+i*4+3,none⟩=some (.int .i64 ts[i].f)
theorem uv.ext {w w':World} {A:Option Addr} {cap:Nat} {ts:List bN} (h:uv w A cap ts) (he:aq w w'):uv w' A cap ts:=
 ⟨h.le,h.max,h.rd.imp id fun⟨b,off,ha,hb,hc⟩=>⟨b,off,ha,aA hb he.size,fun i hi=>
  let⟨h1,h2,h3,h4⟩:=hc i hi;⟨(he.cell b _ hb).trans h1,(he.cell b _ hb).trans h2,(he.cell b _ hb).trans h3,(he.cell b _ hb).trans h4⟩⟩⟩
theorem uv.at_ {w:World} {A:Option Addr} {cap:Nat} {ts:List bN} (h:uv w A cap ts) (i:Nat) (hi:i<ts.length):
  ∃b off,A=some ⟨b,off,none⟩/\b<w.heap.size/\w.cell? ⟨b,off+i*4,none⟩=some (.int .i64 ts[i].k)/\w.cell? ⟨b,off+i*4+1,none⟩=some (.string (ai ts[i].t))/\
  w.cell? ⟨b,off+i*4+2,none⟩=some (.int .i64 ts[i].v)/\w.cell? ⟨b,off+i*4+3,none⟩=some (.int .i64 ts[i].f):=by
 rcases h.rd with h0|⟨b,off,ha,hb,hc⟩
 ·subst h0;simp at hi
 ·exact⟨b,off,ha,hb,hc i hi⟩
theorem gB.tks {w:World} {base:Nat} {e:TypeId} {A:Option Addr} {n cap:Nat} {ts:List bN} (h:gB w base e (.slice A n cap) ts):n=ts.length/\uv w A cap ts:=by
 rcases h.2 with⟨hv,hn⟩|⟨g,c,cur,hv,hb,hg,hnc,hcm,hcs,ht⟩
 ·injection hv with a1 a2 a3;subst a1 a2 a3;have:ts=[]:=aJ hn;subst this;exact⟨rfl,by simp,by simp[maxLen], .inl rfl⟩
 ·injection hv with a1 a2 a3;subst a1 a2 a3;refine⟨rfl,hnc,hcm, .inr ⟨g,0,rfl,(Array.getElem?_eq_some_iff.1 hg).1,fun i hi=> ?_⟩⟩;have cell: ∀j y,(j6 ts)[j]? =some y->w.cell? ⟨g,j,none⟩=some y:=fun j y hy=>by
   rw[cell_of_row w g j cur e (0,0) hg];rw[<-ht,cH]at hy;split at hy
   ·simpa using hy
   ·cases hy
  have g0:=iX ts i hi 0 (by omega);have g1:=iX ts i hi 1 (by omega);have g2:=iX ts i hi 2 (by omega);have g3:=iX ts i hi 3 (by omega);rw[aD];exact⟨cell _ _ g0,cell _ _ g1,cell _ _ g2,cell _ _ g3⟩
end
section
open Go.RowKit
theorem se (l:List UInt8) (w:World) (hz:EZ w):Calls prog 58 #[.string (ai l)] w fun e w'=>uu 206 w.heap.size (ge l) e w'/\aq w w':=by
 by_cases hl:l.length<=100000
 ·exact sd l hl w hz
 ·have hsz:(ai l).size=l.length:=a7 l;have HRb:=G (oV l);have hbig:4000<l.length:=by omega
  have hbig':(4000:Int)<l.length:=by omega
  go_enter func58,ntmps58;go_wp2_with fail;exact bodyPost_ret (v:= .tuple #[.slice none 0 0, .int .i64 4000, .int .i64 6]) (by simp[results,results58,go_sem]) rfl ⟨by rw[HRb.out hbig];exact⟨none,0,rfl,gB.nil_ _ _ _⟩,aR _⟩
end
section
open Go.RowKit
inductive cE (w:World) (P:Nat->Prop):Value->List Ex->Prop where
 |nil (A:Option Addr) (c:Nat):cE w P (.slice A 0 c) []
 |row (b o n c:Nat) (xs:List Ex) (av:Nat->Value) (hP:P b) (hb:b<w.heap.size) (hn:xs.length=n) (hnc:n<=c) (hm:c<=maxLen)
   (hc: ∀i,(h:i<xs.length)->w.cell? ⟨b,o+i*6,none⟩=some (.int .i64 xs[i].k)/\w.cell? ⟨b,o+i*6+1,none⟩=some (.string (ai xs[i].op))/\w.cell? ⟨b,o+i*6+2,none⟩=some (.string (ai xs[i].nm))/\
    w.cell? ⟨b,o+i*6+3,none⟩=some (.string (ai xs[i].tx))/\w.cell? ⟨b,o+i*6+4,none⟩=some (.int .i64 xs[i].v)/\w.cell? ⟨b,o+i*6+5,none⟩=some (av i))
   (hs: ∀i,(h:i<xs.length)->cE w P (av i) (Ex.args xs[i])):cE w P (.slice (some ⟨b,o,none⟩) n c) xs
structure cC (P:Nat->Prop) (w w':World):Prop where
 size:w.heap.size<=w'.heap.size
 block: ∀b,P b->b<w.heap.size->w'.heap[b]? =w.heap[b]?
theorem cC.cell {P:Nat->Prop} {w w':World} (h:cC P w w') {b:Nat} (o:Nat) (hP:P b) (hb:b<w.heap.size):w'.cell? ⟨b,o,none⟩=w.cell? ⟨b,o,none⟩:=
 World.cell?_of_block (w:=w) (a:=⟨b,o,none⟩) (h.block b hP hb)
theorem cC.of_grown {P:Nat->Prop} {w w':World} {row:Option Nat} (h:w.grownBy w' row) (hr: ∀b,P b->some b≠row):cC P w w':=⟨h.size,fun b hP hb=>h.block b hb (hr b hP)⟩
theorem cC.of_ext {P:Nat->Prop} {w w':World} (h:aq w w'):cC P w w':=⟨h.size,fun b _ hb=>h.obj hb⟩
theorem cE.keep {w w':World} {P Q:Nat->Prop} {v:Value} {xs:List Ex} (h:cE w P v xs) (hk:cC P w w') (hQ: ∀b,P b->b<w.heap.size->Q b):cE w' Q v xs:=by
 induction h with
 |nil A c=>exact .nil A c
 |row b o n c xs av hP hb hn hnc hm hc hs ih=>
  refine .row b o n c xs av (hQ b hP hb) (aA hb hk.size) hn hnc hm (fun i hi=> ?_) ih;obtain⟨h0,h1,h2,h3,h4,h5⟩:=hc i hi;exact⟨(hk.cell _ hP hb).trans h0,(hk.cell _ hP hb).trans h1,(hk.cell _ hP hb).trans h2,(hk.cell _ hP hb).trans h3,(hk.cell _ hP hb).trans h4,(hk.cell _ hP hb).trans h5⟩
theorem cE.mono {w:World} {P Q:Nat->Prop} {v:Value} {xs:List Ex} (h:cE w P v xs) (hQ: ∀b,P b->b<w.heap.size->Q b):cE w Q v xs:=h.keep ⟨ah _,fun _ _ _=>rfl⟩ hQ
theorem cE.form {w:World} {P:Nat->Prop} {v:Value} {xs:List Ex} (h:cE w P v xs): ∃A c,v= .slice A xs.length c/\(xs=[]\/xs.length<=c/\c<=maxLen/\ ∃b o,A=some ⟨b,o,none⟩/\b<w.heap.size):=by
 cases h with
 |nil A c=>exact⟨A,c,rfl, .inl rfl⟩
 |row b o n c xs av hP hb hn hnc hm hc hs=>exact⟨_,c,by rw[hn], .inr ⟨by omega,hm,b,o,rfl,hb⟩⟩
theorem cE.at_ {w:World} {P:Nat->Prop} {A:Option Addr} {n c:Nat} {xs:List Ex} (h:cE w P (.slice A n c) xs) (i:Nat) (hi:i<xs.length):
  ∃b o a,A=some ⟨b,o,none⟩/\b<w.heap.size/\P b/\w.cell? ⟨b,o+i*6,none⟩=some (.int .i64 xs[i].k)/\w.cell? ⟨b,o+i*6+1,none⟩=some (.string (ai xs[i].op))/\w.cell? ⟨b,o+i*6+2,none⟩=some (.string (ai xs[i].nm))/\
   w.cell? ⟨b,o+i*6+3,none⟩=some (.string (ai xs[i].tx))/\w.cell? ⟨b,o+i*6+4,none⟩=some (.int .i64 xs[i].v)/\w.cell? ⟨b,o+i*6+5,none⟩=some a/\cE w P a (Ex.args xs[i]):=by
 cases h with
 |nil=>simp at hi
 |row b o n c xs av hP hb hn hnc hm hc hs=>
  obtain⟨h0,h1,h2,h3,h4,h5⟩:=hc i hi;exact⟨b,o,av i,rfl,hb,hP,h0,h1,h2,h3,h4,h5,hs i hi⟩
def vN (x:Ex) (a:Value):List Value:=[.int .i64 x.k, .string (ai x.op), .string (ai x.nm), .string (ai x.tx), .int .i64 x.v,a]
def fQ (l:List (Ex×Value)):List Value:=l.flatMap fun p=>vN p.1 p.2
theorem lX: ∀l:List (Ex×Value),(fQ l).length=l.length*6
 | []=>rfl
 |p::l=>by
  have:=lX l;simp only[fQ,bO,aa,vN,ae,ag]at this⊢;omega
theorem pA (a b:List (Ex×Value)):fQ (a++b)=fQ a++fQ b:=by simp[fQ]
theorem pz: ∀(l:List (Ex×Value)) (i:Nat) (h:i<l.length) (k:Nat),k<6->(fQ l)[i*6+k]? =(vN l[i].1 l[i].2)[k]?
 | [],i,h,k,hk=>by simp at h
 |p::l,0,h,k,hk=>by
  simp only[fQ,bO,a8,aD,aE];rw[c_ (by simp[vN];omega)]
 |p::l,i+1,h,k,hk=>by
  have:=pz l i (by simpa using h) k hk;simp only[fQ,bO,aQ]at this⊢;rw[cI (by simp[vN];omega),<-this]
  congr 1
  simp[vN];omega
def f_ (w:World) (base:Nat) (e:TypeId) (v:Value) (l:List (Ex×Value)):Prop:=
 w.ownsRow base e 6 v l.length (fQ l)/\ ∀p,p∈l->cE w (fun b=>base<=b/\some b≠v.ownBlock) p.2 p.1.args
theorem f_.nil_ (w:World) (base:Nat) (e:TypeId):f_ w base e (.slice none 0 0) []:=⟨World.ownsRow_nil w base e 6,fun p hp=>by cases hp⟩
theorem f_.grown {w w':World} {base:Nat} {e:TypeId} {v:Value} {l:List (Ex×Value)} {row:Option Nat} (h:f_ w base e v l) (hg:w.grownBy w' row) (hr: ∀k,row=some k->k<base):f_ w' base e v l:=by
 refine⟨World.ownsRow.kept h.1 hg ?_,fun p hp=> ?_⟩
 ·cases hv:v.ownBlock with
  |none=>exact .inl rfl
  |some k=>
   refine .inr fun e=> ?_;have:=(World.ownsRow.lt h.1 k hv).1;have:=hr k e.symm;omega
 ·exact(h.2 p hp).keep (.of_grown hg fun b hb e=>by have:=hr b e.symm;omega) fun b hb _=>hb
theorem f_.rd {w:World} {base:Nat} {e:TypeId} {v:Value} {l:List (Ex×Value)} (h:f_ w base e v l):cE w (fun b=>base<=b) v (l.map (·.1)):=by
 rcases h.1.2 with⟨rfl,h0⟩|⟨g,cap,cur,rfl,hb,hg,hnc,hcm,hcs,ht⟩
 ·have:l=[]:=aJ h0;subst this;exact .nil _ _
 ·have hlt:g<w.heap.size:=(Array.getElem?_eq_some_iff.1 hg).1;have cell: ∀j y,(fQ l)[j]? =some y->w.cell? ⟨g,j,none⟩=some y:=fun j y hy=>by
   rw[cell_of_row w g j cur e (0,0) hg];rw[<-ht,cH]at hy;split at hy
   ·simpa using hy
   ·cases hy
  refine .row g 0 l.length cap _ (fun i=>if h:i<l.length then l[i].2 else .slice none 0 0) hb hlt (by simp) hnc hcm (fun i hi=> ?_) (fun i hi=> ?_)
  ·have hi':i<l.length:=by simpa using hi
   have q:=fun k hk=>pz l i hi' k hk;have e0:(l.map (·.1))[i]=l[i].1:=by simp
   rw[e0,dif_pos hi',aD];exact⟨cell _ _ (q 0 (by omega)),cell _ _ (q 1 (by omega)),cell _ _ (q 2 (by omega)),cell _ _ (q 3 (by omega)),cell _ _ (q 4 (by omega)),cell _ _ (q 5 (by omega))⟩
  ·have hi':i<l.length:=by simpa using hi
   have e0:(l.map (·.1))[i]=l[i].1:=by simp
   rw[e0,dif_pos hi'];exact(h.2 l[i] (au hi')).mono fun b hb _=>hb.1
theorem cE.one {w:World} {P:Nat->Prop} {gb:Nat} {e:TypeId} {x:Ex} {a:Value} (hB:aL w gb e #[.int .i64 x.k, .string (ai x.op), .string (ai x.nm), .string (ai x.tx), .int .i64 x.v,a]) (hP:P gb) (h:cE w P a x.args):cE w P (.slice (some ⟨gb,0,none⟩) 1 1) [x]:=by
 refine .row gb 0 1 1 [x] (fun _=>a) hP hB.lt rfl (ah _) (by simp[maxLen]) (fun i hi=> ?_) (fun i hi=> ?_)
 ·have hi:i=0:=by simpa using hi
  subst hi;exact⟨hB.cell 0,hB.cell 1,hB.cell 2,hB.cell 3,hB.cell 4,hB.cell 5⟩
 ·have hi:i=0:=by simpa using hi
  subst hi;exact h
theorem cE.two {w:World} {P:Nat->Prop} {gb:Nat} {e:TypeId} {x y:Ex} {a b:Value} (hB:aL w gb e #[.int .i64 x.k, .string (ai x.op), .string (ai x.nm), .string (ai x.tx), .int .i64 x.v,a, .int .i64 y.k, .string (ai y.op), .string (ai y.nm), .string (ai y.tx), .int .i64 y.v,b]) (hP:P gb) (h:cE w P a x.args) (h':cE w P b y.args):cE w P (.slice (some ⟨gb,0,none⟩) 2 2) [x,y]:=by
 refine .row gb 0 2 2 [x,y] (fun i=>if i=0 then a else b) hP hB.lt rfl (ah _) (by simp[maxLen]) (fun i hi=> ?_) (fun i hi=> ?_)
 ·have hi:i<2:=hi;obtain rfl|rfl:i=0\/i=1:=by omega
  ·exact⟨hB.cell 0,hB.cell 1,hB.cell 2,hB.cell 3,hB.cell 4,hB.cell 5⟩
  ·exact⟨hB.cell 6,hB.cell 7,hB.cell 8,hB.cell 9,hB.cell 10,hB.cell 11⟩
 ·have hi:i<2:=hi;obtain rfl|rfl:i=0\/i=1:=by omega
  ·exact h
  ·exact h'
structure nf (P:Program) (t e:TypeId) (size bytes:Nat) (z:Value):Prop where
 under:P.underlying t=some (.slice e)
 info:(P.info? e).map (fun i=>(i.zero,i.size,i.bytes))=some (some z,size,bytes)
 cells:z.cells.size=size
 pos:0<size
theorem qS {P:Program} {w:World} {t e:TypeId} {size bytes:Nat} {z:Value} (hT:nf P t e size bytes z) (ty:TypeId) (base:Nat) (v:Value) (n:Nat) (xs:List Value) (hown:w.ownsRow base e size v n xs) (g:Nat) (news:List Value)
  (hg:w.heap[g]? =some (.cells news.toArray e (0,0))) (hl:news.length=size) (h1: ∀u∈news,u.oneCell'=true) (hb:n<=1073741824) (hy:bytes<=1000) (hbase:base<=w.heap.size):
  ∃A' cap' w',(Builtin.append_ #[t,t] ty #[v, .slice (some ⟨g,0,none⟩) 1 1]).run P w= .ok (.slice (some ⟨A',0,none⟩) (n+1) cap') w'/\w'.ownsRow base e size (.slice (some ⟨A',0,none⟩) (n+1) cap') (n+1) (xs++news)/\w.grownBy w' v.ownBlock/\
   (some A'=v.ownBlock\/A'=w.heap.size):=by
 obtain⟨i,hi,hz,hz1,hz2⟩:=info_parts hT.info;obtain⟨v',w',hr,h2,h3,_,h5⟩:=run_append_own_at (P:=P) w base t ty e i z size bytes hT.under hi hz hz1 hz2 hT.cells hT.pos v n xs hown ⟨g,0,none⟩ 1 1 news (by rw[hl,cf])
  (fun j y hj=>by
   rw[Addr.add_lit,aD,cell_of_row w g j _ e (0,0) hg];simpa using hj) h1 (by simp only[maxLen];omega) (by
    have:(n+1)*bytes<=(n+1)*1000:=fw _ hy
    omega) hbase
 rcases h2.2 with⟨_,h0⟩|⟨g',cap',cur,rfl,hx⟩
 ·omega
 ·refine⟨g',cap',w',hr,h2,h3,?_⟩;rcases h5 with h5|h5
  ·exact .inl h5
  ·exact .inr (Z h5)
theorem eW {P:Program} {w:World} {ops:Array Oper} {rest:List Oper} {o:Oper} {a:Act} {Q:Exit->Act->World->Prop} {t e:TypeId} {size bytes:Nat} {z:Value} (hT:nf P t e size bytes z) (hgd:o.guard=none) (s x:Operand)
  (ho:o.op= .call {callee:= .builtin .append,args:= #[s,x],argTypes:= #[t,t]}) (base:Nat) (v:Value) (n:Nat) (xs:List Value) (hv:a.eval s=v) (hown:w.ownsRow base e size v n xs)
  (g:Nat) (news:List Value) (hx:a.eval x= .slice (some ⟨g,0,none⟩) 1 1) (hg:w.heap[g]? =some (.cells news.toArray e (0,0))) (hl:news.length=size) (h1: ∀u∈news,u.oneCell'=true) (hb:n<=1073741824) (hy:bytes<=1000) (hbase:base<=w.heap.size)
  (h: ∀A' cap' w',w'.ownsRow base e size (.slice (some ⟨A',0,none⟩) (n+1) cap') (n+1) (xs++news)->w.grownBy w' v.ownBlock->(some A'=v.ownBlock\/A'=w.heap.size)->
   wpList P ops Q rest (a.put o.dst (.slice (some ⟨A',0,none⟩) (n+1) cap')) w'):
  wpList P ops Q (o::rest) a w:=by
 obtain⟨A',cap',w',hr,h1,h2,h3⟩:=qS (P:=P) (w:=w) hT o.type base v n xs hown g news hg hl h1 hb hy hbase;refine wpList_plain hgd fun K hK=> ?_;unfold Oper.wp execOp;simp only[ho,resolve,invoke,builtin,Sem.run_bind,Sem.run_pure,Result.andThen_ok,dM,bY,d5,hv,hx,hr];exact hK _ _ (h A' cap' w' h1 h2 h3)
theorem y' {P:Program} {w:World} {o:Oper} {a:Act} {K:Act->World->Prop} {Q:Exit->Act->World->Prop} {t e:TypeId} {size bytes:Nat} {z:Value} (hT:nf P t e size bytes z) (s x:Operand)
  (ho:o.op= .call {callee:= .builtin .append,args:= #[s,x],argTypes:= #[t,t]}) (base:Nat) (v:Value) (n:Nat) (xs:List Value) (hv:a.eval s=v) (hown:w.ownsRow base e size v n xs)
  (g:Nat) (news:List Value) (hx:a.eval x= .slice (some ⟨g,0,none⟩) 1 1) (hg:w.heap[g]? =some (.cells news.toArray e (0,0))) (hl:news.length=size) (h1: ∀u∈news,u.oneCell'=true) (hb:n<=1073741824) (hy:bytes<=1000) (hbase:base<=w.heap.size)
  (h: ∀A' cap' w',w'.ownsRow base e size (.slice (some ⟨A',0,none⟩) (n+1) cap') (n+1) (xs++news)->w.grownBy w' v.ownBlock->(some A'=v.ownBlock\/A'=w.heap.size)->
   K (a.put o.dst (.slice (some ⟨A',0,none⟩) (n+1) cap')) w'):
  o.wp P a w K Q:=by
 obtain⟨A',cap',w',hr,h1,h2,h3⟩:=qS (P:=P) (w:=w) hT o.type base v n xs hown g news hg hl h1 hb hy hbase;unfold Oper.wp execOp;simp only[ho,resolve,invoke,builtin,Sem.run_bind,Sem.run_pure,Result.andThen_ok,dM,bY,d5,hv,hx,hr];exact h A' cap' w' h1 h2 h3
theorem f_.snoc {w w':World} {base:Nat} {e:TypeId} {v:Value} {l:List (Ex×Value)} {x:Ex} {a:Value} {A cap:Nat} (h:f_ w base e v l) (ha:cE w (fun b=>base<=b/\some b≠v.ownBlock) a x.args)
  (hn:w'.ownsRow base e 6 (.slice (some ⟨A,0,none⟩) (l.length+1) cap) (l.length+1) (fQ l++vN x a)) (hg:w.grownBy w' v.ownBlock) (hA:some A=v.ownBlock\/A=w.heap.size):
  f_ w' base e (.slice (some ⟨A,0,none⟩) (l.length+1) cap) (l++[(x,a)]):=by
 have hk:cC (fun b=>base<=b/\some b≠v.ownBlock) w w':= .of_grown hg fun b hb=>hb.2;have hq: ∀b,(base<=b/\some b≠v.ownBlock)->b<w.heap.size->(base<=b/\some b≠Value.ownBlock (.slice (some ⟨A,0,none⟩) (l.length+1) cap)):=fun b hb hlt=>by
  refine⟨hb.1,fun e=> ?_⟩;have e:b=A:=Z e;rcases hA with hA|hA
  ·exact hb.2 (by rw[e,hA])
  ·omega
 refine⟨by rw[aa,pA];simpa[fQ]using hn,fun p hp=> ?_⟩;rcases List.mem_append.1 hp with hp|hp
 ·exact(h.2 p hp).keep hk hq
 ·rw[cG]at hp;subst hp;exact ha.keep hk hq
end
section
open Go.RowKit
inductive cR (w:World) (P:Nat->Prop):Value->List St->Prop where
 |nil (A:Option Addr) (c:Nat):cR w P (.slice A 0 c) []
 |row (b o n c:Nat) (xs:List St) (es bs ls:Nat->Value) (hP:P b) (hb:b<w.heap.size) (hn:xs.length=n) (hnc:n<=c) (hm:c<=maxLen)
   (hc: ∀i,(h:i<xs.length)->w.cell? ⟨b,o+i*5,none⟩=some (.int .i64 xs[i].k)/\w.cell? ⟨b,o+i*5+1,none⟩=some (.string (ai xs[i].nm))/\w.cell? ⟨b,o+i*5+2,none⟩=some (es i)/\
    w.cell? ⟨b,o+i*5+3,none⟩=some (bs i)/\w.cell? ⟨b,o+i*5+4,none⟩=some (ls i))
   (he: ∀i,(h:i<xs.length)->cE w P (es i) (St.ex xs[i]))
   (hs: ∀i,(h:i<xs.length)->cR w P (bs i) (St.body xs[i]))
   (hl: ∀i,(h:i<xs.length)->cR w P (ls i) (St.els xs[i])):cR w P (.slice (some ⟨b,o,none⟩) n c) xs
theorem cR.keep {w w':World} {P Q:Nat->Prop} {v:Value} {xs:List St} (h:cR w P v xs) (hk:cC P w w') (hQ: ∀b,P b->b<w.heap.size->Q b):cR w' Q v xs:=by
 induction h with
 |nil A c=>exact .nil A c
 |row b o n c xs es bs ls hP hb hn hnc hm hc he hs hl ih1 ih2=>
  refine .row b o n c xs es bs ls (hQ b hP hb) (aA hb hk.size) hn hnc hm (fun i hi=> ?_) (fun i hi=>(he i hi).keep hk hQ) ih1 ih2;obtain⟨h0,h1,h2,h3,h4⟩:=hc i hi;exact⟨(hk.cell _ hP hb).trans h0,(hk.cell _ hP hb).trans h1,(hk.cell _ hP hb).trans h2,(hk.cell _ hP hb).trans h3,(hk.cell _ hP hb).trans h4⟩
theorem cR.mono {w:World} {P Q:Nat->Prop} {v:Value} {xs:List St} (h:cR w P v xs) (hQ: ∀b,P b->b<w.heap.size->Q b):cR w Q v xs:=h.keep ⟨ah _,fun _ _ _=>rfl⟩ hQ
theorem cR.form {w:World} {P:Nat->Prop} {v:Value} {xs:List St} (h:cR w P v xs): ∃A c,v= .slice A xs.length c/\(xs=[]\/xs.length<=c/\c<=maxLen/\ ∃b o,A=some ⟨b,o,none⟩/\b<w.heap.size):=by
 cases h with
 |nil A c=>exact⟨A,c,rfl, .inl rfl⟩
 |row b o n c xs es bs ls hP hb hn hnc hm hc he hs hl=>exact⟨_,c,by rw[hn], .inr ⟨by omega,hm,b,o,rfl,hb⟩⟩
theorem cR.at_ {w:World} {P:Nat->Prop} {A:Option Addr} {n c:Nat} {xs:List St} (h:cR w P (.slice A n c) xs) (i:Nat) (hi:i<xs.length):
  ∃b o u v z,A=some ⟨b,o,none⟩/\b<w.heap.size/\P b/\w.cell? ⟨b,o+i*5,none⟩=some (.int .i64 xs[i].k)/\w.cell? ⟨b,o+i*5+1,none⟩=some (.string (ai xs[i].nm))/\w.cell? ⟨b,o+i*5+2,none⟩=some u/\
   w.cell? ⟨b,o+i*5+3,none⟩=some v/\w.cell? ⟨b,o+i*5+4,none⟩=some z/\cE w P u (St.ex xs[i])/\cR w P v (St.body xs[i])/\cR w P z (St.els xs[i]):=by
 cases h with
 |nil=>simp at hi
 |row b o n c xs es bs ls hP hb hn hnc hm hc he hs hl=>
  obtain⟨h0,h1,h2,h3,h4⟩:=hc i hi;exact⟨b,o,es i,bs i,ls i,rfl,hb,hP,h0,h1,h2,h3,h4,he i hi,hs i hi,hl i hi⟩
structure SV where
 s:St
 e:Value
 b:Value
 l:Value
def wl (p:SV):List Value:=[.int .i64 p.s.k, .string (ai p.s.nm),p.e,p.b,p.l]
def d9 (l:List SV):List Value:=l.flatMap wl
theorem js: ∀l:List SV,(d9 l).length=l.length*5
 | []=>rfl
 |p::l=>by
  have:=js l;simp only[d9,bO,aa,wl,ae,ag]at this⊢;omega
theorem o4 (a b:List SV):d9 (a++b)=d9 a++d9 b:=by simp[d9]
theorem kv: ∀(l:List SV) (i:Nat) (h:i<l.length) (k:Nat),k<5->(d9 l)[i*5+k]? =(wl l[i])[k]?
 | [],i,h,k,hk=>by simp at h
 |p::l,0,h,k,hk=>by
  simp only[d9,bO,a8,aD,aE];rw[c_ (by simp[wl];omega)]
 |p::l,i+1,h,k,hk=>by
  have:=kv l i (by simpa using h) k hk;simp only[d9,bO,aQ]at this⊢;rw[cI (by simp[wl];omega),<-this]
  congr 1
  simp[wl];omega
def SV.ok (w:World) (P:Nat->Prop) (p:SV):Prop:=cE w P p.e p.s.ex/\cR w P p.b p.s.body/\cR w P p.l p.s.els
theorem SV.ok.keep {w w':World} {P Q:Nat->Prop} {p:SV} (h:p.ok w P) (hk:cC P w w') (hQ: ∀b,P b->b<w.heap.size->Q b):p.ok w' Q:=⟨h.1.keep hk hQ,h.2.1.keep hk hQ,h.2.2.keep hk hQ⟩
def ij (w:World) (base:Nat) (e:TypeId) (v:Value) (l:List SV):Prop:=
 w.ownsRow base e 5 v l.length (d9 l)/\ ∀p,p∈l->p.ok w (fun b=>base<=b/\some b≠v.ownBlock)
theorem ij.nil_ (w:World) (base:Nat) (e:TypeId):ij w base e (.slice none 0 0) []:=⟨World.ownsRow_nil w base e 5,fun p hp=>by cases hp⟩
theorem ij.grown {w w':World} {base:Nat} {e:TypeId} {v:Value} {l:List SV} {row:Option Nat} (h:ij w base e v l) (hg:w.grownBy w' row) (hr: ∀k,row=some k->k<base):ij w' base e v l:=by
 refine⟨World.ownsRow.kept h.1 hg ?_,fun p hp=> ?_⟩
 ·cases hv:v.ownBlock with
  |none=>exact .inl rfl
  |some k=>
   refine .inr fun e=> ?_;have:=(World.ownsRow.lt h.1 k hv).1;have:=hr k e.symm;omega
 ·exact(h.2 p hp).keep (.of_grown hg fun b hb e=>by have:=hr b e.symm;omega) fun b hb _=>hb
theorem ij.ext {w w':World} {base:Nat} {e:TypeId} {v:Value} {l:List SV} (h:ij w base e v l) (he:aq w w'):ij w' base e v l:=h.grown (he.grownBy none) (fun k hk=>by cases hk)
theorem ij.rd {w:World} {base:Nat} {e:TypeId} {v:Value} {l:List SV} (h:ij w base e v l):cR w (fun b=>base<=b) v (l.map (·.s)):=by
 rcases h.1.2 with⟨rfl,h0⟩|⟨g,cap,cur,rfl,hb,hg,hnc,hcm,hcs,ht⟩
 ·have:l=[]:=aJ h0;subst this;exact .nil _ _
 ·have hlt:g<w.heap.size:=(Array.getElem?_eq_some_iff.1 hg).1;have cell: ∀j y,(d9 l)[j]? =some y->w.cell? ⟨g,j,none⟩=some y:=fun j y hy=>by
   rw[cell_of_row w g j cur e (0,0) hg];rw[<-ht,cH]at hy;split at hy
   ·simpa using hy
   ·cases hy
  have ok: ∀i (hi:i<l.length),SV.ok w (fun b=>base<=b) l[i]:=fun i hi=>(h.2 l[i] (au hi)).keep ⟨ah _,fun _ _ _=>rfl⟩ fun b hb _=>hb.1;refine .row g 0 l.length cap _ (fun i=>if h:i<l.length then l[i].e else .slice none 0 0) (fun i=>if h:i<l.length then l[i].b else .slice none 0 0) (fun i=>if h:i<l.length then l[i].l else .slice none 0 0) hb hlt (by simp) hnc hcm (fun i hi=> ?_) (fun i hi=> ?_) (fun i hi=> ?_) (fun i hi=> ?_)
  ·have hi':i<l.length:=by simpa using hi
   have q:=fun k hk=>kv l i hi' k hk;have e0:(l.map (·.s))[i]=l[i].s:=by simp
   rw[e0,dif_pos hi',dif_pos hi',dif_pos hi',aD];exact⟨cell _ _ (q 0 (by omega)),cell _ _ (q 1 (by omega)),cell _ _ (q 2 (by omega)),cell _ _ (q 3 (by omega)),cell _ _ (q 4 (by omega))⟩
  all_goals
   have hi':i<l.length:=by simpa using hi
   have e0:(l.map (·.s))[i]=l[i].s:=by simp
   rw[e0,dif_pos hi']
  ·exact(ok i hi').1
  ·exact(ok i hi').2.1
  ·exact(ok i hi').2.2
theorem ij.snoc {w w':World} {base:Nat} {e:TypeId} {v:Value} {l:List SV} {p:SV} {A cap:Nat} (h:ij w base e v l) (ha:p.ok w (fun b=>base<=b/\some b≠v.ownBlock))
  (hn:w'.ownsRow base e 5 (.slice (some ⟨A,0,none⟩) (l.length+1) cap) (l.length+1) (d9 l++wl p)) (hg:w.grownBy w' v.ownBlock) (hA:some A=v.ownBlock\/A=w.heap.size):
  ij w' base e (.slice (some ⟨A,0,none⟩) (l.length+1) cap) (l++[p]):=by
 have hk:cC (fun b=>base<=b/\some b≠v.ownBlock) w w':= .of_grown hg fun b hb=>hb.2;have hq: ∀b,(base<=b/\some b≠v.ownBlock)->b<w.heap.size->(base<=b/\some b≠Value.ownBlock (.slice (some ⟨A,0,none⟩) (l.length+1) cap)):=fun b hb hlt=>by
  refine⟨hb.1,fun e=> ?_⟩;have e:b=A:=Z e;rcases hA with hA|hA
  ·exact hb.2 (by rw[e,hA])
  ·omega
 refine⟨by rw[aa,o4];simpa[d9]using hn,fun q hp=> ?_⟩;rcases List.mem_append.1 hp with hp|hp
 ·exact(h.2 q hp).keep hk hq
 ·rw[cG]at hp;subst hp;exact ha.keep hk hq
end
section
open Go.RowKit
def PA (w:World) (g:Nat) (l:List bN) (en:Int):Prop:=
 ∃A c,aL w g 155 #[.slice A l.length c, .int .i64 en]/\uv w A c l/\ ∀b off,A=some ⟨b,off,none⟩->l≠ []->b<g
theorem PA.lt {w:World} {g:Nat} {l:List bN} {en:Int} (h:PA w g l en):g<w.heap.size:=let⟨_,_,hb,_⟩:=h;hb.lt
theorem PA.ext {w w':World} {g:Nat} {l:List bN} {en:Int} (h:PA w g l en) (he:aq w w'):PA w' g l en:=let⟨A,c,hb,ht,hn⟩:=h;⟨A,c,hb.ext he,ht.ext he,hn⟩
theorem PA.grown {w w':World} {g:Nat} {l:List bN} {en:Int} {row:Option Nat} (h:PA w g l en) (hg:w.grownBy w' row) (h1: ∀k,row=some k->g<k):PA w' g l en:=by
 obtain⟨A,c,hb,ht,hn⟩:=h;refine⟨A,c,(hg.block g hb.lt (fun e=>by have:=h1 g e.symm;omega)).trans hb,⟨ht.le,ht.max,?_⟩,hn⟩;by_cases hl:l=[]
 ·exact .inl hl
 rcases ht.rd with h0|⟨b,off,ha,hlt,hc⟩
 ·exact absurd h0 hl
 ·have hbg:=hn b off ha hl;have hbk:=hg.block b hlt (fun e=>by have:=h1 b e.symm;omega);have cc: ∀o,w'.cell? ⟨b,o,none⟩=w.cell? ⟨b,o,none⟩:=fun o=>World.cell?_of_block (w:=w) (a:=⟨b,o,none⟩) hbk;exact .inr ⟨b,off,ha,aA hlt hg.size,fun i hi=>let⟨q0,q1,q2,q3⟩:=hc i hi;⟨(cc _).trans q0,(cc _).trans q1,(cc _).trans q2,(cc _).trans q3⟩⟩
theorem PA.next {w:World} {g:Nat} {t:bN} {r:List bN} {en:Int} {b off c:Nat} (hb:aL w g 155 #[.slice (some ⟨b,off,none⟩) (t::r).length c, .int .i64 en]) (ht:uv w (some ⟨b,off,none⟩) c (t::r)) (hn:b<g) (hlt:b<w.heap.size)
  (off' c':Nat) (h:(c=1/\off'=off/\c'=0)\/(¬c=1/\off'=off+4/\c'=c-1)):PA (w.setCell ⟨g,0,none⟩ (.slice (some ⟨b,off',none⟩) r.length c')) g r en/\w.grownBy (w.setCell ⟨g,0,none⟩ (.slice (some ⟨b,off',none⟩) r.length c')) (some g):=by
 have hle:=ht.le;have hmx:=ht.max;simp only[ae]at hle;refine⟨⟨_,c',hb.set 0 _,⟨by omega,by omega,?_⟩,fun b' o' e _=> ?_⟩,⟨rfl,rfl,rfl,by simp[World.setCell],fun k _ hk=>Below.heap_setCell w _ _ k (fun e=>hk (by rw[e]))⟩⟩
 ·rcases h with⟨h1,_,_⟩|⟨_,rfl,_⟩
  ·exact .inl (aJ (by omega))
  ·refine .inr ⟨b,off+4,rfl,by simpa[World.setCell]using hlt,fun i hi=> ?_⟩;obtain⟨b2,o2,e2,_,q0,q1,q2,q3⟩:=ht.at_ (i+1) (by simp;omega);injection e2 with e2;injection e2 with e2 e3;subst e2 e3;have cc: ∀o v,(w.setCell ⟨g,0,none⟩ v).cell? ⟨b,o,none⟩=w.cell? ⟨b,o,none⟩:=fun o v=>World.cell?_of_block (w:=w) (a:=⟨b,o,none⟩) (Below.heap_setCell w ⟨g,0,none⟩ v b (by show b≠g;omega));have en:off+4+i*4=off+(i+1)*4:=by omega
   simp only[aQ]at q0 q1 q2 q3;rw[en,cc,cc,cc,cc];exact⟨q0,q1,q2,q3⟩
 ·injection e with e;injection e with e;subst e;exact hn
def a6 (en:Int) (q:List bN) (n:Int):Ending:= .panicked [{v:= .iface 151 (.agg #[.int .i64 (Do en q), .int .i64 n]),recovered:=false}]
theorem d_ (g:Nat) (l:List bN) (en:Int) (w:World) (h:PA w g l en):Calls prog 146 #[.pointer (some ⟨g,0,none⟩)] w fun e w'=>e= .returned (.agg #[.int .i64 (ci l).k, .string (ai (ci l).t), .int .i64 (ci l).v, .int .i64 (ci l).f])/\aq w w':=by
 obtain⟨A,c,hb,ht,hn⟩:=h;have hbc:=(hb.alloc (.cells #[.int .i64 0, .string ⟨#[]⟩, .int .i64 0, .int .i64 0] 206)).cell
 cases l with
 |nil=>
  clear hb ht hn;go_enter func146,ntmps146;go_wp2_with fail;exact bodyPost_ret (v:= .agg #[.int .i64 0, .string ⟨#[]⟩, .int .i64 0, .int .i64 0]) (by simp[results,results146,go_sem]) rfl ⟨rfl,O w _⟩
 |cons t r=>
  obtain⟨b,off,rfl,hlt,h0,h1,h2,h3⟩:=ht.at_ 0 (by simp);have hE:aq w (w.alloc (.cells #[.int .i64 0, .string ⟨#[]⟩, .int .i64 0, .int .i64 0] 206)):=O w _;have c0:=(hE.cell b _ hlt).trans h0;have c1:=(hE.cell b _ hlt).trans h1;have c2:=(hE.cell b _ hlt).trans h2;have c3:=(hE.cell b _ hlt).trans h3;simp only[a8,br,aE]at c0 c1 c2 c3;obtain⟨n,hnn⟩: ∃n,(t::r).length=n:=⟨_,rfl⟩
  rw[hnn]at hbc;have hn0:0<n:=by rw[<-hnn];exact Nat.succ_pos _
  have hn0i:(0:Int)<n:=by omega
  have hn0b:((n:Int)==0)=false:=by rw[beq_eq_false_iff_ne];omega
  obtain⟨k,tx,v,f⟩:=t;simp only at c0 c1 c2 c3;clear hb ht hn hnn hE h0 h1 h2 h3;go_enter func146,ntmps146;go_wp2_with fail;exact bodyPost_ret (v:= .agg #[.int .i64 k, .string (ai tx), .int .i64 v, .int .i64 f]) (by simp[results,results146,go_sem]) rfl ⟨rfl,O w _⟩
theorem ol (g:Nat) (l:List bN) (en n:Int) (w:World) (h:PA w g l en):Calls prog 147 #[.pointer (some ⟨g,0,none⟩), .int .i64 n] w fun e w'=>e=a6 en l n/\aq w w':=by
 obtain⟨A,c,hb,ht,hn⟩:=h;have hbc:=hb.cell
 cases l with
 |nil=>
  clear hb ht hn;go_enter func147,ntmps147;go_wp2_with fail;exact⟨rfl,rfl,aR _⟩
 |cons t r=>
  obtain⟨b,off,rfl,hlt,c0,c1,c2,c3⟩:=ht.at_ 0 (by simp);simp only[a8,br,aE]at c0 c1 c2 c3;obtain⟨m,hnn⟩: ∃n,(t::r).length=n:=⟨_,rfl⟩
  rw[hnn]at hbc;have hn0:0<m:=by rw[<-hnn];exact Nat.succ_pos _
  have hn0i:(0:Int)<m:=by omega
  obtain⟨k,tx,v,f⟩:=t;simp only at c0 c1 c2 c3;clear hb ht hn hnn c0 c1 c2;go_enter func147,ntmps147;go_wp2_with fail;exact⟨rfl,rfl,aR _⟩
theorem gk (g:Nat) (l:List bN) (en:Int) (s:List UInt8) (w:World) (h:PA w g l en):Calls prog 145 #[.pointer (some ⟨g,0,none⟩), .string (ai s)] w fun e w'=>e= .returned (.bool (cP s l))/\aq w w':=by
 have HN:=G (d_ g l en w h);have HI:=G (show cP s l=(((ci l).k==5||(ci l).k==2)&&(ci l).t==s)from rfl);clear h;generalize ci l=t at*;obtain⟨k,tx,v,f⟩:=t;simp only at HN HI
 cases h5:(k==5)<;>cases h2:(k==2)<;>cases hs:(tx==s);all_goals
  rw[h5,h2,hs]at HI;go_enter func145,ntmps145;go_wp2_with (go_at_call 146;refine HN.out.mono ?_;rintro e w1 ⟨rfl,hE⟩;have HX:=G (hE.alloc' (.cells #[.int .i64 k, .string (ai tx), .int .i64 v, .int .i64 f] 206));clear hE HN);go_ret;exact⟨by rw[HI.out];rfl,HX.out⟩
theorem ch (g:Nat) (l:List bN) (en:Int) (s:List UInt8) (w:World) (h:PA w g l en):Calls prog 98 #[.pointer (some ⟨g,0,none⟩), .string (ai s)] w fun e w'=>e= .returned (.bool (cP s l))/\PA w' g (if cP s l then l.tail else l) en/\w.grownBy w' (some g):=by
 have HI:=G (gk g l en s w h)
 cases hi:cP s l with
 |false=>
  rw[hi]at HI;have HP:=G h;clear h;go_enter func98,ntmps98;go_wp2_with (go_at_call 145;refine HI.out.mono ?_;rintro e w1 ⟨rfl,hE⟩;have HX:=G hE;clear hE HI);go_ret;exact⟨rfl,HP.out.ext HX.out,HX.out.grownBy _⟩
 |true=>
  rw[hi]at HI;have HP:=G h;obtain⟨t,r,rfl⟩: ∃t r,l=t::r:=by
   cases l with
   |nil=>exact absurd rfl (lU hi)
   |cons t r=>exact⟨t,r,rfl⟩
  clear h hi;go_enter func98,ntmps98;go_wp2_with (go_at_call 145;refine HI.out.mono ?_;rintro e w1 ⟨rfl,hE⟩;obtain⟨A,c,hb,ht,hn⟩:=HP.out.ext hE;obtain⟨b,off,rfl,hlt,_⟩:=ht.at_ 0 (by simp);have hbc:=hb.cell;have hbf:=hb.frozen;have HX:=G hE;clear hE HI)
  ·obtain⟨h1,h2⟩:=PA.next hb ht (hn b off rfl (by simp)) hlt off 0 (.inl ⟨by assumption,rfl,rfl⟩);go_ret;exact⟨rfl,h1,am (HX.out.grownBy _) h2⟩
  ·obtain⟨h1,h2⟩:=PA.next hb ht (hn b off rfl (by simp)) hlt (off+4) (c-1) (.inr ⟨by assumption,rfl,rfl⟩);go_ret;exact⟨rfl,h1,am (HX.out.grownBy _) h2⟩
theorem d8 (g:Nat) (l:List bN) (en:Int) (s:List UInt8) (w:World) (h:PA w g l en) (hi:cP s l=true):Calls prog 100 #[.pointer (some ⟨g,0,none⟩), .string (ai s)] w fun e w'=>e= .returned (.tuple #[])/\PA w' g l.tail en/\w.grownBy w' (some g):=by
 have HG:=G (ch g l en s w h);rw[hi]at HG;simp only[if_true]at HG;clear h hi;go_enter func100,ntmps100;go_wp2_with (go_at_call 98;refine HG.out.mono ?_;rintro e w1 ⟨rfl,h1,h2⟩;have H1:=G h1;have H2:=G h2;clear h1 h2 HG)
 go_end0
 exact⟨rfl,H1.out,H2.out⟩
theorem fT (g:Nat) (l:List bN) (en:Int) (s:List UInt8) (w:World) (h:PA w g l en) (hi:cP s l=false):Calls prog 100 #[.pointer (some ⟨g,0,none⟩), .string (ai s)] w fun e w'=>e=a6 en l 3/\w.grownBy w' (some g):=by
 have HG:=G (ch g l en s w h);rw[hi]at HG;simp only[aN,if_false]at HG;clear h hi;go_enter func100,ntmps100
 go_wp2_with (first
  |(go_at_call 98;refine HG.out.mono ?_;rintro e w1 ⟨rfl,h1,h2⟩;have H1:=G h1;have H2:=G h2;clear h1 h2 HG)
  |(go_at_call 147;refine(ol g l en 3 _ H1.out).mono ?_;unfold a6;rintro e w2 ⟨rfl,h3⟩;have H3:=G (am H2.out (h3.grownBy _));clear h3))
 exact⟨rfl,rfl,H3.out⟩
theorem oa (g:Nat) (l:List bN) (en:Int) (w:World) (h:PA w g l en) (hi: ¬(ci l).k=1):Calls prog 101 #[.pointer (some ⟨g,0,none⟩)] w fun e w'=>e=a6 en l 3/\w.grownBy w' (some g):=by
 have HN:=G (d_ g l en w h);have HP:=G h;generalize ci l=t at*;obtain⟨k,tx,v,f⟩:=t;simp only at HN hi;have hk:(k==1)=false:=beq_eq_false_iff_ne.2 hi;clear h hi;go_enter func101,ntmps101
 go_wp2_with (first
  |(go_at_call 146;refine HN.out.mono ?_;rintro e w1 ⟨rfl,hE⟩;have HX:=G (hE.alloc' (.cells #[.int .i64 k, .string (ai tx), .int .i64 v, .int .i64 f] 206));clear hE HN)
  |(go_at_call 147;refine(ol g l en 3 _ (HP.out.ext HX.out)).mono ?_;unfold a6;rintro e w2 ⟨rfl,h3⟩;have H3:=G (HX.out.trans h3);clear h3))
 exact⟨rfl,rfl,H3.out.grownBy _⟩
theorem iv (g:Nat) (l:List bN) (en:Int) (w:World) (h:PA w g l en) (hi:(ci l).k=1):Calls prog 101 #[.pointer (some ⟨g,0,none⟩)] w fun e w'=>e= .returned (.string (ai (ci l).t))/\PA w' g l.tail en/\w.grownBy w' (some g):=by
 have HN:=G (d_ g l en w h);have HP:=G h;obtain⟨t,r,rfl⟩: ∃t r,l=t::r:=by
  cases l with
  |nil=>exact absurd hi (by decide)
  |cons t r=>exact⟨t,r,rfl⟩
 clear h;obtain⟨k,tx,v,f⟩:=t;simp only[ci]at HN hi;obtain rfl:k=1:=hi;go_enter func101,ntmps101;go_wp2_with (go_at_call 146;refine HN.out.mono ?_;rintro e w1 ⟨rfl,hE⟩;have HX:=G (hE.alloc' (.cells #[.int .i64 1, .string (ai tx), .int .i64 v, .int .i64 f] 206));obtain⟨A,c,hb,ht,hn⟩:=HP.out.ext HX.out;obtain⟨b,off,rfl,hlt,_⟩:=ht.at_ 0 (by simp);have hbc:=hb.cell;have hbf:=hb.frozen;clear hE HN)
 ·obtain⟨h1,h2⟩:=PA.next hb ht (hn b off rfl (by simp)) hlt off 0 (.inl ⟨by assumption,rfl,rfl⟩);go_ret;exact⟨rfl,h1,am (HX.out.grownBy _) h2⟩
 ·obtain⟨h1,h2⟩:=PA.next hb ht (hn b off rfl (by simp)) hlt (off+4) (c-1) (.inr ⟨by assumption,rfl,rfl⟩);go_ret;exact⟨rfl,h1,am (HX.out.grownBy _) h2⟩
end
section
open Go.RowKit
theorem xN (s:List UInt8):s=[124,124]\/s=[38,38]\/s=[61,61]\/s=[33,61]\/s=[60]\/s=[60,61]\/s=[62]\/s=[62,61]\/s=[43]\/s=[45]\/s=[42]\/s=[47]\/s=[37]\/
  (((s==[124,124])=false/\(s==[38,38])=false/\(s==[61,61])=false/\(s==[33,61])=false/\(s==[60])=false/\(s==[60,61])=false/\(s==[62])=false/\(s==[62,61])=false/\(s==[43])=false/\(s==[45])=false/\(s==[42])=false/\(s==[47])=false/\(s==[37])=false)/\kD s=0):=by
 by_cases h1:s=[124,124]
 ·exact .inl h1
 by_cases h2:s=[38,38]
 ·exact(.inr (.inl h2))
 by_cases h3:s=[61,61]
 ·exact(.inr (.inr (.inl h3)))
 by_cases h4:s=[33,61]
 ·exact(.inr (.inr (.inr (.inl h4))))
 by_cases h5:s=[60]
 ·exact(.inr (.inr (.inr (.inr (.inl h5)))))
 by_cases h6:s=[60,61]
 ·exact(.inr (.inr (.inr (.inr (.inr (.inl h6))))))
 by_cases h7:s=[62]
 ·exact(.inr (.inr (.inr (.inr (.inr (.inr (.inl h7)))))))
 by_cases h8:s=[62,61]
 ·exact(.inr (.inr (.inr (.inr (.inr (.inr (.inr (.inl h8))))))))
 by_cases h9:s=[43]
 ·exact(.inr (.inr (.inr (.inr (.inr (.inr (.inr (.inr (.inl h9)))))))))
 by_cases h10:s=[45]
 ·exact(.inr (.inr (.inr (.inr (.inr (.inr (.inr (.inr (.inr (.inl h10))))))))))
 by_cases h11:s=[42]
 ·exact(.inr (.inr (.inr (.inr (.inr (.inr (.inr (.inr (.inr (.inr (.inl h11)))))))))))
 by_cases h12:s=[47]
 ·exact(.inr (.inr (.inr (.inr (.inr (.inr (.inr (.inr (.inr (.inr (.inr (.inl h12))))))))))))
 by_cases h13:s=[37]
 ·exact(.inr (.inr (.inr (.inr (.inr (.inr (.inr (.inr (.inr (.inr (.inr (.inr (.inl h13)))))))))))))
 refine(.inr (.inr (.inr (.inr (.inr (.inr (.inr (.inr (.inr (.inr (.inr (.inr (.inr ⟨⟨beq_eq_false_iff_ne.2 h1,beq_eq_false_iff_ne.2 h2,beq_eq_false_iff_ne.2 h3,beq_eq_false_iff_ne.2 h4,beq_eq_false_iff_ne.2 h5,beq_eq_false_iff_ne.2 h6,beq_eq_false_iff_ne.2 h7,beq_eq_false_iff_ne.2 h8,beq_eq_false_iff_ne.2 h9,beq_eq_false_iff_ne.2 h10,beq_eq_false_iff_ne.2 h11,beq_eq_false_iff_ne.2 h12,beq_eq_false_iff_ne.2 h13⟩,?_⟩)))))))))))));unfold kD;rw[if_neg h1,if_neg h2,if_neg h3,if_neg h4,if_neg h5,if_neg h6,if_neg h7,if_neg h8,if_neg h9,if_neg h10,if_neg h11,if_neg h12,if_neg h13]
theorem kC (s:List UInt8) (w:World):Calls prog 153 #[.string (ai s)] w fun e w'=>e= .returned (.int .i64 (kD s))/\w=w':=by
 rcases xN s with rfl|rfl|rfl|rfl|rfl|rfl|rfl|rfl|rfl|rfl|rfl|rfl|rfl|⟨⟨e1,e2,e3,e4,e5,e6,e7,e8,e9,e10,e11,e12,e13⟩,hz⟩
 all_goals
  go_enter func153,ntmps153;go_wp2_with fail;go_ret;refine⟨?_,rfl⟩;first|exact congrArg (fun n=>Ending.returned (.int .i64 n)) hz.symm|rfl|(simp[kD];done)
theorem dr (b:Nat): ∀(vs:List Value) (o:Nat) (w:World),w.grownBy (w.setCells b o vs) (some b)
 | [],o,w=>⟨rfl,rfl,rfl,ah _,fun _ _ _=>rfl⟩
 |v::r,o,w=>am (show w.grownBy (w.setCell ⟨b,o,none⟩ v) (some b)from⟨rfl,rfl,rfl,by simp[World.setCell],fun k _ hk=>Below.heap_setCell w ⟨b,o,none⟩ v k (fun e=>hk (by rw[e]))⟩) (dr b r (o+1) _)
theorem dx {w0 w w':World} {g k:Nat} (h:w0.grownBy w (some g)) (h':w.grownBy w' (some k)) (hk:w0.heap.size<=k):w0.grownBy w' (some g):=
 ⟨h'.os.trans h.os,h'.tape.trans h.tape,h'.output.trans h.output,aZ h.size h'.size,fun i hi hn=>(h'.block i (aA hi h.size) (fun e=>by injection e with e;omega)).trans (h.block i hi hn)⟩
theorem aL.put6 {w:World} {g:Nat} {t:TypeId} {x0 x1 x2 x3 x4 x5:Value} (h:aL w g t #[x0,x1,x2,x3,x4,x5]) (a b c d e f:Value):aL (w.setCells g 0 [a,b,c,d,e,f]) g t #[a,b,c,d,e,f]:=by
 have:=(((((h.set 0 a).set 1 b).set 2 c).set 3 d).set 4 e).set 5 f;simpa[World.setCells]using this
theorem aL.put5' {w:World} {g:Nat} {t:TypeId} {x0 x1 x2 x3 x4:Value} (h:aL w g t #[x0,x1,x2,x3,x4]) (a b c d e:Value):aL (w.setCells g 0 [a,b,c,d,e]) g t #[a,b,c,d,e]:=by
 have:=((((h.set 0 a).set 1 b).set 2 c).set 3 d).set 4 e;simpa[World.setCells]using this
def oT (g:Nat) (en:Int) (w:World) (r:PR Ex) (e:Ending) (w':World):Prop:=
 w.grownBy w' (some g)/\match r with
 | .ok (x,q)=> ∃A n c,e= .returned (.agg #[.int .i64 x.k, .string (ai x.op), .string (ai x.nm), .string (ai x.tx), .int .i64 x.v, .slice A n c])/\cE w' (fun b=>w.heap.size<=b) (.slice A n c) x.args/\PA w' g q en
 | .error (q,n)=>e=a6 en q n
def eF (f:Nat):Prop:= ∀(n:Int) (l:List bN) (en:Int) (w:World) (g:Nat),PA w g l en->1<=n->n<=7->4*l.length+2<=f->Calls prog 183 #[.pointer (some ⟨g,0,none⟩), .int .i64 n] w (oT g en w (bQ f n l))
def pM (f:Nat):Prop:= ∀(l:List bN) (en:Int) (w:World) (g:Nat),PA w g l en->4*l.length+1<=f->Calls prog 205 #[.pointer (some ⟨g,0,none⟩)] w (oT g en w (cL f l))
def il (f:Nat):Prop:= ∀(nm:List UInt8) (l:List bN) (en:Int) (w:World) (g:Nat),PA w g l en->4*l.length+1<=f->Calls prog 206 #[.pointer (some ⟨g,0,none⟩), .string (ai nm)] w (oT g en w (ct f nm l))
end
section
open Go.RowKit
theorem lV {l:List bN} {k:Int} (h:(ci l).k=k) (hk:k≠0): ∃t r,l=t::r:=by
 cases l with
 |nil=>exact absurd h.symm hk
 |cons t r=>exact⟨t,r,rfl⟩
theorem PA.next_a {w:World} {g:Nat} {t:bN} {r:List bN} {en:Int} {b off c:Nat} (hb:aL w g 155 #[.slice (some ⟨b,off,none⟩) (t::r).length c, .int .i64 en]) (ht:uv w (some ⟨b,off,none⟩) c (t::r)) (hn:b<g) (hlt:b<w.heap.size) (h:c=1):
  PA (w.setCell ⟨g,0,none⟩ (.slice (some ⟨b,off,none⟩) r.length 0)) g r en/\w.grownBy (w.setCell ⟨g,0,none⟩ (.slice (some ⟨b,off,none⟩) r.length 0)) (some g):=PA.next hb ht hn hlt _ _ (.inl ⟨h,rfl,rfl⟩)
theorem PA.next_b {w:World} {g:Nat} {t:bN} {r:List bN} {en:Int} {b off c:Nat} (hb:aL w g 155 #[.slice (some ⟨b,off,none⟩) (t::r).length c, .int .i64 en]) (ht:uv w (some ⟨b,off,none⟩) c (t::r)) (hn:b<g) (hlt:b<w.heap.size) (h: ¬c=1):
  PA (w.setCell ⟨g,0,none⟩ (.slice (some ⟨b,off+4,none⟩) r.length (c-1))) g r en/\w.grownBy (w.setCell ⟨g,0,none⟩ (.slice (some ⟨b,off+4,none⟩) r.length (c-1))) (some g):=PA.next hb ht hn hlt _ _ (.inr ⟨h,rfl,rfl⟩)
theorem fY {g:Nat} {en:Int} {w w':World} {r:PR Ex} {q:List bN} {n:Int} (hr:r= .error (q,n)) (hG:w.grownBy w' (some g)):oT g en w r (a6 en q n) w':=by
 subst hr;exact⟨hG,rfl⟩
theorem nW {f:Nat} {l:List bN} (h3: ¬(ci l).k=3) (h4: ¬(ci l).k=4) (h1: ¬(ci l).k=1) (hs:(cP rX l||cP tP l)=true):cL (f+1) l=(cL f l.tail).then fun x q=> .ok (.mk 6 (ci l).t [] [] 0 [x],q):=by
 rw[cL,if_neg h3,if_neg h4,if_neg h1,if_pos hs]
theorem iu {f:Nat} {l:List bN} (h3: ¬(ci l).k=3) (h4: ¬(ci l).k=4) (h1: ¬(ci l).k=1) (hs:(cP rX l||cP tP l)=false):cL (f+1) l=(bV mi l).then fun _ r=>(bQ f 1 r).then fun x r=>(bV kA r).then fun _ r=> .ok (x,r):=by
 rw[cL,if_neg h3,if_neg h4,if_neg h1,if_neg (by rw[hs];simp)]
theorem ki {w W:World} {g pr:Nat} {en:Int} {q:List bN} {z0 z1 z2 z3 z4 z5:Value} {r:PR Ex} (x:Ex) (k:Int) (so sn st:ByteArray) (v:Int) (A:Option Addr) (n c:Nat) (hr:r= .ok (x,q)) (hk:x.k=k) (ho:ai x.op=so) (hn:ai x.nm=sn) (ht:ai x.tx=st) (hv:x.v=v) (hpr:pr=w.heap.size)
  (hB:aL W pr 70 #[z0,z1,z2,z3,z4,z5]) (hG:w.grownBy W (some g)) (hPA:PA W g q en) (hg:g<w.heap.size) (hR:cE W (fun b=>w.heap.size+1<=b) (.slice A n c) x.args):
  (∀i,(W.setCells pr 0 [.int .i64 k, .string so, .string sn, .string st, .int .i64 v, .slice A n c]).cell? ⟨pr,i,none⟩=(#[.int .i64 k, .string so, .string sn, .string st, .int .i64 v, .slice A n c]:Array Value)[i]?)/\
  oT g en w r (.returned (.agg #[.int .i64 k, .string so, .string sn, .string st, .int .i64 v, .slice A n c])) (W.setCells pr 0 [.int .i64 k, .string so, .string sn, .string st, .int .i64 v, .slice A n c]):=by
 subst hr hk ho hn ht hv hpr;have hc:=dr w.heap.size [.int .i64 x.k, .string (ai x.op), .string (ai x.nm), .string (ai x.tx), .int .i64 x.v, .slice A n c] 0 W;refine⟨(aL.put6 hB _ _ _ _ _ _).cell,dx hG hc (ah _),A,n,c,rfl,hR.keep (.of_grown hc fun b hb e=>by injection e with e;omega) fun b hb _=>by omega,hPA.grown hc fun k e=>by injection e with e;omega⟩
theorem xm (f:Nat) (l:List bN) (en:Int) (w:World) (g:Nat) (h:PA w g l en) (hk:(ci l).k=3):Calls prog 205 #[.pointer (some ⟨g,0,none⟩)] w (oT g en w (cL (f+1) l)):=by
 obtain⟨⟨k,tx,v,fr⟩,r,rfl⟩:=lV hk (by decide);obtain rfl:k=3:=hk;have HR:=G (show cL (f+1) (⟨3,tx,v,fr⟩::r)= .ok (.mk 1 [] [] [] v [],r)from by rw[cL];rfl);have HX0:=G (O w (.cells #[.int .i64 0, .string ⟨#[]⟩, .string ⟨#[]⟩, .string ⟨#[]⟩, .int .i64 0, .slice none 0 0] 70));have HB0:=G (an w 70 #[.int .i64 0, .string ⟨#[]⟩, .string ⟨#[]⟩, .string ⟨#[]⟩, .int .i64 0, .slice none 0 0]);have HN:=G (d_ g _ en _ (h.ext HX0.out));have HP:=G h;have hgl:=h.lt;clear h;simp only[ci]at HN;go_enter func205,ntmps205;go_wp2_with (go_at_call 146;refine HN.out.mono ?_;rintro e w1 ⟨rfl,hE⟩;have HX1:=G (hE.alloc' (.cells #[.int .i64 3, .string (ai tx), .int .i64 v, .int .i64 fr] 206));have HB1:=G (HB0.out.ext HX1.out);have HT1:=G (an w1 206 #[.int .i64 3, .string (ai tx), .int .i64 v, .int .i64 fr]);have hrc:=HB1.out.cell;have hrf:=HB1.out.frozen;have hrg:w.heap.size≠g:=(by omega);have hgr:g≠w.heap.size:=(by omega);clear hE HN;obtain⟨A,c,hb,ht,hn⟩:=(HP.out.ext HX0.out).ext HX1.out;obtain⟨b,off,rfl,hlt,_⟩:=ht.at_ 0 (by simp);have hbc:=hb.cell;have hbf:=hb.frozen);all_goals
  first|have hq:=PA.next_a hb ht (hn b off rfl (by simp)) hlt (by assumption)|have hq:=PA.next_b hb ht (hn b off rfl (by simp)) hlt (by assumption)
  obtain⟨h1,h2⟩:=hq;have hB2:=HB1.out.grown h2 (fun e=>hrg (Z e));obtain⟨hset,hfin⟩:=ki (.mk 1 [] [] [] v []) 1 ⟨#[]⟩ ⟨#[]⟩ ⟨#[]⟩ v none 0 0 HR.out rfl rfl rfl rfl rfl rfl hB2 (am ((HX0.out.trans HX1.out).grownBy _) h2) h1 hgl (.nil _ _);simp only[World.setCells,aD,Nat.reduceAdd]at hset hfin;exact bodyPost_ret (v:= .agg #[.int .i64 1, .string ⟨#[]⟩, .string ⟨#[]⟩, .string ⟨#[]⟩, .int .i64 v, .slice none 0 0]) (by simp[results,results205,go_sem,hset]) rfl hfin
theorem xl (f:Nat) (l:List bN) (en:Int) (w:World) (g:Nat) (h:PA w g l en) (hk:(ci l).k=4):Calls prog 205 #[.pointer (some ⟨g,0,none⟩)] w (oT g en w (cL (f+1) l)):=by
 obtain⟨⟨k,tx,v,fr⟩,r,rfl⟩:=lV hk (by decide);obtain rfl:k=4:=hk;have HR:=G (show cL (f+1) (⟨4,tx,v,fr⟩::r)= .ok (.mk 2 [] [] tx 0 [],r)from by rw[cL];rfl);have HX0:=G (O w (.cells #[.int .i64 0, .string ⟨#[]⟩, .string ⟨#[]⟩, .string ⟨#[]⟩, .int .i64 0, .slice none 0 0] 70));have HB0:=G (an w 70 #[.int .i64 0, .string ⟨#[]⟩, .string ⟨#[]⟩, .string ⟨#[]⟩, .int .i64 0, .slice none 0 0]);have HN:=G (d_ g _ en _ (h.ext HX0.out));have HP:=G h;have hgl:=h.lt;clear h;simp only[ci]at HN;go_enter func205,ntmps205;go_wp2_with (go_at_call 146;refine HN.out.mono ?_;rintro e w1 ⟨rfl,hE⟩;have HX1:=G (hE.alloc' (.cells #[.int .i64 4, .string (ai tx), .int .i64 v, .int .i64 fr] 206));have HB1:=G (HB0.out.ext HX1.out);have HT1:=G (an w1 206 #[.int .i64 4, .string (ai tx), .int .i64 v, .int .i64 fr]);have hrc:=HB1.out.cell;have hrf:=HB1.out.frozen;have hrg:w.heap.size≠g:=(by omega);have hgr:g≠w.heap.size:=(by omega);clear hE HN;obtain⟨A,c,hb,ht,hn⟩:=(HP.out.ext HX0.out).ext HX1.out;obtain⟨b,off,rfl,hlt,_⟩:=ht.at_ 0 (by simp);have hbc:=hb.cell;have hbf:=hb.frozen);all_goals
  first|have hq:=PA.next_a hb ht (hn b off rfl (by simp)) hlt (by assumption)|have hq:=PA.next_b hb ht (hn b off rfl (by simp)) hlt (by assumption)
  obtain⟨h1,h2⟩:=hq;have hB2:=HB1.out.grown h2 (fun e=>hrg (Z e));obtain⟨hset,hfin⟩:=ki (.mk 2 [] [] tx 0 []) 2 ⟨#[]⟩ ⟨#[]⟩ (ai tx) 0 none 0 0 HR.out rfl rfl rfl rfl rfl rfl hB2 (am ((HX0.out.trans HX1.out).grownBy _) h2) h1 hgl (.nil _ _);simp only[World.setCells,aD,Nat.reduceAdd]at hset hfin;exact bodyPost_ret (v:= .agg #[.int .i64 2, .string ⟨#[]⟩, .string ⟨#[]⟩, .string (ai tx), .int .i64 0, .slice none 0 0]) (by simp[results,results205,go_sem,hset]) rfl hfin
theorem vu (f:Nat) (l:List bN) (en:Int) (w:World) (g:Nat) (h:PA w g l en) (hN:il f) (hf:4*l.length+1<=f+1) (hk:(ci l).k=1):Calls prog 205 #[.pointer (some ⟨g,0,none⟩)] w (oT g en w (cL (f+1) l)):=by
 obtain⟨⟨k,nm,v,fr⟩,r,rfl⟩:=lV hk (by decide);obtain rfl:k=1:=hk;have HRP:=G (show cL (f+1) (⟨1,nm,v,fr⟩::r)=ct f nm r from by rw[cL];rfl);have HX0:=G (O w (.cells #[.int .i64 0, .string ⟨#[]⟩, .string ⟨#[]⟩, .string ⟨#[]⟩, .int .i64 0, .slice none 0 0] 70));have HB0:=G (an w 70 #[.int .i64 0, .string ⟨#[]⟩, .string ⟨#[]⟩, .string ⟨#[]⟩, .int .i64 0, .slice none 0 0]);have HN:=G (d_ g _ en _ (h.ext HX0.out));have HP:=G h;have hgl:=h.lt;clear h;simp only[ci]at HN;have hf':4*r.length+1<=f:=by simp only[ae]at hf;omega
 cases hpn:ct f nm r with
 |error q=>
  obtain⟨q,n⟩:=q;rw[hpn]at HRP;go_enter func205,ntmps205;go_wp2_with (first|(go_at_call 146;refine HN.out.mono ?_;rintro e w1 ⟨rfl,hE⟩;have HX1:=G (hE.alloc' (.cells #[.int .i64 1, .string (ai nm), .int .i64 v, .int .i64 fr] 206));have HB1:=G (HB0.out.ext HX1.out);have HT1:=G (an w1 206 #[.int .i64 1, .string (ai nm), .int .i64 v, .int .i64 fr]);have hrc:=HB1.out.cell;have hrf:=HB1.out.frozen;have hrg:w.heap.size≠g:=(by omega);have hgr:g≠w.heap.size:=(by omega);clear hE HN;have HP1:=G ((HP.out.ext HX0.out).ext HX1.out))|(go_at_call 101;refine(iv g _ en _ HP1.out rfl).mono ?_;simp only[ci,List.tail_cons];rintro e w2 ⟨rfl,h1,h2⟩;have HP2:=G h1;have HG2:=G (am ((HX0.out.trans HX1.out).grownBy _) h2);have HB2:=G (HB1.out.grown h2 (fun e=>hrg (Z e)));clear h1 h2)|(go_at_call 206;refine(hN nm r en _ g HP2.out hf').mono ?_;intro e w3 hh;rw[hpn]at hh;obtain⟨hG,rfl⟩:=hh;unfold a6;have HG3:=G (am HG2.out hG);clear hG));exact⟨rfl,fY HRP.out HG3.out⟩
 |ok p=>
  obtain⟨x,q⟩:=p;rw[hpn]at HRP;have HR:=HRP;go_enter func205,ntmps205;go_wp2_with (first|(go_at_call 146;refine HN.out.mono ?_;rintro e w1 ⟨rfl,hE⟩;have HX1:=G (hE.alloc' (.cells #[.int .i64 1, .string (ai nm), .int .i64 v, .int .i64 fr] 206));have HB1:=G (HB0.out.ext HX1.out);have HT1:=G (an w1 206 #[.int .i64 1, .string (ai nm), .int .i64 v, .int .i64 fr]);have hrc:=HB1.out.cell;have hrf:=HB1.out.frozen;have hrg:w.heap.size≠g:=(by omega);have hgr:g≠w.heap.size:=(by omega);clear hE HN;have HP1:=G ((HP.out.ext HX0.out).ext HX1.out))|(go_at_call 101;refine(iv g _ en _ HP1.out rfl).mono ?_;simp only[ci,List.tail_cons];rintro e w2 ⟨rfl,h1,h2⟩;have HP2:=G h1;have HG2:=G (am ((HX0.out.trans HX1.out).grownBy _) h2);have HB2:=G (HB1.out.grown h2 (fun e=>hrg (Z e)));clear h1 h2)|(go_at_call 206;refine(hN nm r en _ g HP2.out hf').mono ?_;intro e w3 hh;rw[hpn]at hh;obtain⟨hG,A,n,c,rfl,hR,hPA⟩:=hh;have HG3:=G (am HG2.out hG);have HB3:=G (HB2.out.grown hG (fun e=>hrg (Z e)));have hz2:w.heap.size+1<=w2.heap.size:=(by have:=HB2.out.lt;omega);have HRD:=G (hR.mono (fun b hb _=>aZ hz2 hb));have HP3:=G hPA;clear hrc hrf;have hrc:=HB3.out.cell;have hrf:=HB3.out.frozen;clear hG hR hPA));obtain⟨hset,hfin⟩:=ki (x) x.k (ai x.op) (ai x.nm) (ai x.tx) x.v A n c HR.out rfl rfl rfl rfl rfl rfl HB3.out HG3.out HP3.out hgl HRD.out;simp only[World.setCells,aD,Nat.reduceAdd]at hset hfin;exact bodyPost_ret (v:= .agg #[.int .i64 x.k, .string (ai x.op), .string (ai x.nm), .string (ai x.tx), .int .i64 x.v, .slice A n c]) (by simp[results,results205,go_sem,hset]) rfl hfin
theorem sJ (f:Nat) (l:List bN) (en:Int) (w:World) (g:Nat) (h:PA w g l en) (hP:pM f) (hf:4*l.length+1<=f+1) (hk3: ¬(ci l).k=3) (hk4: ¬(ci l).k=4) (hk1: ¬(ci l).k=1) (hmi:cP rX l=true):Calls prog 205 #[.pointer (some ⟨g,0,none⟩)] w (oT g en w (cL (f+1) l)):=by
 obtain⟨⟨k,tx,v,fr⟩,r,rfl⟩: ∃t r,l=t::r:=by
  cases l with
  |nil=>exact absurd rfl (lU hmi)
  |cons t r=>exact⟨t,r,rfl⟩
 simp only[ci]at hk3 hk4 hk1;have hb3:(k==3)=false:=beq_eq_false_iff_ne.2 hk3;have hb4:(k==4)=false:=beq_eq_false_iff_ne.2 hk4;have hb1:(k==1)=false:=beq_eq_false_iff_ne.2 hk1;have HRP:=G (show cL (f+1) (⟨k,tx,v,fr⟩::r)=(cL f r).then fun x q=> .ok (.mk 6 tx [] [] 0 [x],q)from nW hk3 hk4 hk1 (by rw[hmi];rfl));have hf':4*r.length+1<=f:=by simp only[ae]at hf;omega
 have HX0:=G (O w (.cells #[.int .i64 0, .string ⟨#[]⟩, .string ⟨#[]⟩, .string ⟨#[]⟩, .int .i64 0, .slice none 0 0] 70));have HB0:=G (an w 70 #[.int .i64 0, .string ⟨#[]⟩, .string ⟨#[]⟩, .string ⟨#[]⟩, .int .i64 0, .slice none 0 0]);have HN:=G (d_ g _ en _ (h.ext HX0.out));have HP:=G h;have hgl:=h.lt;clear h;simp only[ci]at HN;go_enter func205,ntmps205;go_wp2_with (first|(go_at_call 146;refine HN.out.mono ?_;rintro e w1 ⟨rfl,hE⟩;have hpt:w.heap.size<w1.heap.size:=(by have:=HB0.out.lt;have:=cJ hE;omega);have HX1:=G (hE.alloc' (.cells #[.int .i64 k, .string (ai tx), .int .i64 v, .int .i64 fr] 206));have HB1:=G (HB0.out.ext HX1.out);have HT1:=G (an w1 206 #[.int .i64 k, .string (ai tx), .int .i64 v, .int .i64 fr]);have hrc:=HB1.out.cell;have hrf:=HB1.out.frozen;have hrg:w.heap.size≠g:=(by omega);have hgr:g≠w.heap.size:=(by omega);clear hE HN;have HP1:=G ((HP.out.ext HX0.out).ext HX1.out))|(go_at_call 145;refine(gk g _ en rX _ HP1.out).mono ?_;rw[hmi];rintro e w2 ⟨rfl,hE⟩;have HX2:=G (HX1.out.trans hE);have HP2:=G (HP1.out.ext hE);have HB2:=G (HB1.out.ext hE);have HT2:=G (HT1.out.ext hE);clear hrc hrf;have hrc:=HB2.out.cell;have hrf:=HB2.out.frozen;clear HP1;obtain⟨A,c,hb,ht,hn⟩:=HP2.out;obtain⟨b,off,rfl,hlt,_⟩:=ht.at_ 0 (by simp);have hbc:=hb.cell;have hbf:=hb.frozen;clear hE));all_goals
  first|have hq:=PA.next_a hb ht (hn b off rfl (by simp)) hlt (by assumption)|have hq:=PA.next_b hb ht (hn b off rfl (by simp)) hlt (by assumption)
  obtain⟨h1,h2⟩:=hq;have hptg:w1.heap.size≠g:=by omega
  have HG5:=G (am ((HX0.out.trans HX2.out).grownBy (some g)) h2);have HB5:=G (HB2.out.grown h2 (fun e=>hrg (Z e)));have HT5:=G (HT2.out.grown h2 (fun e=>hptg (Z e)));have HP5:=G h1;clear hb ht hn hlt hbc hbf hrc hrf h2 h1;generalize World.setCell _ _ _=w5 at*
  cases hpp:cL f r with
  |error p=>
   obtain⟨q,n⟩:=p;rw[hpp]at HRP;refine bR 6 12 [(3,fun v=>v= .agg #[.int .i64 0, .string ⟨#[]⟩, .string ⟨#[]⟩, .string ⟨#[]⟩, .int .i64 0, .slice none 0 0],fun _ _=>False),(4,fun v=> ∃gb,v= .slice (some ⟨gb,0,none⟩) 1 1,fun _ _=>True)] 3 (some g) mixed (by kernel_rfl) ⟨fun _ _ _ h _=>h,fun _ _ _ h _=>h,trivial⟩ ⟨.inl rfl, .inr fun _ _ _ h _=>h,trivial⟩ ?_;repeat (refine sx ?_ (fun w1 hU=> ?_) ?_;rotate_left;(focus have f1:=(HT5.out.grown (aB hU) (fun e=>hptg (Z e))).cell;clear hU;go_simp<;>with_reducible rfl);simp only[aY,aX,aW,aV,aU])
   refine bH _ _ (by rfl) rfl ⟨_,rfl⟩ rfl (fun w6 hT hp K hK=> ?_) ?_
   ·clear hp;have hc:=hP r en w6 g (HP5.out.ext hT.un) hf';have HT6:=G hT.un;clear hT;go_simp;refine hc.mono ?_;intro e w7 hh;rw[hpp]at hh;obtain⟨hG,rfl⟩:=hh;unfold a6;intro a' hd;exact⟨hd,fY HRP.out (am HG5.out (am (HT6.out.grownBy _) hG))⟩
   rintro _ rfl;simp only[aY,aX,aW,aV,aU];refine bJ _ _ (by rfl) rfl ⟨_,0,rfl⟩ (by simp) (fun w6 hU hp K hK=> ?_) ?_
   ·clear hp;go_simp;exact hK _ _ (O w6 _) ⟨_,rfl⟩ trivial
   rintro _ ⟨gb,rfl⟩;simp only[aY,aX,aW,aV,aU];repeat (refine sx ?_ (fun w1 hU=> ?_) ?_;rotate_left;(focus go_simp<;>with_reducible rfl);simp only[aY,aX,aW,aV,aU])
   intro w6 hw6 hp;exact(hp _ (.tail _ (.head _))).elim
  |ok p=>
   obtain⟨x,q⟩:=p;have HR:=G (show cL (f+1) (⟨k,tx,v,fr⟩::r)= .ok (.mk 6 tx [] [] 0 [x],q)from by rw[HRP.out,hpp];rfl);have hg5:g<w5.heap.size:=HP5.out.lt;have hpr5:w.heap.size+1<=w5.heap.size:=HB5.out.lt
   refine bR 6 12 [(3,fun v=> ∃A n c,v= .agg #[.int .i64 x.k, .string (ai x.op), .string (ai x.nm), .string (ai x.tx), .int .i64 x.v, .slice A n c],fun v wx=> ∀A n c,v= .agg #[.int .i64 x.k, .string (ai x.op), .string (ai x.nm), .string (ai x.tx), .int .i64 x.v, .slice A n c]->cE wx (fun b=>w5.heap.size<=b) (.slice A n c) x.args/\PA wx g q en),
     (4,fun v=> ∃gb,v= .slice (some ⟨gb,0,none⟩) 1 1,fun v wx=>cE wx (fun b=>w5.heap.size<=b) v [x])] 3 (some g) mixed (by kernel_rfl)
    ⟨fun _ _ _ h hx A n c e=>⟨(h A n c e).1.keep (.of_ext hx) (fun _ hb _=>hb),(h A n c e).2.ext hx⟩,fun _ _ _ h hx=>h.keep (.of_ext hx) (fun _ hb _=>hb),trivial⟩
    ⟨.inl rfl, .inr fun _ _ _ h hx=>h.keep (.of_grown hx fun b hb e=>by injection e with e;omega) (fun _ hb _=>hb),trivial⟩ ?_
   repeat (refine sx ?_ (fun w1 hU=> ?_) ?_;rotate_left;(focus have f1:=(HT5.out.grown (aB hU) (fun e=>hptg (Z e))).cell;clear hU;go_simp<;>with_reducible rfl);simp only[aY,aX,aW,aV,aU])
   refine bH _ _ (by rfl) rfl ⟨_,none,0,0,rfl⟩ rfl (fun w6 hT hp K hK=> ?_) ?_
   ·clear hp;have hc:=hP r en w6 g (HP5.out.ext hT.un) hf';have HT6:=G hT.un;clear hT;go_simp;refine hc.mono ?_;intro e w7 hh;rw[hpp]at hh;obtain⟨hG,A,n,c,rfl,hR,hPA⟩:=hh;exact hK _ _ hG ⟨_,_,_,rfl⟩ (fun A' n' c' e=>by injection e with e;simp only[eq,cO,dw,and_true,true_and]at e;obtain⟨rfl,rfl,rfl⟩:=e;exact⟨hR.mono (fun b hb _=>aZ (cJ HT6.out) hb),hPA⟩)
   rintro _ ⟨A,n,c,rfl⟩;simp only[aY,aX,aW,aV,aU];refine bJ _ _ (by rfl) rfl ⟨_,0,rfl⟩ (by simp) (fun w6 hU hp K hK=> ?_) ?_
   ·have h3:=(hp _ (.head _) (by kernel_rfl)) A n c rfl;have hz6:=(aB hU).size;clear hp hU;go_simp;exact hK _ _ (O w6 _) ⟨_,rfl⟩ (cE.one (an w6 _ _) hz6 (h3.1.keep (.of_ext (O w6 _)) (fun _ hb _=>hb)))
   rintro _ ⟨gb,rfl⟩;simp only[aY,aX,aW,aV,aU];repeat (refine sx ?_ (fun w1 hU=> ?_) ?_;rotate_left;(focus go_simp<;>with_reducible rfl);simp only[aY,aX,aW,aV,aU])
   intro w8 hw8 hp;have h4:=hp _ (.head _);have h3:=(hp _ (.tail _ (.head _)) A n c rfl).2;clear hp;simp only[ac,ap];have hG8:=am HG5.out (aB hw8);have hB8:=HB5.out.grown (aB hw8) (fun e=>hrg (Z e));have hrc:=hB8.cell;have hrf:=hB8.frozen;clear hw8;go_wp2_with fail;obtain⟨hset,hfin⟩:=ki (.mk 6 tx [] [] 0 [x]) 6 (ai tx) ⟨#[]⟩ ⟨#[]⟩ 0 (some ⟨gb,0,none⟩) 1 1 HR.out rfl rfl rfl rfl rfl rfl hB8 hG8 h3 hgl (h4.mono fun b hb _=>aZ hpr5 hb);simp only[World.setCells,aD,Nat.reduceAdd]at hset hfin;exact bodyPost_ret (v:= .agg #[.int .i64 6, .string (ai tx), .string ⟨#[]⟩, .string ⟨#[]⟩, .int .i64 0, .slice (some ⟨gb,0,none⟩) 1 1]) (by simp[results,results205,go_sem,hset]) rfl hfin
theorem xn (f:Nat) (l:List bN) (en:Int) (w:World) (g:Nat) (h:PA w g l en) (hP:pM f) (hf:4*l.length+1<=f+1) (hk3: ¬(ci l).k=3) (hk4: ¬(ci l).k=4) (hk1: ¬(ci l).k=1) (hmi:cP rX l=false) (hno:cP tP l=true):Calls prog 205 #[.pointer (some ⟨g,0,none⟩)] w (oT g en w (cL (f+1) l)):=by
 obtain⟨⟨k,tx,v,fr⟩,r,rfl⟩: ∃t r,l=t::r:=by
  cases l with
  |nil=>exact absurd rfl (lU hno)
  |cons t r=>exact⟨t,r,rfl⟩
 simp only[ci]at hk3 hk4 hk1;have hb3:(k==3)=false:=beq_eq_false_iff_ne.2 hk3;have hb4:(k==4)=false:=beq_eq_false_iff_ne.2 hk4;have hb1:(k==1)=false:=beq_eq_false_iff_ne.2 hk1;have HRP:=G (show cL (f+1) (⟨k,tx,v,fr⟩::r)=(cL f r).then fun x q=> .ok (.mk 6 tx [] [] 0 [x],q)from nW hk3 hk4 hk1 (by rw[hmi,hno];rfl));have hf':4*r.length+1<=f:=by simp only[ae]at hf;omega
 have HX0:=G (O w (.cells #[.int .i64 0, .string ⟨#[]⟩, .string ⟨#[]⟩, .string ⟨#[]⟩, .int .i64 0, .slice none 0 0] 70));have HB0:=G (an w 70 #[.int .i64 0, .string ⟨#[]⟩, .string ⟨#[]⟩, .string ⟨#[]⟩, .int .i64 0, .slice none 0 0]);have HN:=G (d_ g _ en _ (h.ext HX0.out));have HP:=G h;have hgl:=h.lt;clear h;simp only[ci]at HN;go_enter func205,ntmps205;go_wp2_with (first|(go_at_call 146;refine HN.out.mono ?_;rintro e w1 ⟨rfl,hE⟩;have hpt:w.heap.size<w1.heap.size:=(by have:=HB0.out.lt;have:=cJ hE;omega);have HX1:=G (hE.alloc' (.cells #[.int .i64 k, .string (ai tx), .int .i64 v, .int .i64 fr] 206));have HB1:=G (HB0.out.ext HX1.out);have HT1:=G (an w1 206 #[.int .i64 k, .string (ai tx), .int .i64 v, .int .i64 fr]);have hrc:=HB1.out.cell;have hrf:=HB1.out.frozen;have hrg:w.heap.size≠g:=(by omega);have hgr:g≠w.heap.size:=(by omega);clear hE HN;have HP1:=G ((HP.out.ext HX0.out).ext HX1.out))|(go_at_call 145;refine(gk g _ en rX _ HP1.out).mono ?_;rw[hmi];rintro e w2 ⟨rfl,hE⟩;have HX2:=G (HX1.out.trans hE);have HP2:=G (HP1.out.ext hE);have HB2:=G (HB1.out.ext hE);have HT2:=G (HT1.out.ext hE);clear hrc hrf;have hrc:=HB2.out.cell;have hrf:=HB2.out.frozen;clear HP1)|(go_at_call 145;refine(gk g _ en tP _ HP2.out).mono ?_;rw[hno];rintro e w3 ⟨rfl,hE⟩;have HX3:=G (HX2.out.trans hE);have HP3:=G (HP2.out.ext hE);have HB3:=G (HB2.out.ext hE);have HT3:=G (HT2.out.ext hE);clear hrc hrf;have hrc:=HB3.out.cell;have hrf:=HB3.out.frozen;clear HP2;obtain⟨A,c,hb,ht,hn⟩:=HP3.out;obtain⟨b,off,rfl,hlt,_⟩:=ht.at_ 0 (by simp);have hbc:=hb.cell;have hbf:=hb.frozen;clear hE));all_goals
  first|have hq:=PA.next_a hb ht (hn b off rfl (by simp)) hlt (by assumption)|have hq:=PA.next_b hb ht (hn b off rfl (by simp)) hlt (by assumption)
  obtain⟨h1,h2⟩:=hq;have hptg:w1.heap.size≠g:=by omega
  have HG5:=G (am ((HX0.out.trans HX3.out).grownBy (some g)) h2);have HB5:=G (HB3.out.grown h2 (fun e=>hrg (Z e)));have HT5:=G (HT3.out.grown h2 (fun e=>hptg (Z e)));have HP5:=G h1;clear hb ht hn hlt hbc hbf hrc hrf h2 h1;generalize World.setCell _ _ _=w5 at*
  cases hpp:cL f r with
  |error p=>
   obtain⟨q,n⟩:=p;rw[hpp]at HRP;refine bR 6 12 [(3,fun v=>v= .agg #[.int .i64 0, .string ⟨#[]⟩, .string ⟨#[]⟩, .string ⟨#[]⟩, .int .i64 0, .slice none 0 0],fun _ _=>False),(4,fun v=> ∃gb,v= .slice (some ⟨gb,0,none⟩) 1 1,fun _ _=>True)] 3 (some g) mixed (by kernel_rfl) ⟨fun _ _ _ h _=>h,fun _ _ _ h _=>h,trivial⟩ ⟨.inl rfl, .inr fun _ _ _ h _=>h,trivial⟩ ?_;repeat (refine sx ?_ (fun w1 hU=> ?_) ?_;rotate_left;(focus have f1:=(HT5.out.grown (aB hU) (fun e=>hptg (Z e))).cell;clear hU;go_simp<;>with_reducible rfl);simp only[aY,aX,aW,aV,aU])
   refine bH _ _ (by rfl) rfl ⟨_,rfl⟩ rfl (fun w6 hT hp K hK=> ?_) ?_
   ·clear hp;have hc:=hP r en w6 g (HP5.out.ext hT.un) hf';have HT6:=G hT.un;clear hT;go_simp;refine hc.mono ?_;intro e w7 hh;rw[hpp]at hh;obtain⟨hG,rfl⟩:=hh;unfold a6;intro a' hd;exact⟨hd,fY HRP.out (am HG5.out (am (HT6.out.grownBy _) hG))⟩
   rintro _ rfl;simp only[aY,aX,aW,aV,aU];refine bJ _ _ (by rfl) rfl ⟨_,0,rfl⟩ (by simp) (fun w6 hU hp K hK=> ?_) ?_
   ·clear hp;go_simp;exact hK _ _ (O w6 _) ⟨_,rfl⟩ trivial
   rintro _ ⟨gb,rfl⟩;simp only[aY,aX,aW,aV,aU];repeat (refine sx ?_ (fun w1 hU=> ?_) ?_;rotate_left;(focus go_simp<;>with_reducible rfl);simp only[aY,aX,aW,aV,aU])
   intro w6 hw6 hp;exact(hp _ (.tail _ (.head _))).elim
  |ok p=>
   obtain⟨x,q⟩:=p;have HR:=G (show cL (f+1) (⟨k,tx,v,fr⟩::r)= .ok (.mk 6 tx [] [] 0 [x],q)from by rw[HRP.out,hpp];rfl);have hg5:g<w5.heap.size:=HP5.out.lt;have hpr5:w.heap.size+1<=w5.heap.size:=HB5.out.lt
   refine bR 6 12 [(3,fun v=> ∃A n c,v= .agg #[.int .i64 x.k, .string (ai x.op), .string (ai x.nm), .string (ai x.tx), .int .i64 x.v, .slice A n c],fun v wx=> ∀A n c,v= .agg #[.int .i64 x.k, .string (ai x.op), .string (ai x.nm), .string (ai x.tx), .int .i64 x.v, .slice A n c]->cE wx (fun b=>w5.heap.size<=b) (.slice A n c) x.args/\PA wx g q en),
     (4,fun v=> ∃gb,v= .slice (some ⟨gb,0,none⟩) 1 1,fun v wx=>cE wx (fun b=>w5.heap.size<=b) v [x])] 3 (some g) mixed (by kernel_rfl)
    ⟨fun _ _ _ h hx A n c e=>⟨(h A n c e).1.keep (.of_ext hx) (fun _ hb _=>hb),(h A n c e).2.ext hx⟩,fun _ _ _ h hx=>h.keep (.of_ext hx) (fun _ hb _=>hb),trivial⟩
    ⟨.inl rfl, .inr fun _ _ _ h hx=>h.keep (.of_grown hx fun b hb e=>by injection e with e;omega) (fun _ hb _=>hb),trivial⟩ ?_
   repeat (refine sx ?_ (fun w1 hU=> ?_) ?_;rotate_left;(focus have f1:=(HT5.out.grown (aB hU) (fun e=>hptg (Z e))).cell;clear hU;go_simp<;>with_reducible rfl);simp only[aY,aX,aW,aV,aU])
   refine bH _ _ (by rfl) rfl ⟨_,none,0,0,rfl⟩ rfl (fun w6 hT hp K hK=> ?_) ?_
   ·clear hp;have hc:=hP r en w6 g (HP5.out.ext hT.un) hf';have HT6:=G hT.un;clear hT;go_simp;refine hc.mono ?_;intro e w7 hh;rw[hpp]at hh;obtain⟨hG,A,n,c,rfl,hR,hPA⟩:=hh;exact hK _ _ hG ⟨_,_,_,rfl⟩ (fun A' n' c' e=>by injection e with e;simp only[eq,cO,dw,and_true,true_and]at e;obtain⟨rfl,rfl,rfl⟩:=e;exact⟨hR.mono (fun b hb _=>aZ (cJ HT6.out) hb),hPA⟩)
   rintro _ ⟨A,n,c,rfl⟩;simp only[aY,aX,aW,aV,aU];refine bJ _ _ (by rfl) rfl ⟨_,0,rfl⟩ (by simp) (fun w6 hU hp K hK=> ?_) ?_
   ·have h3:=(hp _ (.head _) (by kernel_rfl)) A n c rfl;have hz6:=(aB hU).size;clear hp hU;go_simp;exact hK _ _ (O w6 _) ⟨_,rfl⟩ (cE.one (an w6 _ _) hz6 (h3.1.keep (.of_ext (O w6 _)) (fun _ hb _=>hb)))
   rintro _ ⟨gb,rfl⟩;simp only[aY,aX,aW,aV,aU];repeat (refine sx ?_ (fun w1 hU=> ?_) ?_;rotate_left;(focus go_simp<;>with_reducible rfl);simp only[aY,aX,aW,aV,aU])
   intro w8 hw8 hp;have h4:=hp _ (.head _);have h3:=(hp _ (.tail _ (.head _)) A n c rfl).2;clear hp;simp only[ac,ap];have hG8:=am HG5.out (aB hw8);have hB8:=HB5.out.grown (aB hw8) (fun e=>hrg (Z e));have hrc:=hB8.cell;have hrf:=hB8.frozen;clear hw8;go_wp2_with fail;obtain⟨hset,hfin⟩:=ki (.mk 6 tx [] [] 0 [x]) 6 (ai tx) ⟨#[]⟩ ⟨#[]⟩ 0 (some ⟨gb,0,none⟩) 1 1 HR.out rfl rfl rfl rfl rfl rfl hB8 hG8 h3 hgl (h4.mono fun b hb _=>aZ hpr5 hb);simp only[World.setCells,aD,Nat.reduceAdd]at hset hfin;exact bodyPost_ret (v:= .agg #[.int .i64 6, .string (ai tx), .string ⟨#[]⟩, .string ⟨#[]⟩, .int .i64 0, .slice (some ⟨gb,0,none⟩) 1 1]) (by simp[results,results205,go_sem,hset]) rfl hfin
end
section
open Go.RowKit
theorem vB (f:Nat) (l:List bN) (en:Int) (w:World) (g:Nat) (h:PA w g l en) (hEx:eF f) (hf:4*l.length+1<=f+1) (hk3: ¬(ci l).k=3) (hk4: ¬(ci l).k=4) (hk1: ¬(ci l).k=1) (hmi:cP rX l=false) (hno:cP tP l=false) (hlp:cP mi l=false):Calls prog 205 #[.pointer (some ⟨g,0,none⟩)] w (oT g en w (cL (f+1) l)):=by
 have HRP:=G (iu (f:=f) hk3 hk4 hk1 (by rw[hmi,hno];rfl));have HX0:=G (O w (.cells #[.int .i64 0, .string ⟨#[]⟩, .string ⟨#[]⟩, .string ⟨#[]⟩, .int .i64 0, .slice none 0 0] 70));have HB0:=G (an w 70 #[.int .i64 0, .string ⟨#[]⟩, .string ⟨#[]⟩, .string ⟨#[]⟩, .int .i64 0, .slice none 0 0]);have HN:=G (d_ g _ en _ (h.ext HX0.out));have HP:=G h;have hgl:=h.lt;clear h;have HR:=G (show cL (f+1) l= .error (l,3)from by rw[HRP.out];unfold bV;rw[hlp];rfl);clear HRP;generalize ci l=t at*;obtain⟨k,tx,v,fr⟩:=t;simp only at hk3 hk4 hk1 HN;have hb3:(k==3)=false:=beq_eq_false_iff_ne.2 hk3;have hb4:(k==4)=false:=beq_eq_false_iff_ne.2 hk4;have hb1:(k==1)=false:=beq_eq_false_iff_ne.2 hk1;go_enter func205,ntmps205;go_wp2_with (first|(go_at_call 146;refine HN.out.mono ?_;rintro e w1 ⟨rfl,hE⟩;have hpt:w.heap.size<w1.heap.size:=(by have:=HB0.out.lt;have:=cJ hE;omega);have HX1:=G (hE.alloc' (.cells #[.int .i64 k, .string (ai tx), .int .i64 v, .int .i64 fr] 206));have HB1:=G (HB0.out.ext HX1.out);have HT1:=G (an w1 206 #[.int .i64 k, .string (ai tx), .int .i64 v, .int .i64 fr]);have hrc:=HB1.out.cell;have hrf:=HB1.out.frozen;have hrg:w.heap.size≠g:=(by omega);have hgr:g≠w.heap.size:=(by omega);clear hE HN;have HP1:=G ((HP.out.ext HX0.out).ext HX1.out))|(go_at_call 145;refine(gk g _ en rX _ HP1.out).mono ?_;rw[hmi];rintro e w2 ⟨rfl,hE⟩;have HX2:=G (HX1.out.trans hE);have HP2:=G (HP1.out.ext hE);have HB2:=G (HB1.out.ext hE);have HT2:=G (HT1.out.ext hE);clear hrc hrf;have hrc:=HB2.out.cell;have hrf:=HB2.out.frozen;clear HP1)|(go_at_call 145;refine(gk g _ en tP _ HP2.out).mono ?_;rw[hno];rintro e w3 ⟨rfl,hE⟩;have HX3:=G (HX2.out.trans hE);have HP3:=G (HP2.out.ext hE);have HB3:=G (HB2.out.ext hE);have HT3:=G (HT2.out.ext hE);clear hrc hrf;have hrc:=HB3.out.cell;have hrf:=HB3.out.frozen;clear HP2)|(go_at_call 100;refine(fT g _ en mi _ HP3.out hlp).mono ?_;unfold a6;rintro e w4 ⟨rfl,hG⟩;have HG4:=G (am ((HX0.out.trans HX3.out).grownBy _) hG);clear hG));exact⟨rfl,fY HR.out HG4.out⟩
theorem vy (f:Nat) (l:List bN) (en:Int) (w:World) (g:Nat) (h:PA w g l en) (hEx:eF f) (hf:4*l.length+1<=f+1) (hk3: ¬(ci l).k=3) (hk4: ¬(ci l).k=4) (hk1: ¬(ci l).k=1) (hmi:cP rX l=false) (hno:cP tP l=false) (hlp:cP mi l=true) (q:List bN) (n:Int) (hx:bQ f 1 l.tail= .error (q,n)):Calls prog 205 #[.pointer (some ⟨g,0,none⟩)] w (oT g en w (cL (f+1) l)):=by
 have HRP:=G (iu (f:=f) hk3 hk4 hk1 (by rw[hmi,hno];rfl));have HX0:=G (O w (.cells #[.int .i64 0, .string ⟨#[]⟩, .string ⟨#[]⟩, .string ⟨#[]⟩, .int .i64 0, .slice none 0 0] 70));have HB0:=G (an w 70 #[.int .i64 0, .string ⟨#[]⟩, .string ⟨#[]⟩, .string ⟨#[]⟩, .int .i64 0, .slice none 0 0]);have HN:=G (d_ g _ en _ (h.ext HX0.out));have HP:=G h;have hgl:=h.lt;clear h;have HR1:=G (show cL (f+1) l=(bQ f 1 l.tail).then fun x r=>(bV kA r).then fun _ r=> .ok (x,r)from by rw[HRP.out];unfold bV;rw[hlp];rfl);have hf':4*l.tail.length+2<=f:=by have:=bq hlp;omega
 clear HRP;have HR:=G (show cL (f+1) l= .error (q,n)from by rw[HR1.out,hx];rfl);clear HR1;generalize ci l=t at*;obtain⟨k,tx,v,fr⟩:=t;simp only at hk3 hk4 hk1 HN;have hb3:(k==3)=false:=beq_eq_false_iff_ne.2 hk3;have hb4:(k==4)=false:=beq_eq_false_iff_ne.2 hk4;have hb1:(k==1)=false:=beq_eq_false_iff_ne.2 hk1;go_enter func205,ntmps205;go_wp2_with (first|(go_at_call 146;refine HN.out.mono ?_;rintro e w1 ⟨rfl,hE⟩;have hpt:w.heap.size<w1.heap.size:=(by have:=HB0.out.lt;have:=cJ hE;omega);have HX1:=G (hE.alloc' (.cells #[.int .i64 k, .string (ai tx), .int .i64 v, .int .i64 fr] 206));have HB1:=G (HB0.out.ext HX1.out);have HT1:=G (an w1 206 #[.int .i64 k, .string (ai tx), .int .i64 v, .int .i64 fr]);have hrc:=HB1.out.cell;have hrf:=HB1.out.frozen;have hrg:w.heap.size≠g:=(by omega);have hgr:g≠w.heap.size:=(by omega);clear hE HN;have HP1:=G ((HP.out.ext HX0.out).ext HX1.out))|(go_at_call 145;refine(gk g _ en rX _ HP1.out).mono ?_;rw[hmi];rintro e w2 ⟨rfl,hE⟩;have HX2:=G (HX1.out.trans hE);have HP2:=G (HP1.out.ext hE);have HB2:=G (HB1.out.ext hE);have HT2:=G (HT1.out.ext hE);clear hrc hrf;have hrc:=HB2.out.cell;have hrf:=HB2.out.frozen;clear HP1)|(go_at_call 145;refine(gk g _ en tP _ HP2.out).mono ?_;rw[hno];rintro e w3 ⟨rfl,hE⟩;have HX3:=G (HX2.out.trans hE);have HP3:=G (HP2.out.ext hE);have HB3:=G (HB2.out.ext hE);have HT3:=G (HT2.out.ext hE);clear hrc hrf;have hrc:=HB3.out.cell;have hrf:=HB3.out.frozen;clear HP2)|(go_at_call 100;refine(d8 g _ en mi _ HP3.out hlp).mono ?_;rintro e w4 ⟨rfl,h1,h2⟩;have HP4:=G h1;have HG4:=G (am ((HX0.out.trans HX3.out).grownBy _) h2);have HB4:=G (HB3.out.grown h2 (fun e=>hrg (Z e)));clear h1 h2 HP3)|(go_at_call 183;refine(hEx 1 _ en _ g HP4.out (by decide) (by decide) hf').mono ?_;intro e w5 hh;rw[hx]at hh;obtain⟨hG,rfl⟩:=hh;unfold a6;have HG5:=G (am HG4.out hG);clear hG));exact⟨rfl,fY HR.out HG5.out⟩
theorem vA (f:Nat) (l:List bN) (en:Int) (w:World) (g:Nat) (h:PA w g l en) (hEx:eF f) (hf:4*l.length+1<=f+1) (hk3: ¬(ci l).k=3) (hk4: ¬(ci l).k=4) (hk1: ¬(ci l).k=1) (hmi:cP rX l=false) (hno:cP tP l=false) (hlp:cP mi l=true) (x:Ex) (q:List bN) (hx:bQ f 1 l.tail= .ok (x,q)) (hrp:cP kA q=false):Calls prog 205 #[.pointer (some ⟨g,0,none⟩)] w (oT g en w (cL (f+1) l)):=by
 have HRP:=G (iu (f:=f) hk3 hk4 hk1 (by rw[hmi,hno];rfl));have HX0:=G (O w (.cells #[.int .i64 0, .string ⟨#[]⟩, .string ⟨#[]⟩, .string ⟨#[]⟩, .int .i64 0, .slice none 0 0] 70));have HB0:=G (an w 70 #[.int .i64 0, .string ⟨#[]⟩, .string ⟨#[]⟩, .string ⟨#[]⟩, .int .i64 0, .slice none 0 0]);have HN:=G (d_ g _ en _ (h.ext HX0.out));have HP:=G h;have hgl:=h.lt;clear h;have HR1:=G (show cL (f+1) l=(bQ f 1 l.tail).then fun x r=>(bV kA r).then fun _ r=> .ok (x,r)from by rw[HRP.out];unfold bV;rw[hlp];rfl);have hf':4*l.tail.length+2<=f:=by have:=bq hlp;omega
 clear HRP;have HR:=G (show cL (f+1) l= .error (q,3)from by rw[HR1.out,hx];show(bV kA q).then (fun _ r=>(Except.ok (x,r):PR Ex))=_;unfold bV;rw[hrp];rfl);clear HR1;generalize ci l=t at*;obtain⟨k,tx,v,fr⟩:=t;simp only at hk3 hk4 hk1 HN;have hb3:(k==3)=false:=beq_eq_false_iff_ne.2 hk3;have hb4:(k==4)=false:=beq_eq_false_iff_ne.2 hk4;have hb1:(k==1)=false:=beq_eq_false_iff_ne.2 hk1;go_enter func205,ntmps205;go_wp2_with (first|(go_at_call 146;refine HN.out.mono ?_;rintro e w1 ⟨rfl,hE⟩;have hpt:w.heap.size<w1.heap.size:=(by have:=HB0.out.lt;have:=cJ hE;omega);have HX1:=G (hE.alloc' (.cells #[.int .i64 k, .string (ai tx), .int .i64 v, .int .i64 fr] 206));have HB1:=G (HB0.out.ext HX1.out);have HT1:=G (an w1 206 #[.int .i64 k, .string (ai tx), .int .i64 v, .int .i64 fr]);have hrc:=HB1.out.cell;have hrf:=HB1.out.frozen;have hrg:w.heap.size≠g:=(by omega);have hgr:g≠w.heap.size:=(by omega);clear hE HN;have HP1:=G ((HP.out.ext HX0.out).ext HX1.out))|(go_at_call 145;refine(gk g _ en rX _ HP1.out).mono ?_;rw[hmi];rintro e w2 ⟨rfl,hE⟩;have HX2:=G (HX1.out.trans hE);have HP2:=G (HP1.out.ext hE);have HB2:=G (HB1.out.ext hE);have HT2:=G (HT1.out.ext hE);clear hrc hrf;have hrc:=HB2.out.cell;have hrf:=HB2.out.frozen;clear HP1)|(go_at_call 145;refine(gk g _ en tP _ HP2.out).mono ?_;rw[hno];rintro e w3 ⟨rfl,hE⟩;have HX3:=G (HX2.out.trans hE);have HP3:=G (HP2.out.ext hE);have HB3:=G (HB2.out.ext hE);have HT3:=G (HT2.out.ext hE);clear hrc hrf;have hrc:=HB3.out.cell;have hrf:=HB3.out.frozen;clear HP2)|(go_at_call 100;refine(d8 g _ en mi _ HP3.out hlp).mono ?_;rintro e w4 ⟨rfl,h1,h2⟩;have HP4:=G h1;have HG4:=G (am ((HX0.out.trans HX3.out).grownBy _) h2);have HB4:=G (HB3.out.grown h2 (fun e=>hrg (Z e)));clear h1 h2 HP3)|(go_at_call 183;refine(hEx 1 _ en _ g HP4.out (by decide) (by decide) hf').mono ?_;intro e w5 hh;rw[hx]at hh;obtain⟨hG,A,n,c,rfl,hR,hPA⟩:=hh;have HG5:=G (dx (am HG4.out hG) ((O w5 (.cells #[.int .i64 x.k, .string (ai x.op), .string (ai x.nm), .string (ai x.tx), .int .i64 x.v, .slice A n c] 70)).grownBy (some w.heap.size)) (ah _));have HB5:=G ((HB4.out.grown hG (fun e=>hrg (Z e))).alloc (.cells #[.int .i64 x.k, .string (ai x.op), .string (ai x.nm), .string (ai x.tx), .int .i64 x.v, .slice A n c] 70));have HV5:=G (an w5 70 #[.int .i64 x.k, .string (ai x.op), .string (ai x.nm), .string (ai x.tx), .int .i64 x.v, .slice A n c]);have HP5:=G (hPA.ext (O w5 (.cells #[.int .i64 x.k, .string (ai x.op), .string (ai x.nm), .string (ai x.tx), .int .i64 x.v, .slice A n c] 70)));have hz4:w.heap.size+1<=w4.heap.size:=HB4.out.lt;have HRD5:=G (hR.keep (.of_ext (O w5 (.cells #[.int .i64 x.k, .string (ai x.op), .string (ai x.nm), .string (ai x.tx), .int .i64 x.v, .slice A n c] 70))) (fun b hb _=>aZ hz4 hb));have hv5:w5.heap.size≠g:=(by have:=hPA.lt;omega);clear hG hR hPA HP4)|(go_at_call 100;refine(fT g _ en kA _ HP5.out hrp).mono ?_;unfold a6;rintro e w6 ⟨rfl,hG⟩;have HG6:=G (am HG5.out hG);clear hG));exact⟨rfl,fY HR.out HG6.out⟩
theorem xu (f:Nat) (l:List bN) (en:Int) (w:World) (g:Nat) (h:PA w g l en) (hEx:eF f) (hf:4*l.length+1<=f+1) (hk3: ¬(ci l).k=3) (hk4: ¬(ci l).k=4) (hk1: ¬(ci l).k=1) (hmi:cP rX l=false) (hno:cP tP l=false) (hlp:cP mi l=true) (x:Ex) (q:List bN) (hx:bQ f 1 l.tail= .ok (x,q)) (hrp:cP kA q=true):Calls prog 205 #[.pointer (some ⟨g,0,none⟩)] w (oT g en w (cL (f+1) l)):=by
 have HRP:=G (iu (f:=f) hk3 hk4 hk1 (by rw[hmi,hno];rfl));have HX0:=G (O w (.cells #[.int .i64 0, .string ⟨#[]⟩, .string ⟨#[]⟩, .string ⟨#[]⟩, .int .i64 0, .slice none 0 0] 70));have HB0:=G (an w 70 #[.int .i64 0, .string ⟨#[]⟩, .string ⟨#[]⟩, .string ⟨#[]⟩, .int .i64 0, .slice none 0 0]);have HN:=G (d_ g _ en _ (h.ext HX0.out));have HP:=G h;have hgl:=h.lt;clear h;have HR1:=G (show cL (f+1) l=(bQ f 1 l.tail).then fun x r=>(bV kA r).then fun _ r=> .ok (x,r)from by rw[HRP.out];unfold bV;rw[hlp];rfl);have hf':4*l.tail.length+2<=f:=by have:=bq hlp;omega
 clear HRP;have HR:=G (show cL (f+1) l= .ok (x,q.tail)from by rw[HR1.out,hx];show(bV kA q).then (fun _ r=>(Except.ok (x,r):PR Ex))=_;unfold bV;rw[hrp];rfl);clear HR1;generalize ci l=t at*;obtain⟨k,tx,v,fr⟩:=t;simp only at hk3 hk4 hk1 HN;have hb3:(k==3)=false:=beq_eq_false_iff_ne.2 hk3;have hb4:(k==4)=false:=beq_eq_false_iff_ne.2 hk4;have hb1:(k==1)=false:=beq_eq_false_iff_ne.2 hk1;go_enter func205,ntmps205;go_wp2_with (first|(go_at_call 146;refine HN.out.mono ?_;rintro e w1 ⟨rfl,hE⟩;have hpt:w.heap.size<w1.heap.size:=(by have:=HB0.out.lt;have:=cJ hE;omega);have HX1:=G (hE.alloc' (.cells #[.int .i64 k, .string (ai tx), .int .i64 v, .int .i64 fr] 206));have HB1:=G (HB0.out.ext HX1.out);have HT1:=G (an w1 206 #[.int .i64 k, .string (ai tx), .int .i64 v, .int .i64 fr]);have hrc:=HB1.out.cell;have hrf:=HB1.out.frozen;have hrg:w.heap.size≠g:=(by omega);have hgr:g≠w.heap.size:=(by omega);clear hE HN;have HP1:=G ((HP.out.ext HX0.out).ext HX1.out))|(go_at_call 145;refine(gk g _ en rX _ HP1.out).mono ?_;rw[hmi];rintro e w2 ⟨rfl,hE⟩;have HX2:=G (HX1.out.trans hE);have HP2:=G (HP1.out.ext hE);have HB2:=G (HB1.out.ext hE);have HT2:=G (HT1.out.ext hE);clear hrc hrf;have hrc:=HB2.out.cell;have hrf:=HB2.out.frozen;clear HP1)|(go_at_call 145;refine(gk g _ en tP _ HP2.out).mono ?_;rw[hno];rintro e w3 ⟨rfl,hE⟩;have HX3:=G (HX2.out.trans hE);have HP3:=G (HP2.out.ext hE);have HB3:=G (HB2.out.ext hE);have HT3:=G (HT2.out.ext hE);clear hrc hrf;have hrc:=HB3.out.cell;have hrf:=HB3.out.frozen;clear HP2)|(go_at_call 100;refine(d8 g _ en mi _ HP3.out hlp).mono ?_;rintro e w4 ⟨rfl,h1,h2⟩;have HP4:=G h1;have HG4:=G (am ((HX0.out.trans HX3.out).grownBy _) h2);have HB4:=G (HB3.out.grown h2 (fun e=>hrg (Z e)));clear h1 h2 HP3)|(go_at_call 183;refine(hEx 1 _ en _ g HP4.out (by decide) (by decide) hf').mono ?_;intro e w5 hh;rw[hx]at hh;obtain⟨hG,A,n,c,rfl,hR,hPA⟩:=hh;have HG5:=G (dx (am HG4.out hG) ((O w5 (.cells #[.int .i64 x.k, .string (ai x.op), .string (ai x.nm), .string (ai x.tx), .int .i64 x.v, .slice A n c] 70)).grownBy (some w.heap.size)) (ah _));have HB5:=G ((HB4.out.grown hG (fun e=>hrg (Z e))).alloc (.cells #[.int .i64 x.k, .string (ai x.op), .string (ai x.nm), .string (ai x.tx), .int .i64 x.v, .slice A n c] 70));have HV5:=G (an w5 70 #[.int .i64 x.k, .string (ai x.op), .string (ai x.nm), .string (ai x.tx), .int .i64 x.v, .slice A n c]);have HP5:=G (hPA.ext (O w5 (.cells #[.int .i64 x.k, .string (ai x.op), .string (ai x.nm), .string (ai x.tx), .int .i64 x.v, .slice A n c] 70)));have hz4:w.heap.size+1<=w4.heap.size:=HB4.out.lt;have HRD5:=G (hR.keep (.of_ext (O w5 (.cells #[.int .i64 x.k, .string (ai x.op), .string (ai x.nm), .string (ai x.tx), .int .i64 x.v, .slice A n c] 70))) (fun b hb _=>aZ hz4 hb));have hv5:w5.heap.size≠g:=(by have:=hPA.lt;omega);clear hG hR hPA HP4)|(go_at_call 100;refine(d8 g _ en kA _ HP5.out hrp).mono ?_;rintro e w6 ⟨rfl,h1,h2⟩;have HP6:=G h1;have HG6:=G (am HG5.out h2);have HB6:=G (HB5.out.grown h2 (fun e=>hrg (Z e)));have HV6:=G (HV5.out.grown h2 (fun e=>hv5 (Z e)));have HRD6:=G (HRD5.out.keep (.of_grown h2 fun b hb e=>by injection e with e;omega) (fun b hb _=>hb));clear hrc hrf;have hrc:=HB6.out.cell;have hrf:=HB6.out.frozen;have hvc:=HV6.out.cell;clear h1 h2 HP5));obtain⟨hset,hfin⟩:=ki (x) x.k (ai x.op) (ai x.nm) (ai x.tx) x.v A n c HR.out rfl rfl rfl rfl rfl rfl HB6.out HG6.out HP6.out hgl HRD6.out;simp only[World.setCells,aD,Nat.reduceAdd]at hset hfin;exact bodyPost_ret (v:= .agg #[.int .i64 x.k, .string (ai x.op), .string (ai x.nm), .string (ai x.tx), .int .i64 x.v, .slice A n c]) (by simp[results,results205,go_sem,hset]) rfl hfin
theorem vr (f:Nat) (hE:eF f) (hP:pM f) (hN:il f):pM (f+1):=by
 intro l en w g h hf;by_cases hk3:(ci l).k=3
 ·exact xm f l en w g h hk3
 by_cases hk4:(ci l).k=4
 ·exact xl f l en w g h hk4
 by_cases hk1:(ci l).k=1
 ·exact vu f l en w g h hN hf hk1
 cases hmi:cP rX l with
 |true=>exact sJ f l en w g h hP hf hk3 hk4 hk1 hmi
 |false=>
  cases hno:cP tP l with
  |true=>exact xn f l en w g h hP hf hk3 hk4 hk1 hmi hno
  |false=>
   cases hlp:cP mi l with
   |false=>exact vB f l en w g h hE hf hk3 hk4 hk1 hmi hno hlp
   |true=>
    cases hx:bQ f 1 l.tail with
    |error p=>exact vy f l en w g h hE hf hk3 hk4 hk1 hmi hno hlp p.1 p.2 hx
    |ok p=>
     cases hrp:cP kA p.2 with
     |false=>exact vA f l en w g h hE hf hk3 hk4 hk1 hmi hno hlp p.1 p.2 hx hrp
     |true=>exact xu f l en w g h hE hf hk3 hk4 hk1 hmi hno hlp p.1 p.2 hx hrp
end
section
open Go.RowKit
structure Fr (base g px:Nat) (w w':World):Prop where
 os:w'.os=w.os
 tape:w'.tape=w.tape
 output:w'.output=w.output
 size:w.heap.size<=w'.heap.size
 block: ∀k,k<base->k≠g->k≠px->w'.heap[k]? =w.heap[k]?
theorem Fr.trans {base g px:Nat} {a b c:World} (h:Fr base g px a b) (k:Fr base g px b c):Fr base g px a c:=
 ⟨k.os.trans h.os,k.tape.trans h.tape,k.output.trans h.output,aZ h.size k.size,fun i hi h1 h2=>(k.block i hi h1 h2).trans (h.block i hi h1 h2)⟩
theorem Fr.of_grown {base g px:Nat} {w w':World} {row:Option Nat} (h:w.grownBy w' row) (hb:base<=w.heap.size) (hr: ∀k,row=some k->k=g\/k=px\/base<=k):Fr base g px w w':=
 ⟨h.os,h.tape,h.output,h.size,fun k hk h1 h2=>h.block k (by omega) (fun e=>by rcases hr k e.symm with h|h|h<;>omega)⟩
theorem Fr.grown {base g px:Nat} {w0 w w':World} (h0:w0.grownBy w (some g)) (h:Fr base g px w w') (hp:w0.heap.size<=px) (hb:w0.heap.size<=base):w0.grownBy w' (some g):=
 ⟨h.os.trans h0.os,h.tape.trans h0.tape,h.output.trans h0.output,aZ h0.size h.size,fun k hk hn=>(h.block k (by omega) (fun e=>hn (by rw[e])) (by omega)).trans (h0.block k hk hn)⟩
theorem Fr.blk {base g px k:Nat} {t:TypeId} {cs:Array Value} {w w':World} (h:Fr base g px w w') (hB:aL w k t cs) (hk:k<base) (h1:k≠g) (h2:k≠px):aL w' k t cs:=(h.block k hk h1 h2).trans hB
theorem Ec:nf prog 68 70 6 88 (.agg #[.int .i64 0, .string ⟨#[]⟩, .string ⟨#[]⟩, .string ⟨#[]⟩, .int .i64 0, .slice none 0 0]):=⟨underlying68,by kernel_rfl,by rfl,by decide⟩
theorem tU {w:World} {base A n cap:Nat} {e:TypeId} {xs:List Value} {z0 z1 z2 z3 z4 z5:Value} (h:w.ownsRow base e 6 (.slice (some ⟨A,0,none⟩) (n+1) cap) (n+1) (xs++[z0,z1,z2,z3,z4,z5])) (hn:xs.length=n*6) (a b c d f i:Value):
  (w.setCells A (n*6) [a,b,c,d,f,i]).ownsRow base e 6 (.slice (some ⟨A,0,none⟩) (n+1) cap) (n+1) (xs++[a,b,c,d,f,i]):=by
 have st: ∀(zs:List Value) (j:Nat) (u:Value),(xs++zs).set (n*6+j) u=xs++zs.set j u:=fun zs j u=>by
  rw[List.set_append,if_neg (by omega)]
  congr 2
  omega
 have h0:=(h.stored (n*6+0) a).1;rw[st]at h0;have h1:=(h0.stored (n*6+1) b).1;rw[st]at h1;have h2:=(h1.stored (n*6+2) c).1;rw[st]at h2;have h3:=(h2.stored (n*6+3) d).1;rw[st]at h3;have h4:=(h3.stored (n*6+4) f).1;rw[st]at h4;have h5:=(h4.stored (n*6+5) i).1;rw[st]at h5;exact h5
theorem eC (w:World) (px i:Nat) (v:Value):w.grownBy (w.setCell ⟨px,i,none⟩ v) (some px):=dr px [v] i w
theorem Eh {w:World} {base A px n cap:Nat} {e t:TypeId} {xs:List Value} {z0 z1 z2 z3 z4 z5 y0 y1 y2 y3 y4 y5:Value} (h:w.ownsRow base e 6 (.slice (some ⟨A,0,none⟩) (n+1) cap) (n+1) (xs++[z0,z1,z2,z3,z4,z5])) (hn:xs.length=n*6) (hx:aL w px t #[y0,y1,y2,y3,y4,y5]) (hp:px≠A) (a b c d f i v:Value):
  ((w.setCells A (n*6) [a,b,c,d,f,i]).setCell ⟨px,5,none⟩ v).ownsRow base e 6 (.slice (some ⟨A,0,none⟩) (n+1) cap) (n+1) (xs++[a,b,c,d,f,i])/\aL ((w.setCells A (n*6) [a,b,c,d,f,i]).setCell ⟨px,5,none⟩ v) px t #[y0,y1,y2,y3,y4,v]/\Fr w.heap.size A px w ((w.setCells A (n*6) [a,b,c,d,f,i]).setCell ⟨px,5,none⟩ v):=by
 have hg:=dr A [a,b,c,d,f,i] (n*6) w;have hs:=eC (w.setCells A (n*6) [a,b,c,d,f,i]) px 5 v;refine⟨World.ownsRow.kept (tU h hn a b c d f i) hs (.inr fun e=> ?_),?_,(Fr.of_grown hg (ah _) (fun k e=> .inl (Z e).symm)).trans (Fr.of_grown hs hg.size (fun k e=> .inr (.inl (Z e).symm)))⟩
 ·have e:A=px:=Z e;exact hp e.symm
 ·have:=(hx.grown hg (fun e=>hp (Z e))).set 5 v;simpa using this
theorem Eg {w:World} {base A px n cap:Nat} {e t:TypeId} {xs:List Value} {z0 z1 z2 z3 z4 z5 y0 y1 y2 y3 y4 y5:Value} (h:w.ownsRow base e 6 (.slice (some ⟨A,0,none⟩) (n+1) cap) (n+1) (xs++[z0,z1,z2,z3,z4,z5])) (hn:xs.length=n*6) (hx:aL w px t #[y0,y1,y2,y3,y4,y5]) (hp:px≠A) (a b c d f i v:Value):
  ((w.setCell ⟨px,5,none⟩ v).setCells A (n*6) [a,b,c,d,f,i]).ownsRow base e 6 (.slice (some ⟨A,0,none⟩) (n+1) cap) (n+1) (xs++[a,b,c,d,f,i])/\aL ((w.setCell ⟨px,5,none⟩ v).setCells A (n*6) [a,b,c,d,f,i]) px t #[y0,y1,y2,y3,y4,v]/\Fr w.heap.size A px w ((w.setCell ⟨px,5,none⟩ v).setCells A (n*6) [a,b,c,d,f,i]):=by
 have hs:=eC w px 5 v;have hg:=dr A [a,b,c,d,f,i] (n*6) (w.setCell ⟨px,5,none⟩ v);refine⟨tU (World.ownsRow.kept h hs (.inr fun e=> ?_)) hn a b c d f i,?_,(Fr.of_grown hs (ah _) (fun k e=> .inr (.inl (Z e).symm))).trans (Fr.of_grown hg hs.size (fun k e=> .inl (Z e).symm))⟩
 ·have e:A=px:=Z e;exact hp e.symm
 ·have:=(hx.set 5 v).grown hg (fun e=>hp (Z e));simpa using this
theorem f_.snocK {w w':World} {base:Nat} {e:TypeId} {v:Value} {l:List (Ex×Value)} {x:Ex} {a:Value} {A n cap:Nat} (h:f_ w base e v l) (ha:cE w (fun b=>base<=b/\some b≠v.ownBlock) a x.args) (hl:l.length=n)
  (hn:w'.ownsRow base e 6 (.slice (some ⟨A,0,none⟩) (n+1) cap) (n+1) (fQ l++vN x a)) (hk:cC (fun b=>base<=b/\some b≠v.ownBlock) w w') (hA:some A=v.ownBlock\/A=w.heap.size):
  f_ w' base e (.slice (some ⟨A,0,none⟩) (n+1) cap) (l++[(x,a)]):=by
 subst hl;have hq: ∀b,(base<=b/\some b≠v.ownBlock)->b<w.heap.size->(base<=b/\some b≠Value.ownBlock (.slice (some ⟨A,0,none⟩) (l.length+1) cap)):=fun b hb hlt=>by
  refine⟨hb.1,fun e=> ?_⟩;have e:b=A:=Z e;rcases hA with hA|hA
  ·exact hb.2 (by rw[e,hA])
  ·omega
 refine⟨by rw[aa,pA];simpa[fQ]using hn,fun p hp=> ?_⟩;rcases List.mem_append.1 hp with hp|hp
 ·exact(h.2 p hp).keep hk hq
 ·rw[cG]at hp;subst hp;exact ha.keep hk hq
theorem Az {w w8 w9 W:World} {base g px A' n cap cap' m:Nat} {C A:Option Addr} {c:Nat} {nm:List UInt8} {acc:List (Ex×Value)} {x:Ex} {q:List bN} {en:Int} (hn:acc.length=n) (hbase:base<=w.heap.size) (hg:g<px) (hpx:px<base)
  (hG8:w.grownBy w8 (some g)) (hO8:f_ w8 base 70 (.slice C n cap) acc) (h3:cE w8 (fun b=>w.heap.size<=b) (.slice A m c) x.args) (h4:PA w8 g q en) (hO:f_ w base 70 (.slice C n cap) acc)
  (hq2:w8.grownBy w9 (Value.ownBlock (.slice C n cap))) (hq3:some A'=Value.ownBlock (.slice C n cap)\/A'=w8.heap.size)
  (hW:W.ownsRow base 70 6 (.slice (some ⟨A',0,none⟩) (n+1) cap') (n+1) (fQ acc++vN x (.slice A m c))) (hX:aL W px 70 #[.int .i64 5, .string ⟨#[]⟩, .string (ai nm), .string ⟨#[]⟩, .int .i64 0, .slice (some ⟨A',0,none⟩) (n+1) cap'])
  (hF:Fr w9.heap.size A' px w9 W):
  Fr base g px w W/\PA W g q en/\ ∃C' cap' a,aL W px 70 #[.int .i64 5, .string ⟨#[]⟩, .string (ai nm), .string ⟨#[]⟩, .int .i64 0, .slice C' (n+1) cap']/\f_ W base 70 (.slice C' (n+1) cap') (acc++[(x,a)]):=by
 have hr: ∀k,Value.ownBlock (.slice C n cap)=some k->base<=k/\k<w.heap.size:=fun k hk=>World.ownsRow.lt hO.1 k hk;have hA8:base<=A':=by
  have:=hG8.size;rcases hq3 with h|h
  ·exact(hr A' h.symm).1
  ·omega
 have hz8:=hG8.size;have hz9:=hq2.size;have hF9:Fr base g px w w9:=(Fr.of_grown hG8 hbase (fun k e=>by injection e with e;omega)).trans (Fr.of_grown hq2 (by omega) (fun k e=>by have:=hr k e;omega));have hFW:Fr base g px w W:=⟨hF.os.trans hF9.os,hF.tape.trans hF9.tape,hF.output.trans hF9.output,aZ hF9.size hF.size,fun k hk h1 h2=>(hF.block k (by omega) (by omega) h2).trans (hF9.block k hk h1 h2)⟩
 have hP9:=h4.grown hq2 (fun k e=>by have:=hr k e;omega);refine⟨hFW,?_,_,cap',_,hX,hO8.snocK (h3.mono fun b hb _=>⟨by omega,fun e=>by have:=hr b e.symm;omega⟩) hn hW ⟨by have:=hF.size;omega,fun b hP hb=> ?_⟩ hq3⟩
 ·obtain⟨A1,c1,hb,ht,hn1⟩:=hP9;have hbg: ∀k,k<=g->k<w9.heap.size->W.heap[k]? =w9.heap[k]? :=fun k hk hk'=>hF.block k hk' (by omega) (by omega);refine⟨A1,c1,(hbg g (ah _) hb.lt).trans hb,⟨ht.le,ht.max,?_⟩,hn1⟩;by_cases hl:q=[]
  ·exact .inl hl
  rcases ht.rd with h0|⟨b,off,ha,hlt,hc⟩
  ·exact absurd h0 hl
  ·have hbk:=hbg b (by have:=hn1 b off ha hl;omega) hlt;have cc: ∀o,W.cell? ⟨b,o,none⟩=w9.cell? ⟨b,o,none⟩:=fun o=>World.cell?_of_block (w:=w9) (a:=⟨b,o,none⟩) hbk;exact .inr ⟨b,off,ha,by have:=hF.size;omega,fun i hi=>let⟨q0,q1,q2,q3⟩:=hc i hi;⟨(cc _).trans q0,(cc _).trans q1,(cc _).trans q2,(cc _).trans q3⟩⟩
 ·refine(hF.block b (by omega) (fun e=> ?_) (by omega)).trans (hq2.block b hb hP.2);rcases hq3 with h|h
  ·exact hP.2 (by rw[e,h])
  ·omega
theorem Ch (f:Nat) (hEx:eF f) (base g px pb:Nat) (nm:List UInt8) (l:List bN) (en:Int) (w:World) (acc:List (Ex×Value)) (C:Option Addr) (n cap:Nat)
  (hP:PA w g l en) (hb:aL w pb 153 #[.pointer (some ⟨g,0,none⟩)]) (hx:aL w px 70 #[.int .i64 5, .string ⟨#[]⟩, .string (ai nm), .string ⟨#[]⟩, .int .i64 0, .slice C n cap])
  (hO:f_ w base 70 (.slice C n cap) acc) (hn:acc.length=n) (hbase:base<=w.heap.size) (hg:g<px) (hgp:g<pb) (hpp:pb≠px) (hpx:px<base) (hpb:pb<base) (hf:4*l.length+2<=f) (hnb:n<=100000)
  (x:Ex) (q:List bN) (he:bQ f 1 l= .ok (x,q)):
  Calls prog 223 #[.pointer (some ⟨px,0,none⟩), .pointer (some ⟨pb,0,none⟩)] w fun e w'=>e= .returned (.tuple #[])/\Fr base g px w w'/\PA w' g q en/\
   ∃C' cap' a,aL w' px 70 #[.int .i64 5, .string ⟨#[]⟩, .string (ai nm), .string ⟨#[]⟩, .int .i64 0, .slice C' (n+1) cap']/\f_ w' base 70 (.slice C' (n+1) cap') (acc++[(x,a)]):=by
 have HP:=G hP;have HB:=G hb;have HX:=G hx;have HO:=G hO;have hgw:g<w.heap.size:=hP.lt;have hxg:px≠g:=by omega
 have hbg:pb≠g:=by omega
 clear hP hb hx hO;go_enter func223,ntmps223
 refine jH 6 0 [(3,fun v=> ∃A n c,v= .agg #[.int .i64 x.k, .string (ai x.op), .string (ai x.nm), .string (ai x.tx), .int .i64 x.v, .slice A n c],fun v wx=> ∀A n c,v= .agg #[.int .i64 x.k, .string (ai x.op), .string (ai x.nm), .string (ai x.tx), .int .i64 x.v, .slice A n c]->cE wx (fun b=>w.heap.size<=b) (.slice A n c) x.args/\PA wx g q en),
   (5,fun v=> ∃gb,v= .slice (some ⟨gb,0,none⟩) 1 1,fun v wx=> ∀gb,v= .slice (some ⟨gb,0,none⟩) 1 1->w.heap.size<=gb/\aL wx gb 70 #[.int .i64 0, .string ⟨#[]⟩, .string ⟨#[]⟩, .string ⟨#[]⟩, .int .i64 0, .slice none 0 0])] 3 (some g) mixed (by kernel_rfl)
  ⟨fun _ _ _ h hx A n c e=>⟨(h A n c e).1.keep (.of_ext hx) (fun _ hb _=>hb),(h A n c e).2.ext hx⟩,fun _ _ _ h hx gb e=>⟨(h gb e).1,(h gb e).2.ext hx⟩,trivial⟩
  ⟨.inl rfl, .inr fun _ _ _ h hx gb e=>⟨(h gb e).1,(h gb e).2.grown hx (fun e'=>by have:=(h gb e).1;injection e' with e';omega)⟩,trivial⟩ ?_
 repeat (refine sx ?_ (fun w1 hU=> ?_) ?_;rotate_left;(focus have f1:=(HX.out.grown (aB hU) (fun e=>hxg (Z e))).cell;have f2:=(HB.out.grown (aB hU) (fun e=>hbg (Z e))).cell;clear hU;go_simp<;>with_reducible rfl);simp only[aY,aX,aW,aV,aU])
 refine bH _ _ (by rfl) rfl ⟨_,none,0,0,rfl⟩ rfl (fun w6 hT hp K hK=> ?_) ?_
 ·clear hp;have hc:=hEx 1 l en w6 g (HP.out.ext hT.un) (by decide) (by decide) hf;have HT6:=G hT.un;clear hT;go_simp;refine hc.mono ?_;intro e w7 hh;rw[he]at hh;obtain⟨hG,A,n,c,rfl,hR,hPA⟩:=hh;exact hK _ _ hG ⟨_,_,_,rfl⟩ (fun A' n' c' e=>by injection e with e;simp only[eq,cO,dw,and_true,true_and]at e;obtain⟨rfl,rfl,rfl⟩:=e;exact⟨hR.mono (fun b hb _=>aZ (cJ HT6.out) hb),hPA⟩)
 rintro _ ⟨A,m,c,rfl⟩;simp only[aY,aX,aW,aV,aU];repeat (refine sx ?_ (fun w1 hU=> ?_) ?_;rotate_left;(focus have f1:=(HX.out.grown (aB hU) (fun e=>hxg (Z e))).cell;have f2:=(HB.out.grown (aB hU) (fun e=>hbg (Z e))).cell;clear hU;go_simp<;>with_reducible rfl);simp only[aY,aX,aW,aV,aU])
 refine bJ _ _ (by rfl) rfl ⟨_,0,rfl⟩ (by simp) (fun w6 hU hp K hK=> ?_) ?_
 ·have hz6:=(aB hU).size;clear hp hU;go_simp;exact hK _ _ (O w6 _) ⟨_,rfl⟩ (fun gb e=>by injection e with e;injection e with e;injection e with e;subst e;exact⟨hz6,an w6 _ _⟩)
 rintro _ ⟨gb,rfl⟩;simp only[aY,aX,aW,aV,aU];intro w8 hw8 hp;obtain⟨hz5,h5⟩:=hp _ (.head _) gb rfl;obtain⟨h3,h4⟩:=hp _ (.tail _ (.head _)) A m c rfl;clear hp;have hG8:=aB hw8;have hx8:=HX.out.grown hG8 (fun e=>hxg (Z e));have hO8:=HO.out.grown hG8 (fun k e=>by injection e with e;omega);have hz8:=hG8.size;refine bg [6] (by kernel_rfl) (by simp) (fun i hi=> ?_);obtain rfl:i=6:=by simpa using hi
 refine aS rfl (by rfl) ?_;refine y' Ec _ _ rfl base _ n (fQ acc) rfl (by rw[<-hn];exact hn▸hO8.1) gb [.int .i64 0, .string ⟨#[]⟩, .string ⟨#[]⟩, .string ⟨#[]⟩, .int .i64 0, .slice none 0 0] rfl h5 rfl (by decide) (by omega) (by decide) (by omega) ?_;intro A' cap' w9 hq1 hq2 hq3;have hni:(n:Int)<(n:Int)+1:=by omega
 have hle:(fQ acc).length=n*6:=by rw[lX,hn]
 have hc9: ∀i,i<6->w9.cell? ⟨A',n*6+i,none⟩=([.int .i64 0, .string ⟨#[]⟩, .string ⟨#[]⟩, .string ⟨#[]⟩, .int .i64 0, .slice none 0 0]:List Value)[i]? :=fun i hi=>by
  rw[hq1.cellAt (n*6+i) (by omega),cI (by omega)]
  congr 1
  omega
 have e0:=hc9 0 (by omega);have e1:=hc9 1 (by omega);have e2:=hc9 2 (by omega);have e3:=hc9 3 (by omega);have e4:=hc9 4 (by omega);have e5:=hc9 5 (by omega);have g0:=hq1.frozenAt (n*6);have g1:=hq1.frozenAt (n*6+1);have g2:=hq1.frozenAt (n*6+2);have g3:=hq1.frozenAt (n*6+3);have g4:=hq1.frozenAt (n*6+4);have g5:=hq1.frozenAt (n*6+5);rw[br]at e0;have hrow: ∀k,Value.ownBlock (.slice C n cap)=some k->base<=k/\k<w.heap.size:=fun k hk=>World.ownsRow.lt HO.out.1 k hk;have hAb:base<=A':=by
  rcases hq3 with h|h
  ·exact(hrow A' h.symm).1
  ·omega
 have hx9:=hx8.grown hq2 (fun e=>by have:=hrow px e.symm;omega);have hpxc:=hx9.cell;have hpxf:=hx9.frozen;have hAp:A'≠px:=by omega
 have hpA:px≠A':=by omega
 have hz9:=hq2.size;have CF:=G (fun W cap'=>Az (W:=W) (cap':=cap') (nm:=nm) hn hbase hg hpx hG8 hO8 h3 h4 HO.out hq2 hq3);have PA':=G (Eh hq1 hle hx9 hpA (.int .i64 x.k) (.string (ai x.op)) (.string (ai x.nm)) (.string (ai x.tx)) (.int .i64 x.v) (.slice A m c) (.slice (some ⟨A',0,none⟩) (n+1) cap'));have PB':=G (Eg hq1 hle hx9 hpA (.int .i64 x.k) (.string (ai x.op)) (.string (ai x.nm)) (.string (ai x.tx)) (.int .i64 x.v) (.slice A m c) (.slice (some ⟨A',0,none⟩) (n+1) cap'));clear hc9 hx9 hrow;refine bg [7,9] (by kernel_rfl) (by simp) (fun i hi=> ?_);have hi:i=7\/i=9:=by simpa using hi
 rcases hi with rfl|rfl
 ·refine aS rfl (by rfl) ?_;go_simp;try simp only[aY,aX,aW,aV,aU]
  refine bg [8,9] (by kernel_rfl) (by simp) (fun i hi=> ?_);have hi:i=8\/i=9:=by simpa using hi
  rcases hi with rfl|rfl
  ·refine aS rfl (by rfl) ?_;go_simp;try simp only[aY,aX,aW,aV,aU]
   refine bg [9] (by kernel_rfl) (by simp) (fun i hi=> ?_);obtain rfl:i=9:=by simpa using hi
   refine aS rfl (by rfl) ?_;go_simp;try simp only[aY,aX,aW,aV,aU]
   refine bg [10] (by kernel_rfl) (by simp) (fun i hi=> ?_);obtain rfl:i=10:=by simpa using hi
   refine aS rfl (by rfl) ?_;go_simp;try simp only[aY,aX,aW,aV,aU]
   refine je (by kernel_rfl) ?_;obtain⟨q1,q2,q3⟩:=PA'.out;have fin:=CF.out _ _ q1 q2 q3;simp only[World.setCells,eb,Nat.reduceAdd]at fin
   go_end0
   obtain⟨f1,f2,C',c',a,f3,f4⟩:=fin;first|exact⟨rfl,f1,f2,C',c',a,f3,f4⟩|exact⟨rfl,f1,f2,C',c',f3,a,f4⟩
  ·refine aS rfl (by rfl) ?_;go_simp;try simp only[aY,aX,aW,aV,aU]
   refine bg [8,10] (by kernel_rfl) (by simp) (fun i hi=> ?_);have hi:i=8\/i=10:=by simpa using hi
   rcases hi with rfl|rfl
   ·refine aS rfl (by rfl) ?_;go_simp;try simp only[aY,aX,aW,aV,aU]
    refine bg [10] (by kernel_rfl) (by simp) (fun i hi=> ?_);obtain rfl:i=10:=by simpa using hi
    refine aS rfl (by rfl) ?_;go_simp;try simp only[aY,aX,aW,aV,aU]
    refine je (by kernel_rfl) ?_;obtain⟨q1,q2,q3⟩:=PA'.out;have fin:=CF.out _ _ q1 q2 q3;simp only[World.setCells,eb,Nat.reduceAdd]at fin
    go_end0
    obtain⟨f1,f2,C',c',a,f3,f4⟩:=fin;first|exact⟨rfl,f1,f2,C',c',a,f3,f4⟩|exact⟨rfl,f1,f2,C',c',f3,a,f4⟩
   ·refine aS rfl (by rfl) ?_;go_simp;try simp only[aY,aX,aW,aV,aU]
    refine bg [8] (by kernel_rfl) (by simp) (fun i hi=> ?_);obtain rfl:i=8:=by simpa using hi
    refine aS rfl (by rfl) ?_;go_simp;try simp only[aY,aX,aW,aV,aU]
    refine je (by kernel_rfl) ?_;obtain⟨q1,q2,q3⟩:=PB'.out;have fin:=CF.out _ _ q1 q2 q3;simp only[World.setCells,eb,Nat.reduceAdd]at fin
    go_end0
    obtain⟨f1,f2,C',c',a,f3,f4⟩:=fin;first|exact⟨rfl,f1,f2,C',c',a,f3,f4⟩|exact⟨rfl,f1,f2,C',c',f3,a,f4⟩
 ·refine aS rfl (by rfl) ?_;go_simp;try simp only[aY,aX,aW,aV,aU]
  refine bg [7,10] (by kernel_rfl) (by simp) (fun i hi=> ?_);have hi:i=7\/i=10:=by simpa using hi
  rcases hi with rfl|rfl
  ·refine aS rfl (by rfl) ?_;go_simp;try simp only[aY,aX,aW,aV,aU]
   refine bg [8,10] (by kernel_rfl) (by simp) (fun i hi=> ?_);have hi:i=8\/i=10:=by simpa using hi
   rcases hi with rfl|rfl
   ·refine aS rfl (by rfl) ?_;go_simp;try simp only[aY,aX,aW,aV,aU]
    refine bg [10] (by kernel_rfl) (by simp) (fun i hi=> ?_);obtain rfl:i=10:=by simpa using hi
    refine aS rfl (by rfl) ?_;go_simp;try simp only[aY,aX,aW,aV,aU]
    refine je (by kernel_rfl) ?_;obtain⟨q1,q2,q3⟩:=PA'.out;have fin:=CF.out _ _ q1 q2 q3;simp only[World.setCells,eb,Nat.reduceAdd]at fin
    go_end0
    obtain⟨f1,f2,C',c',a,f3,f4⟩:=fin;first|exact⟨rfl,f1,f2,C',c',a,f3,f4⟩|exact⟨rfl,f1,f2,C',c',f3,a,f4⟩
   ·refine aS rfl (by rfl) ?_;go_simp;try simp only[aY,aX,aW,aV,aU]
    refine bg [8] (by kernel_rfl) (by simp) (fun i hi=> ?_);obtain rfl:i=8:=by simpa using hi
    refine aS rfl (by rfl) ?_;go_simp;try simp only[aY,aX,aW,aV,aU]
    refine je (by kernel_rfl) ?_;obtain⟨q1,q2,q3⟩:=PB'.out;have fin:=CF.out _ _ q1 q2 q3;simp only[World.setCells,eb,Nat.reduceAdd]at fin
    go_end0
    obtain⟨f1,f2,C',c',a,f3,f4⟩:=fin;first|exact⟨rfl,f1,f2,C',c',a,f3,f4⟩|exact⟨rfl,f1,f2,C',c',f3,a,f4⟩
  ·refine aS rfl (by rfl) ?_;go_simp;try simp only[aY,aX,aW,aV,aU]
   refine bg [7] (by kernel_rfl) (by simp) (fun i hi=> ?_);obtain rfl:i=7:=by simpa using hi
   refine aS rfl (by rfl) ?_;go_simp;try simp only[aY,aX,aW,aV,aU]
   refine bg [8] (by kernel_rfl) (by simp) (fun i hi=> ?_);obtain rfl:i=8:=by simpa using hi
   refine aS rfl (by rfl) ?_;go_simp;try simp only[aY,aX,aW,aV,aU]
   refine je (by kernel_rfl) ?_;obtain⟨q1,q2,q3⟩:=PB'.out;have fin:=CF.out _ _ q1 q2 q3;simp only[World.setCells,eb,Nat.reduceAdd]at fin
   go_end0
   obtain⟨f1,f2,C',c',a,f3,f4⟩:=fin;first|exact⟨rfl,f1,f2,C',c',a,f3,f4⟩|exact⟨rfl,f1,f2,C',c',f3,a,f4⟩
def cM:=@Fr.of_grown
def jg:=@Fr.grown
def mg:=@cE.one
def pP:=@f_.nil_
end
end Go.Proofs.YtddomeddabfinaaGreatDoor
