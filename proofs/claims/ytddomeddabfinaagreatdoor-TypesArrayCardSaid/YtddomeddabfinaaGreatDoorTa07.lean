/-
  Parts of the proof: PlLexQ PlLexU ParH ParI SeqP ParJ ParK.
-/
import Derived.BigQuiet
import Derived.Test.YtddomeddabfinaaGreatDoorTa06
import Derived.Maps.AppendAt
import Derived.Test.YtddomeddabfinaaGreatDoorTa00
import Derived.Test.YtddomeddabfinaaGreatDoorTa01
import Derived.WalkLawsBesides
set_option maxRecDepth 100000
set_option maxHeartbeats 8000000
set_option linter.unusedVariables false
set_option linter.unusedSimpArgs false
set_option linter.defProp false
set_option linter.unusedSectionVars false
namespace Go.Proofs.YtddomeddabfinaaGreatDoor
open Go.Proofs.Tryz
section
open Go.RowKit
theorem iU: ∀(ts:List bK) (i:Nat) (h:i<ts.length) (k:Nat),k<4->(jY ts)[i*4+k]? =(fG ts[i])[k]?
 |t::ts,0,h,k,hk=>by
  show(fG t++jY ts)[0*4+k]? =(fG t)[k]?;rw[a_,aA,cU (by simpa[fG]using hk)]
 |t::ts,i+1,h,k,hk=>by
  have h':i<ts.length:=by simpa using h
  show(fG t++jY ts)[(i+1)*4+k]? =(fG ts[i])[k]?;rw[cC (by simp[fG];omega),<-iU ts i h' k hk]
  congr 1
  simp[fG];omega
structure tT (w:World) (A:Option Addr) (cap:Nat) (ts:List bK):Prop where
 le:ts.length<=cap
 max:cap<=maxLen
 rd:ts=[]\/ ∃b off,A=some ⟨b,off,none⟩/\b<w.heap.size/\ ∀i,(h:i<ts.length)->w.cell? ⟨b,off+i*4,none⟩=some (.int .i64 ts[i].k)/\w.cell? ⟨b,off+i*4+1,none⟩=some (.string (ah ts[i].t))/\
  w.cell? ⟨b,off+i*4+2,none⟩=some (.int .i64 ts[i].v)/\w.cell? ⟨b,off+i*4+3,none⟩=some (.int .i64 ts[i].f)
theorem tT.ext {w w':World} {A:Option Addr} {cap:Nat} {ts:List bK} (h:tT w A cap ts) (he:au w w'):tT w' A cap ts:=
 ⟨h.le,h.max,h.rd.imp id fun⟨b,off,ha,hb,hc⟩=>⟨b,off,ha,az hb he.size,fun i hi=>
  let⟨h1,h2,h3,h4⟩:=hc i hi;⟨(he.cell b _ hb).trans h1,(he.cell b _ hb).trans h2,(he.cell b _ hb).trans h3,(he.cell b _ hb).trans h4⟩⟩⟩
theorem tT.at_ {w:World} {A:Option Addr} {cap:Nat} {ts:List bK} (h:tT w A cap ts) (i:Nat) (hi:i<ts.length):
  ∃b off,A=some ⟨b,off,none⟩/\b<w.heap.size/\w.cell? ⟨b,off+i*4,none⟩=some (.int .i64 ts[i].k)/\w.cell? ⟨b,off+i*4+1,none⟩=some (.string (ah ts[i].t))/\
  w.cell? ⟨b,off+i*4+2,none⟩=some (.int .i64 ts[i].v)/\w.cell? ⟨b,off+i*4+3,none⟩=some (.int .i64 ts[i].f):=by
 rcases h.rd with h0|⟨b,off,ha,hb,hc⟩
 ·subst h0;simp at hi
 ·exact⟨b,off,ha,hb,hc i hi⟩
theorem gx.tks {w:World} {base:Nat} {e:TypeId} {A:Option Addr} {n cap:Nat} {ts:List bK} (h:gx w base e (.slice A n cap) ts):n=ts.length/\tT w A cap ts:=by
 rcases h.2 with⟨hv,hn⟩|⟨g,c,cur,hv,hb,hg,hnc,hcm,hcs,ht⟩
 ·injection hv with a1 a2 a3;subst a1 a2 a3;have:ts=[]:=aH hn;subst this;exact⟨rfl,by simp,by simp[maxLen], .inl rfl⟩
 ·injection hv with a1 a2 a3;subst a1 a2 a3;refine⟨rfl,hnc,hcm, .inr ⟨g,0,rfl,(Array.getElem?_eq_some_iff.1 hg).1,fun i hi=> ?_⟩⟩;have cell: ∀j y,(jY ts)[j]? =some y->w.cell? ⟨g,j,none⟩=some y:=fun j y hy=>by
   rw[cell_of_row w g j cur e (0,0) hg];rw[<-ht,cB]at hy;split at hy
   ·simpa using hy
   ·cases hy
  have g0:=iU ts i hi 0 (by omega);have g1:=iU ts i hi 1 (by omega);have g2:=iU ts i hi 2 (by omega);have g3:=iU ts i hi 3 (by omega);rw[aA];exact⟨cell _ _ g0,cell _ _ g1,cell _ _ g2,cell _ _ g3⟩
end
section
open Go.RowKit
theorem rM (l:List UInt8) (w:World) (hz:EZ w):Calls prog 58 #[.string (ah l)] w fun e w'=>tS 206 w.heap.size (gc l) e w'/\au w w':=by
 by_cases hl:l.length<=100000
 ·exact rL l hl w hz
 ·have hsz:(ah l).size=l.length:=a6 l;have HRb:=G (oC l);have hbig:4000<l.length:=by omega
  have hbig':(4000:Int)<l.length:=by omega
  go_enter func58,ntmps58;go_wp2_with fail;exact bodyPost_ret (v:= .tuple #[.slice none 0 0, .int .i64 4000, .int .i64 6]) (by simp[results,results58,go_sem]) rfl ⟨by rw[HRb.out hbig];exact⟨none,0,rfl,gx.nil_ _ _ _⟩,aO _⟩
end
section
open Go.RowKit
inductive cu (w:World) (P:Nat->Prop):Value->List Ex->Prop where
 |nil (A:Option Addr) (c:Nat):cu w P (.slice A 0 c) []
 |row (b o n c:Nat) (xs:List Ex) (av:Nat->Value) (hP:P b) (hb:b<w.heap.size) (hn:xs.length=n) (hnc:n<=c) (hm:c<=maxLen)
   (hc: ∀i,(h:i<xs.length)->w.cell? ⟨b,o+i*6,none⟩=some (.int .i64 xs[i].k)/\w.cell? ⟨b,o+i*6+1,none⟩=some (.string (ah xs[i].op))/\w.cell? ⟨b,o+i*6+2,none⟩=some (.string (ah xs[i].nm))/\
    w.cell? ⟨b,o+i*6+3,none⟩=some (.string (ah xs[i].tx))/\w.cell? ⟨b,o+i*6+4,none⟩=some (.int .i64 xs[i].v)/\w.cell? ⟨b,o+i*6+5,none⟩=some (av i))
   (hs: ∀i,(h:i<xs.length)->cu w P (av i) (Ex.args xs[i])):cu w P (.slice (some ⟨b,o,none⟩) n c) xs
structure cw (P:Nat->Prop) (w w':World):Prop where
 size:w.heap.size<=w'.heap.size
 block: ∀b,P b->b<w.heap.size->w'.heap[b]? =w.heap[b]?
theorem cw.cell {P:Nat->Prop} {w w':World} (h:cw P w w') {b:Nat} (o:Nat) (hP:P b) (hb:b<w.heap.size):w'.cell? ⟨b,o,none⟩=w.cell? ⟨b,o,none⟩:=
 World.cell?_of_block (w:=w) (a:=⟨b,o,none⟩) (h.block b hP hb)
theorem cw.of_grown {P:Nat->Prop} {w w':World} {row:Option Nat} (h:w.grownBy w' row) (hr: ∀b,P b->some b≠row):cw P w w':=⟨h.size,fun b hP hb=>h.block b hb (hr b hP)⟩
theorem cw.of_ext {P:Nat->Prop} {w w':World} (h:au w w'):cw P w w':=⟨h.size,fun b _ hb=>h.obj hb⟩
theorem cu.keep {w w':World} {P Q:Nat->Prop} {v:Value} {xs:List Ex} (h:cu w P v xs) (hk:cw P w w') (hQ: ∀b,P b->b<w.heap.size->Q b):cu w' Q v xs:=by
 induction h with
 |nil A c=>exact .nil A c
 |row b o n c xs av hP hb hn hnc hm hc hs ih=>
  refine .row b o n c xs av (hQ b hP hb) (az hb hk.size) hn hnc hm (fun i hi=> ?_) ih;obtain⟨h0,h1,h2,h3,h4,h5⟩:=hc i hi;exact⟨(hk.cell _ hP hb).trans h0,(hk.cell _ hP hb).trans h1,(hk.cell _ hP hb).trans h2,(hk.cell _ hP hb).trans h3,(hk.cell _ hP hb).trans h4,(hk.cell _ hP hb).trans h5⟩
theorem cu.mono {w:World} {P Q:Nat->Prop} {v:Value} {xs:List Ex} (h:cu w P v xs) (hQ: ∀b,P b->b<w.heap.size->Q b):cu w Q v xs:=h.keep ⟨ag _,fun _ _ _=>rfl⟩ hQ
theorem cu.form {w:World} {P:Nat->Prop} {v:Value} {xs:List Ex} (h:cu w P v xs): ∃A c,v= .slice A xs.length c/\(xs=[]\/xs.length<=c/\c<=maxLen/\ ∃b o,A=some ⟨b,o,none⟩/\b<w.heap.size):=by
 cases h with
 |nil A c=>exact⟨A,c,rfl, .inl rfl⟩
 |row b o n c xs av hP hb hn hnc hm hc hs=>exact⟨_,c,by rw[hn], .inr ⟨by omega,hm,b,o,rfl,hb⟩⟩
theorem cu.at_ {w:World} {P:Nat->Prop} {A:Option Addr} {n c:Nat} {xs:List Ex} (h:cu w P (.slice A n c) xs) (i:Nat) (hi:i<xs.length):
  ∃b o a,A=some ⟨b,o,none⟩/\b<w.heap.size/\P b/\w.cell? ⟨b,o+i*6,none⟩=some (.int .i64 xs[i].k)/\w.cell? ⟨b,o+i*6+1,none⟩=some (.string (ah xs[i].op))/\w.cell? ⟨b,o+i*6+2,none⟩=some (.string (ah xs[i].nm))/\
   w.cell? ⟨b,o+i*6+3,none⟩=some (.string (ah xs[i].tx))/\w.cell? ⟨b,o+i*6+4,none⟩=some (.int .i64 xs[i].v)/\w.cell? ⟨b,o+i*6+5,none⟩=some a/\cu w P a (Ex.args xs[i]):=by
 cases h with
 |nil=>simp at hi
 |row b o n c xs av hP hb hn hnc hm hc hs=>
  obtain⟨h0,h1,h2,h3,h4,h5⟩:=hc i hi;exact⟨b,o,av i,rfl,hb,hP,h0,h1,h2,h3,h4,h5,hs i hi⟩
def uS (x:Ex) (a:Value):List Value:=[.int .i64 x.k, .string (ah x.op), .string (ah x.nm), .string (ah x.tx), .int .i64 x.v,a]
def fQ (l:List (Ex×Value)):List Value:=l.flatMap fun p=>uS p.1 p.2
theorem lL: ∀l:List (Ex×Value),(fQ l).length=l.length*6
 | []=>rfl
 |p::l=>by
  have:=lL l;simp only[fQ,bS,Z,uS,ac,ae]at this⊢;omega
theorem oZ (a b:List (Ex×Value)):fQ (a++b)=fQ a++fQ b:=by simp[fQ]
theorem oY: ∀(l:List (Ex×Value)) (i:Nat) (h:i<l.length) (k:Nat),k<6->(fQ l)[i*6+k]? =(uS l[i].1 l[i].2)[k]?
 | [],i,h,k,hk=>by simp at h
 |p::l,0,h,k,hk=>by
  simp only[fQ,bS,a_,aA,aB];rw[cU (by simp[uS];omega)]
 |p::l,i+1,h,k,hk=>by
  have:=oY l i (by simpa using h) k hk;simp only[fQ,bS,aP]at this⊢;rw[cC (by simp[uS];omega),<-this]
  congr 1
  simp[uS];omega
def f9 (w:World) (base:Nat) (e:TypeId) (v:Value) (l:List (Ex×Value)):Prop:=
 w.ownsRow base e 6 v l.length (fQ l)/\ ∀p,p∈l->cu w (fun b=>base<=b/\some b≠v.ownBlock) p.2 p.1.args
theorem f9.nil_ (w:World) (base:Nat) (e:TypeId):f9 w base e (.slice none 0 0) []:=⟨World.ownsRow_nil w base e 6,fun p hp=>by cases hp⟩
theorem f9.grown {w w':World} {base:Nat} {e:TypeId} {v:Value} {l:List (Ex×Value)} {row:Option Nat} (h:f9 w base e v l) (hg:w.grownBy w' row) (hr: ∀k,row=some k->k<base):f9 w' base e v l:=by
 refine⟨World.ownsRow.kept h.1 hg ?_,fun p hp=> ?_⟩
 ·cases hv:v.ownBlock with
  |none=>exact .inl rfl
  |some k=>
   refine .inr fun e=> ?_;have:=(World.ownsRow.lt h.1 k hv).1;have:=hr k e.symm;omega
 ·exact(h.2 p hp).keep (.of_grown hg fun b hb e=>by have:=hr b e.symm;omega) fun b hb _=>hb
theorem f9.rd {w:World} {base:Nat} {e:TypeId} {v:Value} {l:List (Ex×Value)} (h:f9 w base e v l):cu w (fun b=>base<=b) v (l.map (·.1)):=by
 rcases h.1.2 with⟨rfl,h0⟩|⟨g,cap,cur,rfl,hb,hg,hnc,hcm,hcs,ht⟩
 ·have:l=[]:=aH h0;subst this;exact .nil _ _
 ·have hlt:g<w.heap.size:=(Array.getElem?_eq_some_iff.1 hg).1;have cell: ∀j y,(fQ l)[j]? =some y->w.cell? ⟨g,j,none⟩=some y:=fun j y hy=>by
   rw[cell_of_row w g j cur e (0,0) hg];rw[<-ht,cB]at hy;split at hy
   ·simpa using hy
   ·cases hy
  refine .row g 0 l.length cap _ (fun i=>if h:i<l.length then l[i].2 else .slice none 0 0) hb hlt (by simp) hnc hcm (fun i hi=> ?_) (fun i hi=> ?_)
  ·have hi':i<l.length:=by simpa using hi
   have q:=fun k hk=>oY l i hi' k hk;have e0:(l.map (·.1))[i]=l[i].1:=by simp
   rw[e0,dif_pos hi',aA];exact⟨cell _ _ (q 0 (by omega)),cell _ _ (q 1 (by omega)),cell _ _ (q 2 (by omega)),cell _ _ (q 3 (by omega)),cell _ _ (q 4 (by omega)),cell _ _ (q 5 (by omega))⟩
  ·have hi':i<l.length:=by simpa using hi
   have e0:(l.map (·.1))[i]=l[i].1:=by simp
   rw[e0,dif_pos hi'];exact(h.2 l[i] (ap hi')).mono fun b hb _=>hb.1
theorem cu.one {w:World} {P:Nat->Prop} {gb:Nat} {e:TypeId} {x:Ex} {a:Value} (hB:aQ w gb e #[.int .i64 x.k, .string (ah x.op), .string (ah x.nm), .string (ah x.tx), .int .i64 x.v,a]) (hP:P gb) (h:cu w P a x.args):cu w P (.slice (some ⟨gb,0,none⟩) 1 1) [x]:=by
 refine .row gb 0 1 1 [x] (fun _=>a) hP hB.lt rfl (ag _) (by simp[maxLen]) (fun i hi=> ?_) (fun i hi=> ?_)
 ·have hi:i=0:=by simpa using hi
  subst hi;exact⟨hB.cell 0,hB.cell 1,hB.cell 2,hB.cell 3,hB.cell 4,hB.cell 5⟩
 ·have hi:i=0:=by simpa using hi
  subst hi;exact h
theorem cu.two {w:World} {P:Nat->Prop} {gb:Nat} {e:TypeId} {x y:Ex} {a b:Value} (hB:aQ w gb e #[.int .i64 x.k, .string (ah x.op), .string (ah x.nm), .string (ah x.tx), .int .i64 x.v,a, .int .i64 y.k, .string (ah y.op), .string (ah y.nm), .string (ah y.tx), .int .i64 y.v,b]) (hP:P gb) (h:cu w P a x.args) (h':cu w P b y.args):cu w P (.slice (some ⟨gb,0,none⟩) 2 2) [x,y]:=by
 refine .row gb 0 2 2 [x,y] (fun i=>if i=0 then a else b) hP hB.lt rfl (ag _) (by simp[maxLen]) (fun i hi=> ?_) (fun i hi=> ?_)
 ·have hi:i<2:=hi;obtain rfl|rfl:i=0\/i=1:=by omega
  ·exact⟨hB.cell 0,hB.cell 1,hB.cell 2,hB.cell 3,hB.cell 4,hB.cell 5⟩
  ·exact⟨hB.cell 6,hB.cell 7,hB.cell 8,hB.cell 9,hB.cell 10,hB.cell 11⟩
 ·have hi:i<2:=hi;obtain rfl|rfl:i=0\/i=1:=by omega
  ·exact h
  ·exact h'
structure mU (P:Program) (t e:TypeId) (size bytes:Nat) (z:Value):Prop where
 under:P.underlying t=some (.slice e)
 info:(P.info? e).map (fun i=>(i.zero,i.size,i.bytes))=some (some z,size,bytes)
 cells:z.cells.size=size
 pos:0<size
theorem qE {P:Program} {w:World} {t e:TypeId} {size bytes:Nat} {z:Value} (hT:mU P t e size bytes z) (ty:TypeId) (base:Nat) (v:Value) (n:Nat) (xs:List Value) (hown:w.ownsRow base e size v n xs) (g:Nat) (news:List Value)
  (hg:w.heap[g]? =some (.cells news.toArray e (0,0))) (hl:news.length=size) (h1: ∀u∈news,u.oneCell'=true) (hb:n<=1073741824) (hy:bytes<=1000) (hbase:base<=w.heap.size):
  ∃A' cap' w',(Builtin.append_ #[t,t] ty #[v, .slice (some ⟨g,0,none⟩) 1 1]).run P w= .ok (.slice (some ⟨A',0,none⟩) (n+1) cap') w'/\w'.ownsRow base e size (.slice (some ⟨A',0,none⟩) (n+1) cap') (n+1) (xs++news)/\w.grownBy w' v.ownBlock/\
   (some A'=v.ownBlock\/A'=w.heap.size):=by
 obtain⟨i,hi,hz,hz1,hz2⟩:=info_parts hT.info;obtain⟨v',w',hr,h2,h3,_,h5⟩:=run_append_own_at (P:=P) w base t ty e i z size bytes hT.under hi hz hz1 hz2 hT.cells hT.pos v n xs hown ⟨g,0,none⟩ 1 1 news (by rw[hl,b_])
  (fun j y hj=>by
   rw[Addr.add_lit,aA,cell_of_row w g j _ e (0,0) hg];simpa using hj) h1 (by simp only[maxLen];omega) (by
    have:(n+1)*bytes<=(n+1)*1000:=fu _ hy
    omega) hbase
 rcases h2.2 with⟨_,h0⟩|⟨g',cap',cur,rfl,hx⟩
 ·omega
 ·refine⟨g',cap',w',hr,h2,h3,?_⟩;rcases h5 with h5|h5
  ·exact .inl h5
  ·exact .inr (O h5)
theorem eX {P:Program} {w:World} {ops:Array Oper} {rest:List Oper} {o:Oper} {a:Act} {Q:Exit->Act->World->Prop} {t e:TypeId} {size bytes:Nat} {z:Value} (hT:mU P t e size bytes z) (hgd:o.guard=none) (s x:Operand)
  (ho:o.op= .call {callee:= .builtin .append,args:= #[s,x],argTypes:= #[t,t]}) (base:Nat) (v:Value) (n:Nat) (xs:List Value) (hv:a.eval s=v) (hown:w.ownsRow base e size v n xs)
  (g:Nat) (news:List Value) (hx:a.eval x= .slice (some ⟨g,0,none⟩) 1 1) (hg:w.heap[g]? =some (.cells news.toArray e (0,0))) (hl:news.length=size) (h1: ∀u∈news,u.oneCell'=true) (hb:n<=1073741824) (hy:bytes<=1000) (hbase:base<=w.heap.size)
  (h: ∀A' cap' w',w'.ownsRow base e size (.slice (some ⟨A',0,none⟩) (n+1) cap') (n+1) (xs++news)->w.grownBy w' v.ownBlock->(some A'=v.ownBlock\/A'=w.heap.size)->
   wpList P ops Q rest (a.put o.dst (.slice (some ⟨A',0,none⟩) (n+1) cap')) w'):
  wpList P ops Q (o::rest) a w:=by
 obtain⟨A',cap',w',hr,h1,h2,h3⟩:=qE (P:=P) (w:=w) hT o.type base v n xs hown g news hg hl h1 hb hy hbase;refine wpList_plain hgd fun K hK=> ?_;unfold Oper.wp execOp;simp only[ho,resolve,invoke,builtin,Sem.run_bind,Sem.run_pure,Result.andThen_ok,dK,bW,dZ,hv,hx,hr];exact hK _ _ (h A' cap' w' h1 h2 h3)
theorem yA {P:Program} {w:World} {o:Oper} {a:Act} {K:Act->World->Prop} {Q:Exit->Act->World->Prop} {t e:TypeId} {size bytes:Nat} {z:Value} (hT:mU P t e size bytes z) (s x:Operand)
  (ho:o.op= .call {callee:= .builtin .append,args:= #[s,x],argTypes:= #[t,t]}) (base:Nat) (v:Value) (n:Nat) (xs:List Value) (hv:a.eval s=v) (hown:w.ownsRow base e size v n xs)
  (g:Nat) (news:List Value) (hx:a.eval x= .slice (some ⟨g,0,none⟩) 1 1) (hg:w.heap[g]? =some (.cells news.toArray e (0,0))) (hl:news.length=size) (h1: ∀u∈news,u.oneCell'=true) (hb:n<=1073741824) (hy:bytes<=1000) (hbase:base<=w.heap.size)
  (h: ∀A' cap' w',w'.ownsRow base e size (.slice (some ⟨A',0,none⟩) (n+1) cap') (n+1) (xs++news)->w.grownBy w' v.ownBlock->(some A'=v.ownBlock\/A'=w.heap.size)->
   K (a.put o.dst (.slice (some ⟨A',0,none⟩) (n+1) cap')) w'):
  o.wp P a w K Q:=by
 obtain⟨A',cap',w',hr,h1,h2,h3⟩:=qE (P:=P) (w:=w) hT o.type base v n xs hown g news hg hl h1 hb hy hbase;unfold Oper.wp execOp;simp only[ho,resolve,invoke,builtin,Sem.run_bind,Sem.run_pure,Result.andThen_ok,dK,bW,dZ,hv,hx,hr];exact h A' cap' w' h1 h2 h3
theorem f9.snoc {w w':World} {base:Nat} {e:TypeId} {v:Value} {l:List (Ex×Value)} {x:Ex} {a:Value} {A cap:Nat} (h:f9 w base e v l) (ha:cu w (fun b=>base<=b/\some b≠v.ownBlock) a x.args)
  (hn:w'.ownsRow base e 6 (.slice (some ⟨A,0,none⟩) (l.length+1) cap) (l.length+1) (fQ l++uS x a)) (hg:w.grownBy w' v.ownBlock) (hA:some A=v.ownBlock\/A=w.heap.size):
  f9 w' base e (.slice (some ⟨A,0,none⟩) (l.length+1) cap) (l++[(x,a)]):=by
 have hk:cw (fun b=>base<=b/\some b≠v.ownBlock) w w':= .of_grown hg fun b hb=>hb.2;have hq: ∀b,(base<=b/\some b≠v.ownBlock)->b<w.heap.size->(base<=b/\some b≠Value.ownBlock (.slice (some ⟨A,0,none⟩) (l.length+1) cap)):=fun b hb hlt=>by
  refine⟨hb.1,fun e=> ?_⟩;have e:b=A:=O e;rcases hA with hA|hA
  ·exact hb.2 (by rw[e,hA])
  ·omega
 refine⟨by rw[Z,oZ];simpa[fQ]using hn,fun p hp=> ?_⟩;rcases List.mem_append.1 hp with hp|hp
 ·exact(h.2 p hp).keep hk hq
 ·rw[cA]at hp;subst hp;exact ha.keep hk hq
end
section
open Go.RowKit
inductive cK (w:World) (P:Nat->Prop):Value->List St->Prop where
 |nil (A:Option Addr) (c:Nat):cK w P (.slice A 0 c) []
 |row (b o n c:Nat) (xs:List St) (es bs ls:Nat->Value) (hP:P b) (hb:b<w.heap.size) (hn:xs.length=n) (hnc:n<=c) (hm:c<=maxLen)
   (hc: ∀i,(h:i<xs.length)->w.cell? ⟨b,o+i*5,none⟩=some (.int .i64 xs[i].k)/\w.cell? ⟨b,o+i*5+1,none⟩=some (.string (ah xs[i].nm))/\w.cell? ⟨b,o+i*5+2,none⟩=some (es i)/\
    w.cell? ⟨b,o+i*5+3,none⟩=some (bs i)/\w.cell? ⟨b,o+i*5+4,none⟩=some (ls i))
   (he: ∀i,(h:i<xs.length)->cu w P (es i) (St.ex xs[i]))
   (hs: ∀i,(h:i<xs.length)->cK w P (bs i) (St.body xs[i]))
   (hl: ∀i,(h:i<xs.length)->cK w P (ls i) (St.els xs[i])):cK w P (.slice (some ⟨b,o,none⟩) n c) xs
theorem cK.keep {w w':World} {P Q:Nat->Prop} {v:Value} {xs:List St} (h:cK w P v xs) (hk:cw P w w') (hQ: ∀b,P b->b<w.heap.size->Q b):cK w' Q v xs:=by
 induction h with
 |nil A c=>exact .nil A c
 |row b o n c xs es bs ls hP hb hn hnc hm hc he hs hl ih1 ih2=>
  refine .row b o n c xs es bs ls (hQ b hP hb) (az hb hk.size) hn hnc hm (fun i hi=> ?_) (fun i hi=>(he i hi).keep hk hQ) ih1 ih2;obtain⟨h0,h1,h2,h3,h4⟩:=hc i hi;exact⟨(hk.cell _ hP hb).trans h0,(hk.cell _ hP hb).trans h1,(hk.cell _ hP hb).trans h2,(hk.cell _ hP hb).trans h3,(hk.cell _ hP hb).trans h4⟩
theorem cK.mono {w:World} {P Q:Nat->Prop} {v:Value} {xs:List St} (h:cK w P v xs) (hQ: ∀b,P b->b<w.heap.size->Q b):cK w Q v xs:=h.keep ⟨ag _,fun _ _ _=>rfl⟩ hQ
theorem cK.form {w:World} {P:Nat->Prop} {v:Value} {xs:List St} (h:cK w P v xs): ∃A c,v= .slice A xs.length c/\(xs=[]\/xs.length<=c/\c<=maxLen/\ ∃b o,A=some ⟨b,o,none⟩/\b<w.heap.size):=by
 cases h with
 |nil A c=>exact⟨A,c,rfl, .inl rfl⟩
 |row b o n c xs es bs ls hP hb hn hnc hm hc he hs hl=>exact⟨_,c,by rw[hn], .inr ⟨by omega,hm,b,o,rfl,hb⟩⟩
theorem cK.at_ {w:World} {P:Nat->Prop} {A:Option Addr} {n c:Nat} {xs:List St} (h:cK w P (.slice A n c) xs) (i:Nat) (hi:i<xs.length):
  ∃b o u v z,A=some ⟨b,o,none⟩/\b<w.heap.size/\P b/\w.cell? ⟨b,o+i*5,none⟩=some (.int .i64 xs[i].k)/\w.cell? ⟨b,o+i*5+1,none⟩=some (.string (ah xs[i].nm))/\w.cell? ⟨b,o+i*5+2,none⟩=some u/\
   w.cell? ⟨b,o+i*5+3,none⟩=some v/\w.cell? ⟨b,o+i*5+4,none⟩=some z/\cu w P u (St.ex xs[i])/\cK w P v (St.body xs[i])/\cK w P z (St.els xs[i]):=by
 cases h with
 |nil=>simp at hi
 |row b o n c xs es bs ls hP hb hn hnc hm hc he hs hl=>
  obtain⟨h0,h1,h2,h3,h4⟩:=hc i hi;exact⟨b,o,es i,bs i,ls i,rfl,hb,hP,h0,h1,h2,h3,h4,he i hi,hs i hi,hl i hi⟩
structure SV where
 s:St
 e:Value
 b:Value
 l:Value
def vF (p:SV):List Value:=[.int .i64 p.s.k, .string (ah p.s.nm),p.e,p.b,p.l]
def d8 (l:List SV):List Value:=l.flatMap vF
theorem jp: ∀l:List SV,(d8 l).length=l.length*5
 | []=>rfl
 |p::l=>by
  have:=jp l;simp only[d8,bS,Z,vF,ac,ae]at this⊢;omega
theorem oI (a b:List SV):d8 (a++b)=d8 a++d8 b:=by simp[d8]
theorem kj: ∀(l:List SV) (i:Nat) (h:i<l.length) (k:Nat),k<5->(d8 l)[i*5+k]? =(vF l[i])[k]?
 | [],i,h,k,hk=>by simp at h
 |p::l,0,h,k,hk=>by
  simp only[d8,bS,a_,aA,aB];rw[cU (by simp[vF];omega)]
 |p::l,i+1,h,k,hk=>by
  have:=kj l i (by simpa using h) k hk;simp only[d8,bS,aP]at this⊢;rw[cC (by simp[vF];omega),<-this]
  congr 1
  simp[vF];omega
def SV.ok (w:World) (P:Nat->Prop) (p:SV):Prop:=cu w P p.e p.s.ex/\cK w P p.b p.s.body/\cK w P p.l p.s.els
theorem SV.ok.keep {w w':World} {P Q:Nat->Prop} {p:SV} (h:p.ok w P) (hk:cw P w w') (hQ: ∀b,P b->b<w.heap.size->Q b):p.ok w' Q:=⟨h.1.keep hk hQ,h.2.1.keep hk hQ,h.2.2.keep hk hQ⟩
def g_ (w:World) (base:Nat) (e:TypeId) (v:Value) (l:List SV):Prop:=
 w.ownsRow base e 5 v l.length (d8 l)/\ ∀p,p∈l->p.ok w (fun b=>base<=b/\some b≠v.ownBlock)
theorem g_.nil_ (w:World) (base:Nat) (e:TypeId):g_ w base e (.slice none 0 0) []:=⟨World.ownsRow_nil w base e 5,fun p hp=>by cases hp⟩
theorem g_.grown {w w':World} {base:Nat} {e:TypeId} {v:Value} {l:List SV} {row:Option Nat} (h:g_ w base e v l) (hg:w.grownBy w' row) (hr: ∀k,row=some k->k<base):g_ w' base e v l:=by
 refine⟨World.ownsRow.kept h.1 hg ?_,fun p hp=> ?_⟩
 ·cases hv:v.ownBlock with
  |none=>exact .inl rfl
  |some k=>
   refine .inr fun e=> ?_;have:=(World.ownsRow.lt h.1 k hv).1;have:=hr k e.symm;omega
 ·exact(h.2 p hp).keep (.of_grown hg fun b hb e=>by have:=hr b e.symm;omega) fun b hb _=>hb
theorem g_.ext {w w':World} {base:Nat} {e:TypeId} {v:Value} {l:List SV} (h:g_ w base e v l) (he:au w w'):g_ w' base e v l:=h.grown (he.grownBy none) (fun k hk=>by cases hk)
theorem g_.rd {w:World} {base:Nat} {e:TypeId} {v:Value} {l:List SV} (h:g_ w base e v l):cK w (fun b=>base<=b) v (l.map (·.s)):=by
 rcases h.1.2 with⟨rfl,h0⟩|⟨g,cap,cur,rfl,hb,hg,hnc,hcm,hcs,ht⟩
 ·have:l=[]:=aH h0;subst this;exact .nil _ _
 ·have hlt:g<w.heap.size:=(Array.getElem?_eq_some_iff.1 hg).1;have cell: ∀j y,(d8 l)[j]? =some y->w.cell? ⟨g,j,none⟩=some y:=fun j y hy=>by
   rw[cell_of_row w g j cur e (0,0) hg];rw[<-ht,cB]at hy;split at hy
   ·simpa using hy
   ·cases hy
  have ok: ∀i (hi:i<l.length),SV.ok w (fun b=>base<=b) l[i]:=fun i hi=>(h.2 l[i] (ap hi)).keep ⟨ag _,fun _ _ _=>rfl⟩ fun b hb _=>hb.1;refine .row g 0 l.length cap _ (fun i=>if h:i<l.length then l[i].e else .slice none 0 0) (fun i=>if h:i<l.length then l[i].b else .slice none 0 0) (fun i=>if h:i<l.length then l[i].l else .slice none 0 0) hb hlt (by simp) hnc hcm (fun i hi=> ?_) (fun i hi=> ?_) (fun i hi=> ?_) (fun i hi=> ?_)
  ·have hi':i<l.length:=by simpa using hi
   have q:=fun k hk=>kj l i hi' k hk;have e0:(l.map (·.s))[i]=l[i].s:=by simp
   rw[e0,dif_pos hi',dif_pos hi',dif_pos hi',aA];exact⟨cell _ _ (q 0 (by omega)),cell _ _ (q 1 (by omega)),cell _ _ (q 2 (by omega)),cell _ _ (q 3 (by omega)),cell _ _ (q 4 (by omega))⟩
  all_goals
   have hi':i<l.length:=by simpa using hi
   have e0:(l.map (·.s))[i]=l[i].s:=by simp
   rw[e0,dif_pos hi']
  ·exact(ok i hi').1
  ·exact(ok i hi').2.1
  ·exact(ok i hi').2.2
theorem g_.snoc {w w':World} {base:Nat} {e:TypeId} {v:Value} {l:List SV} {p:SV} {A cap:Nat} (h:g_ w base e v l) (ha:p.ok w (fun b=>base<=b/\some b≠v.ownBlock))
  (hn:w'.ownsRow base e 5 (.slice (some ⟨A,0,none⟩) (l.length+1) cap) (l.length+1) (d8 l++vF p)) (hg:w.grownBy w' v.ownBlock) (hA:some A=v.ownBlock\/A=w.heap.size):
  g_ w' base e (.slice (some ⟨A,0,none⟩) (l.length+1) cap) (l++[p]):=by
 have hk:cw (fun b=>base<=b/\some b≠v.ownBlock) w w':= .of_grown hg fun b hb=>hb.2;have hq: ∀b,(base<=b/\some b≠v.ownBlock)->b<w.heap.size->(base<=b/\some b≠Value.ownBlock (.slice (some ⟨A,0,none⟩) (l.length+1) cap)):=fun b hb hlt=>by
  refine⟨hb.1,fun e=> ?_⟩;have e:b=A:=O e;rcases hA with hA|hA
  ·exact hb.2 (by rw[e,hA])
  ·omega
 refine⟨by rw[Z,oI];simpa[d8]using hn,fun q hp=> ?_⟩;rcases List.mem_append.1 hp with hp|hp
 ·exact(h.2 q hp).keep hk hq
 ·rw[cA]at hp;subst hp;exact ha.keep hk hq
end
section
open Go.RowKit
def PA (w:World) (g:Nat) (l:List bK) (en:Int):Prop:=
 ∃A c,aQ w g 155 #[.slice A l.length c, .int .i64 en]/\tT w A c l/\ ∀b off,A=some ⟨b,off,none⟩->l≠ []->b<g
theorem PA.lt {w:World} {g:Nat} {l:List bK} {en:Int} (h:PA w g l en):g<w.heap.size:=let⟨_,_,hb,_⟩:=h;hb.lt
theorem PA.ext {w w':World} {g:Nat} {l:List bK} {en:Int} (h:PA w g l en) (he:au w w'):PA w' g l en:=let⟨A,c,hb,ht,hn⟩:=h;⟨A,c,hb.ext he,ht.ext he,hn⟩
theorem PA.grown {w w':World} {g:Nat} {l:List bK} {en:Int} {row:Option Nat} (h:PA w g l en) (hg:w.grownBy w' row) (h1: ∀k,row=some k->g<k):PA w' g l en:=by
 obtain⟨A,c,hb,ht,hn⟩:=h;refine⟨A,c,(hg.block g hb.lt (fun e=>by have:=h1 g e.symm;omega)).trans hb,⟨ht.le,ht.max,?_⟩,hn⟩;by_cases hl:l=[]
 ·exact .inl hl
 rcases ht.rd with h0|⟨b,off,ha,hlt,hc⟩
 ·exact absurd h0 hl
 ·have hbg:=hn b off ha hl;have hbk:=hg.block b hlt (fun e=>by have:=h1 b e.symm;omega);have cc: ∀o,w'.cell? ⟨b,o,none⟩=w.cell? ⟨b,o,none⟩:=fun o=>World.cell?_of_block (w:=w) (a:=⟨b,o,none⟩) hbk;exact .inr ⟨b,off,ha,az hlt hg.size,fun i hi=>let⟨q0,q1,q2,q3⟩:=hc i hi;⟨(cc _).trans q0,(cc _).trans q1,(cc _).trans q2,(cc _).trans q3⟩⟩
theorem PA.next {w:World} {g:Nat} {t:bK} {r:List bK} {en:Int} {b off c:Nat} (hb:aQ w g 155 #[.slice (some ⟨b,off,none⟩) (t::r).length c, .int .i64 en]) (ht:tT w (some ⟨b,off,none⟩) c (t::r)) (hn:b<g) (hlt:b<w.heap.size)
  (off' c':Nat) (h:(c=1/\off'=off/\c'=0)\/(¬c=1/\off'=off+4/\c'=c-1)):PA (w.setCell ⟨g,0,none⟩ (.slice (some ⟨b,off',none⟩) r.length c')) g r en/\w.grownBy (w.setCell ⟨g,0,none⟩ (.slice (some ⟨b,off',none⟩) r.length c')) (some g):=by
 have hle:=ht.le;have hmx:=ht.max;simp only[ac]at hle;refine⟨⟨_,c',hb.set 0 _,⟨by omega,by omega,?_⟩,fun b' o' e _=> ?_⟩,⟨rfl,rfl,rfl,by simp[World.setCell],fun k _ hk=>Below.heap_setCell w _ _ k (fun e=>hk (by rw[e]))⟩⟩
 ·rcases h with⟨h1,_,_⟩|⟨_,rfl,_⟩
  ·exact .inl (aH (by omega))
  ·refine .inr ⟨b,off+4,rfl,by simpa[World.setCell]using hlt,fun i hi=> ?_⟩;obtain⟨b2,o2,e2,_,q0,q1,q2,q3⟩:=ht.at_ (i+1) (by simp;omega);injection e2 with e2;injection e2 with e2 e3;subst e2 e3;have cc: ∀o v,(w.setCell ⟨g,0,none⟩ v).cell? ⟨b,o,none⟩=w.cell? ⟨b,o,none⟩:=fun o v=>World.cell?_of_block (w:=w) (a:=⟨b,o,none⟩) (Below.heap_setCell w ⟨g,0,none⟩ v b (by show b≠g;omega));have en:off+4+i*4=off+(i+1)*4:=by omega
   simp only[aP]at q0 q1 q2 q3;rw[en,cc,cc,cc,cc];exact⟨q0,q1,q2,q3⟩
 ·injection e with e;injection e with e;subst e;exact hn
def aZ (en:Int) (q:List bK) (n:Int):Ending:= .panicked [{v:= .iface 151 (.agg #[.int .i64 (Cr en q), .int .i64 n]),recovered:=false}]
theorem d9 (g:Nat) (l:List bK) (en:Int) (w:World) (h:PA w g l en):Calls prog 146 #[.pointer (some ⟨g,0,none⟩)] w fun e w'=>e= .returned (.agg #[.int .i64 (cg l).k, .string (ah (cg l).t), .int .i64 (cg l).v, .int .i64 (cg l).f])/\au w w':=by
 obtain⟨A,c,hb,ht,hn⟩:=h;have hbc:=(hb.alloc (.cells #[.int .i64 0, .string ⟨#[]⟩, .int .i64 0, .int .i64 0] 206)).cell
 cases l with
 |nil=>
  clear hb ht hn;go_enter func146,ntmps146;go_wp2_with fail;exact bodyPost_ret (v:= .agg #[.int .i64 0, .string ⟨#[]⟩, .int .i64 0, .int .i64 0]) (by simp[results,results146,go_sem]) rfl ⟨rfl,I w _⟩
 |cons t r=>
  obtain⟨b,off,rfl,hlt,h0,h1,h2,h3⟩:=ht.at_ 0 (by simp);have hE:au w (w.alloc (.cells #[.int .i64 0, .string ⟨#[]⟩, .int .i64 0, .int .i64 0] 206)):=I w _;have c0:=(hE.cell b _ hlt).trans h0;have c1:=(hE.cell b _ hlt).trans h1;have c2:=(hE.cell b _ hlt).trans h2;have c3:=(hE.cell b _ hlt).trans h3;simp only[a_,br,aB]at c0 c1 c2 c3;obtain⟨n,hnn⟩: ∃n,(t::r).length=n:=⟨_,rfl⟩
  rw[hnn]at hbc;have hn0:0<n:=by rw[<-hnn];exact Nat.succ_pos _
  have hn0i:(0:Int)<n:=by omega
  have hn0b:((n:Int)==0)=false:=by rw[beq_eq_false_iff_ne];omega
  obtain⟨k,tx,v,f⟩:=t;simp only at c0 c1 c2 c3;clear hb ht hn hnn hE h0 h1 h2 h3;go_enter func146,ntmps146;go_wp2_with fail;exact bodyPost_ret (v:= .agg #[.int .i64 k, .string (ah tx), .int .i64 v, .int .i64 f]) (by simp[results,results146,go_sem]) rfl ⟨rfl,I w _⟩
theorem nS (g:Nat) (l:List bK) (en n:Int) (w:World) (h:PA w g l en):Calls prog 147 #[.pointer (some ⟨g,0,none⟩), .int .i64 n] w fun e w'=>e=aZ en l n/\au w w':=by
 obtain⟨A,c,hb,ht,hn⟩:=h;have hbc:=hb.cell
 cases l with
 |nil=>
  clear hb ht hn;go_enter func147,ntmps147;go_wp2_with fail;exact⟨rfl,rfl,aO _⟩
 |cons t r=>
  obtain⟨b,off,rfl,hlt,c0,c1,c2,c3⟩:=ht.at_ 0 (by simp);simp only[a_,br,aB]at c0 c1 c2 c3;obtain⟨m,hnn⟩: ∃n,(t::r).length=n:=⟨_,rfl⟩
  rw[hnn]at hbc;have hn0:0<m:=by rw[<-hnn];exact Nat.succ_pos _
  have hn0i:(0:Int)<m:=by omega
  obtain⟨k,tx,v,f⟩:=t;simp only at c0 c1 c2 c3;clear hb ht hn hnn c0 c1 c2;go_enter func147,ntmps147;go_wp2_with fail;exact⟨rfl,rfl,aO _⟩
theorem gg (g:Nat) (l:List bK) (en:Int) (s:List UInt8) (w:World) (h:PA w g l en):Calls prog 145 #[.pointer (some ⟨g,0,none⟩), .string (ah s)] w fun e w'=>e= .returned (.bool (cI s l))/\au w w':=by
 have HN:=G (d9 g l en w h);have HI:=G (show cI s l=(((cg l).k==5||(cg l).k==2)&&(cg l).t==s)from rfl);clear h;generalize cg l=t at*;obtain⟨k,tx,v,f⟩:=t;simp only at HN HI
 cases h5:(k==5)<;>cases h2:(k==2)<;>cases hs:(tx==s);all_goals
  rw[h5,h2,hs]at HI;go_enter func145,ntmps145;go_wp2_with (go_at_call 146;refine HN.out.mono ?_;rintro e w1 ⟨rfl,hE⟩;have HX:=G (hE.alloc' (.cells #[.int .i64 k, .string (ah tx), .int .i64 v, .int .i64 f] 206));clear hE HN);go_ret;exact⟨by rw[HI.out];rfl,HX.out⟩
theorem cf (g:Nat) (l:List bK) (en:Int) (s:List UInt8) (w:World) (h:PA w g l en):Calls prog 98 #[.pointer (some ⟨g,0,none⟩), .string (ah s)] w fun e w'=>e= .returned (.bool (cI s l))/\PA w' g (if cI s l then l.tail else l) en/\w.grownBy w' (some g):=by
 have HI:=G (gg g l en s w h)
 cases hi:cI s l with
 |false=>
  rw[hi]at HI;have HP:=G h;clear h;go_enter func98,ntmps98;go_wp2_with (go_at_call 145;refine HI.out.mono ?_;rintro e w1 ⟨rfl,hE⟩;have HX:=G hE;clear hE HI);go_ret;exact⟨rfl,HP.out.ext HX.out,HX.out.grownBy _⟩
 |true=>
  rw[hi]at HI;have HP:=G h;obtain⟨t,r,rfl⟩: ∃t r,l=t::r:=by
   cases l with
   |nil=>exact absurd rfl (lI hi)
   |cons t r=>exact⟨t,r,rfl⟩
  clear h hi;go_enter func98,ntmps98;go_wp2_with (go_at_call 145;refine HI.out.mono ?_;rintro e w1 ⟨rfl,hE⟩;obtain⟨A,c,hb,ht,hn⟩:=HP.out.ext hE;obtain⟨b,off,rfl,hlt,_⟩:=ht.at_ 0 (by simp);have hbc:=hb.cell;have hbf:=hb.frozen;have HX:=G hE;clear hE HI)
  ·obtain⟨h1,h2⟩:=PA.next hb ht (hn b off rfl (by simp)) hlt off 0 (.inl ⟨by assumption,rfl,rfl⟩);go_ret;exact⟨rfl,h1,ak (HX.out.grownBy _) h2⟩
  ·obtain⟨h1,h2⟩:=PA.next hb ht (hn b off rfl (by simp)) hlt (off+4) (c-1) (.inr ⟨by assumption,rfl,rfl⟩);go_ret;exact⟨rfl,h1,ak (HX.out.grownBy _) h2⟩
theorem d7 (g:Nat) (l:List bK) (en:Int) (s:List UInt8) (w:World) (h:PA w g l en) (hi:cI s l=true):Calls prog 100 #[.pointer (some ⟨g,0,none⟩), .string (ah s)] w fun e w'=>e= .returned (.tuple #[])/\PA w' g l.tail en/\w.grownBy w' (some g):=by
 have HG:=G (cf g l en s w h);rw[hi]at HG;simp only[if_true]at HG;clear h hi;go_enter func100,ntmps100;go_wp2_with (go_at_call 98;refine HG.out.mono ?_;rintro e w1 ⟨rfl,h1,h2⟩;have H1:=G h1;have H2:=G h2;clear h1 h2 HG)
 go_end0
 exact⟨rfl,H1.out,H2.out⟩
theorem fS (g:Nat) (l:List bK) (en:Int) (s:List UInt8) (w:World) (h:PA w g l en) (hi:cI s l=false):Calls prog 100 #[.pointer (some ⟨g,0,none⟩), .string (ah s)] w fun e w'=>e=aZ en l 3/\w.grownBy w' (some g):=by
 have HG:=G (cf g l en s w h);rw[hi]at HG;simp only[aK,if_false]at HG;clear h hi;go_enter func100,ntmps100
 go_wp2_with (first
  |(go_at_call 98;refine HG.out.mono ?_;rintro e w1 ⟨rfl,h1,h2⟩;have H1:=G h1;have H2:=G h2;clear h1 h2 HG)
  |(go_at_call 147;refine(nS g l en 3 _ H1.out).mono ?_;unfold aZ;rintro e w2 ⟨rfl,h3⟩;have H3:=G (ak H2.out (h3.grownBy _));clear h3))
 exact⟨rfl,rfl,H3.out⟩
theorem nM (g:Nat) (l:List bK) (en:Int) (w:World) (h:PA w g l en) (hi: ¬(cg l).k=1):Calls prog 101 #[.pointer (some ⟨g,0,none⟩)] w fun e w'=>e=aZ en l 3/\w.grownBy w' (some g):=by
 have HN:=G (d9 g l en w h);have HP:=G h;generalize cg l=t at*;obtain⟨k,tx,v,f⟩:=t;simp only at HN hi;have hk:(k==1)=false:=beq_eq_false_iff_ne.2 hi;clear h hi;go_enter func101,ntmps101
 go_wp2_with (first
  |(go_at_call 146;refine HN.out.mono ?_;rintro e w1 ⟨rfl,hE⟩;have HX:=G (hE.alloc' (.cells #[.int .i64 k, .string (ah tx), .int .i64 v, .int .i64 f] 206));clear hE HN)
  |(go_at_call 147;refine(nS g l en 3 _ (HP.out.ext HX.out)).mono ?_;unfold aZ;rintro e w2 ⟨rfl,h3⟩;have H3:=G (HX.out.trans h3);clear h3))
 exact⟨rfl,rfl,H3.out.grownBy _⟩
theorem io (g:Nat) (l:List bK) (en:Int) (w:World) (h:PA w g l en) (hi:(cg l).k=1):Calls prog 101 #[.pointer (some ⟨g,0,none⟩)] w fun e w'=>e= .returned (.string (ah (cg l).t))/\PA w' g l.tail en/\w.grownBy w' (some g):=by
 have HN:=G (d9 g l en w h);have HP:=G h;obtain⟨t,r,rfl⟩: ∃t r,l=t::r:=by
  cases l with
  |nil=>exact absurd hi (by decide)
  |cons t r=>exact⟨t,r,rfl⟩
 clear h;obtain⟨k,tx,v,f⟩:=t;simp only[cg]at HN hi;obtain rfl:k=1:=hi;go_enter func101,ntmps101;go_wp2_with (go_at_call 146;refine HN.out.mono ?_;rintro e w1 ⟨rfl,hE⟩;have HX:=G (hE.alloc' (.cells #[.int .i64 1, .string (ah tx), .int .i64 v, .int .i64 f] 206));obtain⟨A,c,hb,ht,hn⟩:=HP.out.ext HX.out;obtain⟨b,off,rfl,hlt,_⟩:=ht.at_ 0 (by simp);have hbc:=hb.cell;have hbf:=hb.frozen;clear hE HN)
 ·obtain⟨h1,h2⟩:=PA.next hb ht (hn b off rfl (by simp)) hlt off 0 (.inl ⟨by assumption,rfl,rfl⟩);go_ret;exact⟨rfl,h1,ak (HX.out.grownBy _) h2⟩
 ·obtain⟨h1,h2⟩:=PA.next hb ht (hn b off rfl (by simp)) hlt (off+4) (c-1) (.inr ⟨by assumption,rfl,rfl⟩);go_ret;exact⟨rfl,h1,ak (HX.out.grownBy _) h2⟩
end
section
open Go.RowKit
theorem xk (s:List UInt8):s=[124,124]\/s=[38,38]\/s=[61,61]\/s=[33,61]\/s=[60]\/s=[60,61]\/s=[62]\/s=[62,61]\/s=[43]\/s=[45]\/s=[42]\/s=[47]\/s=[37]\/
  (((s==[124,124])=false/\(s==[38,38])=false/\(s==[61,61])=false/\(s==[33,61])=false/\(s==[60])=false/\(s==[60,61])=false/\(s==[62])=false/\(s==[62,61])=false/\(s==[43])=false/\(s==[45])=false/\(s==[42])=false/\(s==[47])=false/\(s==[37])=false)/\ky s=0):=by
 by_cases h1:s=[124,124]
 ·exact .inl h1
 by_cases h2:s=[38,38]
 ·exact(.inr (.inl h2))
 by_cases h3:s=[61,61]
 ·exact(.inr (.inr (.inl h3)))
 by_cases h4:s=[33,61]
 ·exact(.inr (.inr (.inr (.inl h4))))
 by_cases h5:s=[60]
 ·exact(.inr (.inr (.inr (.inr (.inl h5)))))
 by_cases h6:s=[60,61]
 ·exact(.inr (.inr (.inr (.inr (.inr (.inl h6))))))
 by_cases h7:s=[62]
 ·exact(.inr (.inr (.inr (.inr (.inr (.inr (.inl h7)))))))
 by_cases h8:s=[62,61]
 ·exact(.inr (.inr (.inr (.inr (.inr (.inr (.inr (.inl h8))))))))
 by_cases h9:s=[43]
 ·exact(.inr (.inr (.inr (.inr (.inr (.inr (.inr (.inr (.inl h9)))))))))
 by_cases h10:s=[45]
 ·exact(.inr (.inr (.inr (.inr (.inr (.inr (.inr (.inr (.inr (.inl h10))))))))))
 by_cases h11:s=[42]
 ·exact(.inr (.inr (.inr (.inr (.inr (.inr (.inr (.inr (.inr (.inr (.inl h11)))))))))))
 by_cases h12:s=[47]
 ·exact(.inr (.inr (.inr (.inr (.inr (.inr (.inr (.inr (.inr (.inr (.inr (.inl h12))))))))))))
 by_cases h13:s=[37]
 ·exact(.inr (.inr (.inr (.inr (.inr (.inr (.inr (.inr (.inr (.inr (.inr (.inr (.inl h13)))))))))))))
 refine(.inr (.inr (.inr (.inr (.inr (.inr (.inr (.inr (.inr (.inr (.inr (.inr (.inr ⟨⟨beq_eq_false_iff_ne.2 h1,beq_eq_false_iff_ne.2 h2,beq_eq_false_iff_ne.2 h3,beq_eq_false_iff_ne.2 h4,beq_eq_false_iff_ne.2 h5,beq_eq_false_iff_ne.2 h6,beq_eq_false_iff_ne.2 h7,beq_eq_false_iff_ne.2 h8,beq_eq_false_iff_ne.2 h9,beq_eq_false_iff_ne.2 h10,beq_eq_false_iff_ne.2 h11,beq_eq_false_iff_ne.2 h12,beq_eq_false_iff_ne.2 h13⟩,?_⟩)))))))))))));unfold ky;rw[if_neg h1,if_neg h2,if_neg h3,if_neg h4,if_neg h5,if_neg h6,if_neg h7,if_neg h8,if_neg h9,if_neg h10,if_neg h11,if_neg h12,if_neg h13]
theorem kr (s:List UInt8) (w:World):Calls prog 153 #[.string (ah s)] w fun e w'=>e= .returned (.int .i64 (ky s))/\w=w':=by
 rcases xk s with rfl|rfl|rfl|rfl|rfl|rfl|rfl|rfl|rfl|rfl|rfl|rfl|rfl|⟨⟨e1,e2,e3,e4,e5,e6,e7,e8,e9,e10,e11,e12,e13⟩,hz⟩
 all_goals
  go_enter func153,ntmps153;go_wp2_with fail;go_ret;refine⟨?_,rfl⟩;first|exact congrArg (fun n=>Ending.returned (.int .i64 n)) hz.symm|rfl|(simp[ky];done)
theorem cS (b:Nat): ∀(vs:List Value) (o:Nat) (w:World),w.grownBy (w.setCells b o vs) (some b)
 | [],o,w=>⟨rfl,rfl,rfl,ag _,fun _ _ _=>rfl⟩
 |v::r,o,w=>ak (show w.grownBy (w.setCell ⟨b,o,none⟩ v) (some b)from⟨rfl,rfl,rfl,by simp[World.setCell],fun k _ hk=>Below.heap_setCell w ⟨b,o,none⟩ v k (fun e=>hk (by rw[e]))⟩) (cS b r (o+1) _)
theorem dq {w0 w w':World} {g k:Nat} (h:w0.grownBy w (some g)) (h':w.grownBy w' (some k)) (hk:w0.heap.size<=k):w0.grownBy w' (some g):=
 ⟨h'.os.trans h.os,h'.tape.trans h.tape,h'.output.trans h.output,aT h.size h'.size,fun i hi hn=>(h'.block i (az hi h.size) (fun e=>by injection e with e;omega)).trans (h.block i hi hn)⟩
theorem aQ.put6 {w:World} {g:Nat} {t:TypeId} {x0 x1 x2 x3 x4 x5:Value} (h:aQ w g t #[x0,x1,x2,x3,x4,x5]) (a b c d e f:Value):aQ (w.setCells g 0 [a,b,c,d,e,f]) g t #[a,b,c,d,e,f]:=by
 have:=(((((h.set 0 a).set 1 b).set 2 c).set 3 d).set 4 e).set 5 f;simpa[World.setCells]using this
theorem aQ.put5' {w:World} {g:Nat} {t:TypeId} {x0 x1 x2 x3 x4:Value} (h:aQ w g t #[x0,x1,x2,x3,x4]) (a b c d e:Value):aQ (w.setCells g 0 [a,b,c,d,e]) g t #[a,b,c,d,e]:=by
 have:=((((h.set 0 a).set 1 b).set 2 c).set 3 d).set 4 e;simpa[World.setCells]using this
def oA (g:Nat) (en:Int) (w:World) (r:PR Ex) (e:Ending) (w':World):Prop:=
 w.grownBy w' (some g)/\match r with
 | .ok (x,q)=> ∃A n c,e= .returned (.agg #[.int .i64 x.k, .string (ah x.op), .string (ah x.nm), .string (ah x.tx), .int .i64 x.v, .slice A n c])/\cu w' (fun b=>w.heap.size<=b) (.slice A n c) x.args/\PA w' g q en
 | .error (q,n)=>e=aZ en q n
def eA (f:Nat):Prop:= ∀(n:Int) (l:List bK) (en:Int) (w:World) (g:Nat),PA w g l en->1<=n->n<=7->4*l.length+2<=f->Calls prog 183 #[.pointer (some ⟨g,0,none⟩), .int .i64 n] w (oA g en w (bN f n l))
def pk (f:Nat):Prop:= ∀(l:List bK) (en:Int) (w:World) (g:Nat),PA w g l en->4*l.length+1<=f->Calls prog 205 #[.pointer (some ⟨g,0,none⟩)] w (oA g en w (cE f l))
def ib (f:Nat):Prop:= ∀(nm:List UInt8) (l:List bK) (en:Int) (w:World) (g:Nat),PA w g l en->4*l.length+1<=f->Calls prog 206 #[.pointer (some ⟨g,0,none⟩), .string (ah nm)] w (oA g en w (cj f nm l))
def iD:=@cu.one
def oq:=@aQ.put6
def pp:=@f9.nil_
end
end Go.Proofs.YtddomeddabfinaaGreatDoor
