/-
  Parts of the proof: PlLexQ PlLexU ParH ParI SeqP ParJ ParK ParL ParM SeqR ParN.
-/
import Derived.BigQuiet
import Derived.Test.YtoedmpgicdekmaaGreatDoorCq04
import Derived.Maps.AppendAt
import Derived.Test.YtoedmpgicdekmaaGreatDoorCq00
import Derived.Test.YtoedmpgicdekmaaGreatDoorCq01
import Derived.WalkLawsBesides
set_option maxRecDepth 100000
set_option maxHeartbeats 8000000
set_option linter.unusedVariables false
set_option linter.unusedSimpArgs false
set_option linter.unusedSectionVars false
namespace Go.Proofs.YtoedmpgicdekmaaGreatDoor
open Go.Proofs.Tryz
section
open Go.RowKit
theorem iW: ∀(ts:List dW) (i:Nat) (h:i<ts.length) (k:Nat),k<4->(j8 ts)[i*4+k]? =(fN ts[i])[k]?
 |t::ts,0,h,k,hk=>by
  show(fN t++j8 ts)[0*4+k]? =(fN t)[k]?;rw[aV,be,aX (by simpa[fN]using hk)]
 |t::ts,i+1,h,k,hk=>by
  have h':i<ts.length:=by simpa using h
  show(fN t++j8 ts)[(i+1)*4+k]? =(fN ts[i])[k]?;rw[bx (by simp[fN];omega),<-iW ts i h' k hk]
  congr 1
  simp[fN];omega
structure xr (w:World) (A:Option Addr) (cap:Nat) (ts:List dW):Prop where
 le:ts.length<=cap
 max:cap<=maxLen
 rd:ts=[]\/ ∃b off,A=some ⟨b,off,none⟩/\b<w.heap.size/\ ∀i,(h:i<ts.length)->w.cell? ⟨b,off+i*4,none⟩=some (.int .i64 ts[i].k)/\w.cell? ⟨b,off+i*4+1,none⟩=some (.string (an ts[i].t))/\
  w.cell? ⟨b,off+i*4+2,none⟩=some (.int .i64 ts[i].v)/\w.cell? ⟨b,off+i*4+3,none⟩=some (.int .i64 ts[i].f)
theorem xr.ext {w w':World} {A:Option Addr} {cap:Nat} {ts:List dW} (h:xr w A cap ts) (he:au w w'):xr w' A cap ts:=
 ⟨h.le,h.max,h.rd.imp id fun⟨b,off,ha,hb,hc⟩=>⟨b,off,ha,aA hb he.size,fun i hi=>
  let⟨h1,h2,h3,h4⟩:=hc i hi;⟨(he.cell b _ hb).trans h1,(he.cell b _ hb).trans h2,(he.cell b _ hb).trans h3,(he.cell b _ hb).trans h4⟩⟩⟩
theorem xr.at_ {w:World} {A:Option Addr} {cap:Nat} {ts:List dW} (h:xr w A cap ts) (i:Nat) (hi:i<ts.length):
  ∃b off,A=some ⟨b,off,none⟩/\b<w.heap.size/\w.cell? ⟨b,off+i*4,none⟩=some (.int .i64 ts[i].k)/\w.cell? ⟨b,off+i*4+1,none⟩=some (.string (an ts[i].t))/\
  w.cell? ⟨b,off+i*4+2,none⟩=some (.int .i64 ts[i].v)/\w.cell? ⟨b,off+i*4+3,none⟩=some (.int .i64 ts[i].f):=by
 rcases h.rd with h0|⟨b,off,ha,hb,hc⟩
 ·subst h0;simp at hi
 ·exact⟨b,off,ha,hb,hc i hi⟩
theorem gK.tks {w:World} {base:Nat} {e:TypeId} {A:Option Addr} {n cap:Nat} {ts:List dW} (h:gK w base e (.slice A n cap) ts):n=ts.length/\xr w A cap ts:=by
 rcases h.2 with⟨hv,hn⟩|⟨g,c,cur,hv,hb,hg,hnc,hcm,hcs,ht⟩
 ·injection hv with a1 a2 a3;subst a1 a2 a3;have:ts=[]:=aS hn;subst this;exact⟨rfl,by simp,by simp[maxLen], .inl rfl⟩
 ·injection hv with a1 a2 a3;subst a1 a2 a3;refine⟨rfl,hnc,hcm, .inr ⟨g,0,rfl,(Array.getElem?_eq_some_iff.1 hg).1,fun i hi=> ?_⟩⟩;have cell: ∀j y,(j8 ts)[j]? =some y->w.cell? ⟨g,j,none⟩=some y:=fun j y hy=>by
   rw[cell_of_row w g j cur e (0,0) hg];rw[<-ht,bZ]at hy;split at hy
   ·simpa using hy
   ·cases hy
  have g0:=iW ts i hi 0 (by omega);have g1:=iW ts i hi 1 (by omega);have g2:=iW ts i hi 2 (by omega);have g3:=iW ts i hi 3 (by omega);rw[be];exact⟨cell _ _ g0,cell _ _ g1,cell _ _ g2,cell _ _ g3⟩
end
section
open Go.RowKit
theorem tD (l:List UInt8) (w:World) (hz:EZ w):Calls prog 46 #[.string (an l)] w fun e w'=>vE 188 w.heap.size (kU l) e w'/\au w w':=by
 by_cases hl:l.length<=100000
 ·exact tC l hl w hz
 ·have hsz:(an l).size=l.length:=aU l;have HRb:=G (pH l);have hbig:4000<l.length:=by omega
  have hbig':(4000:Int)<l.length:=by omega
  go_enter func46,ntmps46;go_wp2_with fail;exact bodyPost_ret (v:= .tuple #[.slice none 0 0, .int .i64 4000, .int .i64 6]) (by simp[results,results46,go_sem]) rfl ⟨by rw[HRb.out hbig];exact⟨none,0,rfl,gK.nil_ _ _ _⟩,aG _⟩
end
section
open Go.RowKit
inductive et (w:World) (P:Nat->Prop):Value->List Ex->Prop where
 |nil (A:Option Addr) (c:Nat):et w P (.slice A 0 c) []
 |row (b o n c:Nat) (xs:List Ex) (av:Nat->Value) (hP:P b) (hb:b<w.heap.size) (hn:xs.length=n) (hnc:n<=c) (hm:c<=maxLen)
   (hc: ∀i,(h:i<xs.length)->w.cell? ⟨b,o+i*6,none⟩=some (.int .i64 xs[i].k)/\w.cell? ⟨b,o+i*6+1,none⟩=some (.string (an xs[i].op))/\w.cell? ⟨b,o+i*6+2,none⟩=some (.string (an xs[i].nm))/\
    w.cell? ⟨b,o+i*6+3,none⟩=some (.string (an xs[i].tx))/\w.cell? ⟨b,o+i*6+4,none⟩=some (.int .i64 xs[i].v)/\w.cell? ⟨b,o+i*6+5,none⟩=some (av i))
   (hs: ∀i,(h:i<xs.length)->et w P (av i) (Ex.args xs[i])):et w P (.slice (some ⟨b,o,none⟩) n c) xs
structure dm (P:Nat->Prop) (w w':World):Prop where
 size:w.heap.size<=w'.heap.size
 block: ∀b,P b->b<w.heap.size->w'.heap[b]? =w.heap[b]?
theorem dm.cell {P:Nat->Prop} {w w':World} (h:dm P w w') {b:Nat} (o:Nat) (hP:P b) (hb:b<w.heap.size):w'.cell? ⟨b,o,none⟩=w.cell? ⟨b,o,none⟩:=
 World.cell?_of_block (w:=w) (a:=⟨b,o,none⟩) (h.block b hP hb)
theorem dm.of_grown {P:Nat->Prop} {w w':World} {row:Option Nat} (h:w.grownBy w' row) (hr: ∀b,P b->some b≠row):dm P w w':=⟨h.size,fun b hP hb=>h.block b hb (hr b hP)⟩
theorem dm.of_ext {P:Nat->Prop} {w w':World} (h:au w w'):dm P w w':=⟨h.size,fun b _ hb=>h.obj hb⟩
theorem et.keep {w w':World} {P Q:Nat->Prop} {v:Value} {xs:List Ex} (h:et w P v xs) (hk:dm P w w') (hQ: ∀b,P b->b<w.heap.size->Q b):et w' Q v xs:=by
 induction h with
 |nil A c=>exact .nil A c
 |row b o n c xs av hP hb hn hnc hm hc hs ih=>
  refine .row b o n c xs av (hQ b hP hb) (aA hb hk.size) hn hnc hm (fun i hi=> ?_) ih;obtain⟨h0,h1,h2,h3,h4,h5⟩:=hc i hi;exact⟨(hk.cell _ hP hb).trans h0,(hk.cell _ hP hb).trans h1,(hk.cell _ hP hb).trans h2,(hk.cell _ hP hb).trans h3,(hk.cell _ hP hb).trans h4,(hk.cell _ hP hb).trans h5⟩
theorem et.mono {w:World} {P Q:Nat->Prop} {v:Value} {xs:List Ex} (h:et w P v xs) (hQ: ∀b,P b->b<w.heap.size->Q b):et w Q v xs:=h.keep ⟨ah _,fun _ _ _=>rfl⟩ hQ
theorem et.form {w:World} {P:Nat->Prop} {v:Value} {xs:List Ex} (h:et w P v xs): ∃A c,v= .slice A xs.length c/\(xs=[]\/xs.length<=c/\c<=maxLen/\ ∃b o,A=some ⟨b,o,none⟩/\b<w.heap.size):=by
 cases h with
 |nil A c=>exact⟨A,c,rfl, .inl rfl⟩
 |row b o n c xs av hP hb hn hnc hm hc hs=>exact⟨_,c,by rw[hn], .inr ⟨by omega,hm,b,o,rfl,hb⟩⟩
theorem et.at_ {w:World} {P:Nat->Prop} {A:Option Addr} {n c:Nat} {xs:List Ex} (h:et w P (.slice A n c) xs) (i:Nat) (hi:i<xs.length):
  ∃b o a,A=some ⟨b,o,none⟩/\b<w.heap.size/\P b/\w.cell? ⟨b,o+i*6,none⟩=some (.int .i64 xs[i].k)/\w.cell? ⟨b,o+i*6+1,none⟩=some (.string (an xs[i].op))/\w.cell? ⟨b,o+i*6+2,none⟩=some (.string (an xs[i].nm))/\
   w.cell? ⟨b,o+i*6+3,none⟩=some (.string (an xs[i].tx))/\w.cell? ⟨b,o+i*6+4,none⟩=some (.int .i64 xs[i].v)/\w.cell? ⟨b,o+i*6+5,none⟩=some a/\et w P a (Ex.args xs[i]):=by
 cases h with
 |nil=>simp at hi
 |row b o n c xs av hP hb hn hnc hm hc hs=>
  obtain⟨h0,h1,h2,h3,h4,h5⟩:=hc i hi;exact⟨b,o,av i,rfl,hb,hP,h0,h1,h2,h3,h4,h5,hs i hi⟩
theorem et.one {w:World} {P:Nat->Prop} {gb:Nat} {e:TypeId} {x:Ex} {a:Value} (hB:aP w gb e #[.int .i64 x.k, .string (an x.op), .string (an x.nm), .string (an x.tx), .int .i64 x.v,a]) (hP:P gb) (h:et w P a x.args):et w P (.slice (some ⟨gb,0,none⟩) 1 1) [x]:=by
 refine .row gb 0 1 1 [x] (fun _=>a) hP hB.lt rfl (ah _) (by simp[maxLen]) (fun i hi=> ?_) (fun i hi=> ?_)
 ·have hi:i=0:=by simpa using hi
  subst hi;exact⟨hB.cell 0,hB.cell 1,hB.cell 2,hB.cell 3,hB.cell 4,hB.cell 5⟩
 ·have hi:i=0:=by simpa using hi
  subst hi;exact h
structure mc (P:Program) (t e:TypeId) (size bytes:Nat) (z:Value):Prop where
 under:P.underlying t=some (.slice e)
 info:(P.info? e).map (fun i=>(i.zero,i.size,i.bytes))=some (some z,size,bytes)
 cells:z.cells.size=size
 pos:0<size
theorem rY {P:Program} {w:World} {t e:TypeId} {size bytes:Nat} {z:Value} (hT:mc P t e size bytes z) (ty:TypeId) (base:Nat) (v:Value) (n:Nat) (xs:List Value) (hown:w.ownsRow base e size v n xs) (g:Nat) (news:List Value)
  (hg:w.heap[g]? =some (.cells news.toArray e (0,0))) (hl:news.length=size) (h1: ∀u∈news,u.oneCell'=true) (hb:n<=1073741824) (hy:bytes<=1000) (hbase:base<=w.heap.size):
  ∃A' cap' w',(Builtin.append_ #[t,t] ty #[v, .slice (some ⟨g,0,none⟩) 1 1]).run P w= .ok (.slice (some ⟨A',0,none⟩) (n+1) cap') w'/\w'.ownsRow base e size (.slice (some ⟨A',0,none⟩) (n+1) cap') (n+1) (xs++news)/\w.grownBy w' v.ownBlock/\
   (some A'=v.ownBlock\/A'=w.heap.size):=by
 obtain⟨i,hi,hz,hz1,hz2⟩:=info_parts hT.info;obtain⟨v',w',hr,h2,h3,_,h5⟩:=run_append_own_at (P:=P) w base t ty e i z size bytes hT.under hi hz hz1 hz2 hT.cells hT.pos v n xs hown ⟨g,0,none⟩ 1 1 news (by rw[hl,cD])
  (fun j y hj=>by
   rw[Addr.add_lit,be,cell_of_row w g j _ e (0,0) hg];simpa using hj) h1 (by simp only[maxLen];omega) (by
    have:(n+1)*bytes<=(n+1)*1000:=fE _ hy
    omega) hbase
 rcases h2.2 with⟨_,h0⟩|⟨g',cap',cur,rfl,hx⟩
 ·omega
 ·refine⟨g',cap',w',hr,h2,h3,?_⟩;rcases h5 with h5|h5
  ·exact .inl h5
  ·exact .inr (ai h5)
theorem fd {P:Program} {w:World} {ops:Array Oper} {rest:List Oper} {o:Oper} {a:Act} {Q:Exit->Act->World->Prop} {t e:TypeId} {size bytes:Nat} {z:Value} (hT:mc P t e size bytes z) (hgd:o.guard=none) (s x:Operand)
  (ho:o.op= .call {callee:= .builtin .append,args:= #[s,x],argTypes:= #[t,t]}) (base:Nat) (v:Value) (n:Nat) (xs:List Value) (hv:a.eval s=v) (hown:w.ownsRow base e size v n xs)
  (g:Nat) (news:List Value) (hx:a.eval x= .slice (some ⟨g,0,none⟩) 1 1) (hg:w.heap[g]? =some (.cells news.toArray e (0,0))) (hl:news.length=size) (h1: ∀u∈news,u.oneCell'=true) (hb:n<=1073741824) (hy:bytes<=1000) (hbase:base<=w.heap.size)
  (h: ∀A' cap' w',w'.ownsRow base e size (.slice (some ⟨A',0,none⟩) (n+1) cap') (n+1) (xs++news)->w.grownBy w' v.ownBlock->(some A'=v.ownBlock\/A'=w.heap.size)->
   wpList P ops Q rest (a.put o.dst (.slice (some ⟨A',0,none⟩) (n+1) cap')) w'):
  wpList P ops Q (o::rest) a w:=by
 obtain⟨A',cap',w',hr,h1,h2,h3⟩:=rY (P:=P) (w:=w) hT o.type base v n xs hown g news hg hl h1 hb hy hbase;refine wpList_plain hgd fun K hK=> ?_;unfold Oper.wp execOp;simp only[ho,resolve,invoke,builtin,Sem.run_bind,Sem.run_pure,Result.andThen_ok,cU,bS,db,hv,hx,hr];exact hK _ _ (h A' cap' w' h1 h2 h3)
theorem AF {P:Program} {w:World} {o:Oper} {a:Act} {K:Act->World->Prop} {Q:Exit->Act->World->Prop} {t e:TypeId} {size bytes:Nat} {z:Value} (hT:mc P t e size bytes z) (s x:Operand)
  (ho:o.op= .call {callee:= .builtin .append,args:= #[s,x],argTypes:= #[t,t]}) (base:Nat) (v:Value) (n:Nat) (xs:List Value) (hv:a.eval s=v) (hown:w.ownsRow base e size v n xs)
  (g:Nat) (news:List Value) (hx:a.eval x= .slice (some ⟨g,0,none⟩) 1 1) (hg:w.heap[g]? =some (.cells news.toArray e (0,0))) (hl:news.length=size) (h1: ∀u∈news,u.oneCell'=true) (hb:n<=1073741824) (hy:bytes<=1000) (hbase:base<=w.heap.size)
  (h: ∀A' cap' w',w'.ownsRow base e size (.slice (some ⟨A',0,none⟩) (n+1) cap') (n+1) (xs++news)->w.grownBy w' v.ownBlock->(some A'=v.ownBlock\/A'=w.heap.size)->
   K (a.put o.dst (.slice (some ⟨A',0,none⟩) (n+1) cap')) w'):
  o.wp P a w K Q:=by
 obtain⟨A',cap',w',hr,h1,h2,h3⟩:=rY (P:=P) (w:=w) hT o.type base v n xs hown g news hg hl h1 hb hy hbase;unfold Oper.wp execOp;simp only[ho,resolve,invoke,builtin,Sem.run_bind,Sem.run_pure,Result.andThen_ok,cU,bS,db,hv,hx,hr];exact h A' cap' w' h1 h2 h3
end
section
open Go.RowKit
inductive dS (w:World) (P:Nat->Prop):Value->List St->Prop where
 |nil (A:Option Addr) (c:Nat):dS w P (.slice A 0 c) []
 |row (b o n c:Nat) (xs:List St) (es bs ls:Nat->Value) (hP:P b) (hb:b<w.heap.size) (hn:xs.length=n) (hnc:n<=c) (hm:c<=maxLen)
   (hc: ∀i,(h:i<xs.length)->w.cell? ⟨b,o+i*5,none⟩=some (.int .i64 xs[i].k)/\w.cell? ⟨b,o+i*5+1,none⟩=some (.string (an xs[i].nm))/\w.cell? ⟨b,o+i*5+2,none⟩=some (es i)/\
    w.cell? ⟨b,o+i*5+3,none⟩=some (bs i)/\w.cell? ⟨b,o+i*5+4,none⟩=some (ls i))
   (he: ∀i,(h:i<xs.length)->et w P (es i) (St.ex xs[i]))
   (hs: ∀i,(h:i<xs.length)->dS w P (bs i) (St.body xs[i]))
   (hl: ∀i,(h:i<xs.length)->dS w P (ls i) (St.els xs[i])):dS w P (.slice (some ⟨b,o,none⟩) n c) xs
theorem dS.keep {w w':World} {P Q:Nat->Prop} {v:Value} {xs:List St} (h:dS w P v xs) (hk:dm P w w') (hQ: ∀b,P b->b<w.heap.size->Q b):dS w' Q v xs:=by
 induction h with
 |nil A c=>exact .nil A c
 |row b o n c xs es bs ls hP hb hn hnc hm hc he hs hl ih1 ih2=>
  refine .row b o n c xs es bs ls (hQ b hP hb) (aA hb hk.size) hn hnc hm (fun i hi=> ?_) (fun i hi=>(he i hi).keep hk hQ) ih1 ih2;obtain⟨h0,h1,h2,h3,h4⟩:=hc i hi;exact⟨(hk.cell _ hP hb).trans h0,(hk.cell _ hP hb).trans h1,(hk.cell _ hP hb).trans h2,(hk.cell _ hP hb).trans h3,(hk.cell _ hP hb).trans h4⟩
theorem dS.mono {w:World} {P Q:Nat->Prop} {v:Value} {xs:List St} (h:dS w P v xs) (hQ: ∀b,P b->b<w.heap.size->Q b):dS w Q v xs:=h.keep ⟨ah _,fun _ _ _=>rfl⟩ hQ
theorem dS.form {w:World} {P:Nat->Prop} {v:Value} {xs:List St} (h:dS w P v xs): ∃A c,v= .slice A xs.length c/\(xs=[]\/xs.length<=c/\c<=maxLen/\ ∃b o,A=some ⟨b,o,none⟩/\b<w.heap.size):=by
 cases h with
 |nil A c=>exact⟨A,c,rfl, .inl rfl⟩
 |row b o n c xs es bs ls hP hb hn hnc hm hc he hs hl=>exact⟨_,c,by rw[hn], .inr ⟨by omega,hm,b,o,rfl,hb⟩⟩
theorem dS.at_ {w:World} {P:Nat->Prop} {A:Option Addr} {n c:Nat} {xs:List St} (h:dS w P (.slice A n c) xs) (i:Nat) (hi:i<xs.length):
  ∃b o u v z,A=some ⟨b,o,none⟩/\b<w.heap.size/\P b/\w.cell? ⟨b,o+i*5,none⟩=some (.int .i64 xs[i].k)/\w.cell? ⟨b,o+i*5+1,none⟩=some (.string (an xs[i].nm))/\w.cell? ⟨b,o+i*5+2,none⟩=some u/\
   w.cell? ⟨b,o+i*5+3,none⟩=some v/\w.cell? ⟨b,o+i*5+4,none⟩=some z/\et w P u (St.ex xs[i])/\dS w P v (St.body xs[i])/\dS w P z (St.els xs[i]):=by
 cases h with
 |nil=>simp at hi
 |row b o n c xs es bs ls hP hb hn hnc hm hc he hs hl=>
  obtain⟨h0,h1,h2,h3,h4⟩:=hc i hi;exact⟨b,o,es i,bs i,ls i,rfl,hb,hP,h0,h1,h2,h3,h4,he i hi,hs i hi,hl i hi⟩
structure SV where
 s:St
 e:Value
 b:Value
 l:Value
def xw (p:SV):List Value:=[.int .i64 p.s.k, .string (an p.s.nm),p.e,p.b,p.l]
def ek (l:List SV):List Value:=l.flatMap xw
theorem ju: ∀l:List SV,(ek l).length=l.length*5
 | []=>rfl
 |p::l=>by
  have:=ju l;simp only[ek,br,ab,xw,ae,ag]at this⊢;omega
theorem pO (a b:List SV):ek (a++b)=ek a++ek b:=by simp[ek]
theorem kz: ∀(l:List SV) (i:Nat) (h:i<l.length) (k:Nat),k<5->(ek l)[i*5+k]? =(xw l[i])[k]?
 | [],i,h,k,hk=>by simp at h
 |p::l,0,h,k,hk=>by
  simp only[ek,br,aV,be,aE];rw[aX (by simp[xw];omega)]
 |p::l,i+1,h,k,hk=>by
  have:=kz l i (by simpa using h) k hk;simp only[ek,br,aL]at this⊢;rw[bx (by simp[xw];omega),<-this]
  congr 1
  simp[xw];omega
def SV.ok (w:World) (P:Nat->Prop) (p:SV):Prop:=et w P p.e p.s.ex/\dS w P p.b p.s.body/\dS w P p.l p.s.els
theorem SV.ok.keep {w w':World} {P Q:Nat->Prop} {p:SV} (h:p.ok w P) (hk:dm P w w') (hQ: ∀b,P b->b<w.heap.size->Q b):p.ok w' Q:=⟨h.1.keep hk hQ,h.2.1.keep hk hQ,h.2.2.keep hk hQ⟩
def iu (w:World) (base:Nat) (e:TypeId) (v:Value) (l:List SV):Prop:=
 w.ownsRow base e 5 v l.length (ek l)/\ ∀p,p∈l->p.ok w (fun b=>base<=b/\some b≠v.ownBlock)
theorem iu.nil_ (w:World) (base:Nat) (e:TypeId):iu w base e (.slice none 0 0) []:=⟨World.ownsRow_nil w base e 5,fun p hp=>by cases hp⟩
theorem iu.grown {w w':World} {base:Nat} {e:TypeId} {v:Value} {l:List SV} {row:Option Nat} (h:iu w base e v l) (hg:w.grownBy w' row) (hr: ∀k,row=some k->k<base):iu w' base e v l:=by
 refine⟨World.ownsRow.kept h.1 hg ?_,fun p hp=> ?_⟩
 ·cases hv:v.ownBlock with
  |none=>exact .inl rfl
  |some k=>
   refine .inr fun e=> ?_;have:=(World.ownsRow.lt h.1 k hv).1;have:=hr k e.symm;omega
 ·exact(h.2 p hp).keep (.of_grown hg fun b hb e=>by have:=hr b e.symm;omega) fun b hb _=>hb
theorem iu.ext {w w':World} {base:Nat} {e:TypeId} {v:Value} {l:List SV} (h:iu w base e v l) (he:au w w'):iu w' base e v l:=h.grown (he.grownBy none) (fun k hk=>by cases hk)
theorem iu.rd {w:World} {base:Nat} {e:TypeId} {v:Value} {l:List SV} (h:iu w base e v l):dS w (fun b=>base<=b) v (l.map (·.s)):=by
 rcases h.1.2 with⟨rfl,h0⟩|⟨g,cap,cur,rfl,hb,hg,hnc,hcm,hcs,ht⟩
 ·have:l=[]:=aS h0;subst this;exact .nil _ _
 ·have hlt:g<w.heap.size:=(Array.getElem?_eq_some_iff.1 hg).1;have cell: ∀j y,(ek l)[j]? =some y->w.cell? ⟨g,j,none⟩=some y:=fun j y hy=>by
   rw[cell_of_row w g j cur e (0,0) hg];rw[<-ht,bZ]at hy;split at hy
   ·simpa using hy
   ·cases hy
  have ok: ∀i (hi:i<l.length),SV.ok w (fun b=>base<=b) l[i]:=fun i hi=>(h.2 l[i] (ap hi)).keep ⟨ah _,fun _ _ _=>rfl⟩ fun b hb _=>hb.1;refine .row g 0 l.length cap _ (fun i=>if h:i<l.length then l[i].e else .slice none 0 0) (fun i=>if h:i<l.length then l[i].b else .slice none 0 0) (fun i=>if h:i<l.length then l[i].l else .slice none 0 0) hb hlt (by simp) hnc hcm (fun i hi=> ?_) (fun i hi=> ?_) (fun i hi=> ?_) (fun i hi=> ?_)
  ·have hi':i<l.length:=by simpa using hi
   have q:=fun k hk=>kz l i hi' k hk;have e0:(l.map (·.s))[i]=l[i].s:=by simp
   rw[e0,dif_pos hi',dif_pos hi',dif_pos hi',be];exact⟨cell _ _ (q 0 (by omega)),cell _ _ (q 1 (by omega)),cell _ _ (q 2 (by omega)),cell _ _ (q 3 (by omega)),cell _ _ (q 4 (by omega))⟩
  all_goals
   have hi':i<l.length:=by simpa using hi
   have e0:(l.map (·.s))[i]=l[i].s:=by simp
   rw[e0,dif_pos hi']
  ·exact(ok i hi').1
  ·exact(ok i hi').2.1
  ·exact(ok i hi').2.2
theorem iu.snoc {w w':World} {base:Nat} {e:TypeId} {v:Value} {l:List SV} {p:SV} {A cap:Nat} (h:iu w base e v l) (ha:p.ok w (fun b=>base<=b/\some b≠v.ownBlock))
  (hn:w'.ownsRow base e 5 (.slice (some ⟨A,0,none⟩) (l.length+1) cap) (l.length+1) (ek l++xw p)) (hg:w.grownBy w' v.ownBlock) (hA:some A=v.ownBlock\/A=w.heap.size):
  iu w' base e (.slice (some ⟨A,0,none⟩) (l.length+1) cap) (l++[p]):=by
 have hk:dm (fun b=>base<=b/\some b≠v.ownBlock) w w':= .of_grown hg fun b hb=>hb.2;have hq: ∀b,(base<=b/\some b≠v.ownBlock)->b<w.heap.size->(base<=b/\some b≠Value.ownBlock (.slice (some ⟨A,0,none⟩) (l.length+1) cap)):=fun b hb hlt=>by
  refine⟨hb.1,fun e=> ?_⟩;have e:b=A:=ai e;rcases hA with hA|hA
  ·exact hb.2 (by rw[e,hA])
  ·omega
 refine⟨by rw[ab,pO];simpa[ek]using hn,fun q hp=> ?_⟩;rcases List.mem_append.1 hp with hp|hp
 ·exact(h.2 q hp).keep hk hq
 ·rw[dw]at hp;subst hp;exact ha.keep hk hq
end
section
open Go.RowKit
def PA (w:World) (g:Nat) (l:List dW) (en:Int):Prop:=
 ∃A c,aP w g 124 #[.slice A l.length c, .int .i64 en]/\xr w A c l/\ ∀b off,A=some ⟨b,off,none⟩->l≠ []->b<g
theorem PA.lt {w:World} {g:Nat} {l:List dW} {en:Int} (h:PA w g l en):g<w.heap.size:=let⟨_,_,hb,_⟩:=h;hb.lt
theorem PA.ext {w w':World} {g:Nat} {l:List dW} {en:Int} (h:PA w g l en) (he:au w w'):PA w' g l en:=let⟨A,c,hb,ht,hn⟩:=h;⟨A,c,hb.ext he,ht.ext he,hn⟩
theorem PA.grown {w w':World} {g:Nat} {l:List dW} {en:Int} {row:Option Nat} (h:PA w g l en) (hg:w.grownBy w' row) (h1: ∀k,row=some k->g<k):PA w' g l en:=by
 obtain⟨A,c,hb,ht,hn⟩:=h;refine⟨A,c,(hg.block g hb.lt (fun e=>by have:=h1 g e.symm;omega)).trans hb,⟨ht.le,ht.max,?_⟩,hn⟩;by_cases hl:l=[]
 ·exact .inl hl
 rcases ht.rd with h0|⟨b,off,ha,hlt,hc⟩
 ·exact absurd h0 hl
 ·have hbg:=hn b off ha hl;have hbk:=hg.block b hlt (fun e=>by have:=h1 b e.symm;omega);have cc: ∀o,w'.cell? ⟨b,o,none⟩=w.cell? ⟨b,o,none⟩:=fun o=>World.cell?_of_block (w:=w) (a:=⟨b,o,none⟩) hbk;exact .inr ⟨b,off,ha,aA hlt hg.size,fun i hi=>let⟨q0,q1,q2,q3⟩:=hc i hi;⟨(cc _).trans q0,(cc _).trans q1,(cc _).trans q2,(cc _).trans q3⟩⟩
theorem PA.next {w:World} {g:Nat} {t:dW} {r:List dW} {en:Int} {b off c:Nat} (hb:aP w g 124 #[.slice (some ⟨b,off,none⟩) (t::r).length c, .int .i64 en]) (ht:xr w (some ⟨b,off,none⟩) c (t::r)) (hn:b<g) (hlt:b<w.heap.size)
  (off' c':Nat) (h:(c=1/\off'=off/\c'=0)\/(¬c=1/\off'=off+4/\c'=c-1)):PA (w.setCell ⟨g,0,none⟩ (.slice (some ⟨b,off',none⟩) r.length c')) g r en/\w.grownBy (w.setCell ⟨g,0,none⟩ (.slice (some ⟨b,off',none⟩) r.length c')) (some g):=by
 have hle:=ht.le;have hmx:=ht.max;simp only[ae]at hle;refine⟨⟨_,c',hb.set 0 _,⟨by omega,by omega,?_⟩,fun b' o' e _=> ?_⟩,⟨rfl,rfl,rfl,by simp[World.setCell],fun k _ hk=>Below.heap_setCell w _ _ k (fun e=>hk (by rw[e]))⟩⟩
 ·rcases h with⟨h1,_,_⟩|⟨_,rfl,_⟩
  ·exact .inl (aS (by omega))
  ·refine .inr ⟨b,off+4,rfl,by simpa[World.setCell]using hlt,fun i hi=> ?_⟩;obtain⟨b2,o2,e2,_,q0,q1,q2,q3⟩:=ht.at_ (i+1) (by simp;omega);injection e2 with e2;injection e2 with e2 e3;subst e2 e3;have cc: ∀o v,(w.setCell ⟨g,0,none⟩ v).cell? ⟨b,o,none⟩=w.cell? ⟨b,o,none⟩:=fun o v=>World.cell?_of_block (w:=w) (a:=⟨b,o,none⟩) (Below.heap_setCell w ⟨g,0,none⟩ v b (by show b≠g;omega));have en:off+4+i*4=off+(i+1)*4:=by omega
   simp only[aL]at q0 q1 q2 q3;rw[en,cc,cc,cc,cc];exact⟨q0,q1,q2,q3⟩
 ·injection e with e;injection e with e;subst e;exact hn
def mf (en:Int) (q:List dW) (n:Int):Ending:= .panicked [{v:= .iface 120 (.agg #[.int .i64 (G6 en q), .int .i64 n]),recovered:=false}]
theorem lO (g:Nat) (l:List dW) (en:Int) (w:World) (h:PA w g l en):Calls prog 158 #[.pointer (some ⟨g,0,none⟩)] w fun e w'=>e= .returned (.agg #[.int .i64 (jl l).k, .string (an (jl l).t), .int .i64 (jl l).v, .int .i64 (jl l).f])/\au w w':=by
 obtain⟨A,c,hb,ht,hn⟩:=h;have hbc:=(hb.alloc (.cells #[.int .i64 0, .string ⟨#[]⟩, .int .i64 0, .int .i64 0] 188)).cell
 cases l with
 |nil=>
  clear hb ht hn;go_enter func158,ntmps158;go_wp2_with fail;exact bodyPost_ret (v:= .agg #[.int .i64 0, .string ⟨#[]⟩, .int .i64 0, .int .i64 0]) (by simp[results,results158,go_sem]) rfl ⟨rfl,aa w _⟩
 |cons t r=>
  obtain⟨b,off,rfl,hlt,h0,h1,h2,h3⟩:=ht.at_ 0 (by simp);have hE:au w (w.alloc (.cells #[.int .i64 0, .string ⟨#[]⟩, .int .i64 0, .int .i64 0] 188)):=aa w _;have c0:=(hE.cell b _ hlt).trans h0;have c1:=(hE.cell b _ hlt).trans h1;have c2:=(hE.cell b _ hlt).trans h2;have c3:=(hE.cell b _ hlt).trans h3;simp only[aV,a7,aE]at c0 c1 c2 c3;obtain⟨n,hnn⟩: ∃n,(t::r).length=n:=⟨_,rfl⟩
  rw[hnn]at hbc;have hn0:0<n:=by rw[<-hnn];exact Nat.succ_pos _
  have hn0i:(0:Int)<n:=by omega
  have hn0b:((n:Int)==0)=false:=by rw[beq_eq_false_iff_ne];omega
  obtain⟨k,tx,v,f⟩:=t;simp only at c0 c1 c2 c3;clear hb ht hn hnn hE h0 h1 h2 h3;go_enter func158,ntmps158;go_wp2_with fail;exact bodyPost_ret (v:= .agg #[.int .i64 k, .string (an tx), .int .i64 v, .int .i64 f]) (by simp[results,results158,go_sem]) rfl ⟨rfl,aa w _⟩
theorem zj (g:Nat) (l:List dW) (en:Int) (s:List UInt8) (w:World) (h:PA w g l en):Calls prog 157 #[.pointer (some ⟨g,0,none⟩), .string (an s)] w fun e w'=>e= .returned (.bool (jX s l))/\au w w':=by
 have HN:=G (lO g l en w h);have HI:=G (show jX s l=(((jl l).k==5||(jl l).k==2)&&(jl l).t==s)from rfl);clear h;generalize jl l=t at*;obtain⟨k,tx,v,f⟩:=t;simp only at HN HI
 cases h5:(k==5)<;>cases h2:(k==2)<;>cases hs:(tx==s);all_goals
  rw[h5,h2,hs]at HI;go_enter func157,ntmps157;go_wp2_with (go_at_call 158;refine HN.out.mono ?_;rintro e w1 ⟨rfl,hE⟩;have HX:=G (hE.alloc' (.cells #[.int .i64 k, .string (an tx), .int .i64 v, .int .i64 f] 188));clear hE HN);go_ret;exact⟨by rw[HI.out];rfl,HX.out⟩
theorem iG (g:Nat) (l:List dW) (en:Int) (s:List UInt8) (w:World) (h:PA w g l en):Calls prog 97 #[.pointer (some ⟨g,0,none⟩), .string (an s)] w fun e w'=>e= .returned (.bool (jX s l))/\PA w' g (if jX s l then l.tail else l) en/\w.grownBy w' (some g):=by
 have HI:=G (zj g l en s w h)
 cases hi:jX s l with
 |false=>
  rw[hi]at HI;have HP:=G h;clear h;go_enter func97,ntmps97;go_wp2_with (go_at_call 157;refine HI.out.mono ?_;rintro e w1 ⟨rfl,hE⟩;have HX:=G hE;clear hE HI);go_ret;exact⟨rfl,HP.out.ext HX.out,HX.out.grownBy _⟩
 |true=>
  rw[hi]at HI;have HP:=G h;obtain⟨t,r,rfl⟩: ∃t r,l=t::r:=by
   cases l with
   |nil=>exact absurd rfl (zl hi)
   |cons t r=>exact⟨t,r,rfl⟩
  clear h hi;go_enter func97,ntmps97;go_wp2_with (go_at_call 157;refine HI.out.mono ?_;rintro e w1 ⟨rfl,hE⟩;obtain⟨A,c,hb,ht,hn⟩:=HP.out.ext hE;obtain⟨b,off,rfl,hlt,_⟩:=ht.at_ 0 (by simp);have hbc:=hb.cell;have hbf:=hb.frozen;have HX:=G hE;clear hE HI)
  ·obtain⟨h1,h2⟩:=PA.next hb ht (hn b off rfl (by simp)) hlt off 0 (.inl ⟨by assumption,rfl,rfl⟩);go_ret;exact⟨rfl,h1,bm (HX.out.grownBy _) h2⟩
  ·obtain⟨h1,h2⟩:=PA.next hb ht (hn b off rfl (by simp)) hlt (off+4) (c-1) (.inr ⟨by assumption,rfl,rfl⟩);go_ret;exact⟨rfl,h1,bm (HX.out.grownBy _) h2⟩
theorem nt (g:Nat) (l:List dW) (en:Int) (s:List UInt8) (w:World) (h:PA w g l en) (hi:jX s l=true):Calls prog 99 #[.pointer (some ⟨g,0,none⟩), .string (an s)] w fun e w'=>e= .returned (.tuple #[])/\PA w' g l.tail en/\w.grownBy w' (some g):=by
 have HG:=G (iG g l en s w h);rw[hi]at HG;simp only[if_true]at HG;clear h hi;go_enter func99,ntmps99;go_wp2_with (go_at_call 97;refine HG.out.mono ?_;rintro e w1 ⟨rfl,h1,h2⟩;have H1:=G h1;have H2:=G h2;clear h1 h2 HG)
 go_end0
 exact⟨rfl,H1.out,H2.out⟩
theorem Bq (g:Nat) (l:List dW) (en:Int) (w:World) (h:PA w g l en) (hi:(jl l).k=1):Calls prog 100 #[.pointer (some ⟨g,0,none⟩)] w fun e w'=>e= .returned (.string (an (jl l).t))/\PA w' g l.tail en/\w.grownBy w' (some g):=by
 have HN:=G (lO g l en w h);have HP:=G h;obtain⟨t,r,rfl⟩: ∃t r,l=t::r:=by
  cases l with
  |nil=>exact absurd hi (by decide)
  |cons t r=>exact⟨t,r,rfl⟩
 clear h;obtain⟨k,tx,v,f⟩:=t;simp only[jl]at HN hi;obtain rfl:k=1:=hi;go_enter func100,ntmps100;go_wp2_with (go_at_call 158;refine HN.out.mono ?_;rintro e w1 ⟨rfl,hE⟩;have HX:=G (hE.alloc' (.cells #[.int .i64 1, .string (an tx), .int .i64 v, .int .i64 f] 188));obtain⟨A,c,hb,ht,hn⟩:=HP.out.ext HX.out;obtain⟨b,off,rfl,hlt,_⟩:=ht.at_ 0 (by simp);have hbc:=hb.cell;have hbf:=hb.frozen;clear hE HN)
 ·obtain⟨h1,h2⟩:=PA.next hb ht (hn b off rfl (by simp)) hlt off 0 (.inl ⟨by assumption,rfl,rfl⟩);go_ret;exact⟨rfl,h1,bm (HX.out.grownBy _) h2⟩
 ·obtain⟨h1,h2⟩:=PA.next hb ht (hn b off rfl (by simp)) hlt (off+4) (c-1) (.inr ⟨by assumption,rfl,rfl⟩);go_ret;exact⟨rfl,h1,bm (HX.out.grownBy _) h2⟩
end
section
open Go.RowKit
theorem zg (s:List UInt8):s=[124,124]\/s=[38,38]\/s=[61,61]\/s=[33,61]\/s=[60]\/s=[60,61]\/s=[62]\/s=[62,61]\/s=[43]\/s=[45]\/s=[42]\/s=[47]\/s=[37]\/
  (((s==[124,124])=false/\(s==[38,38])=false/\(s==[61,61])=false/\(s==[33,61])=false/\(s==[60])=false/\(s==[60,61])=false/\(s==[62])=false/\(s==[62,61])=false/\(s==[43])=false/\(s==[45])=false/\(s==[42])=false/\(s==[47])=false/\(s==[37])=false)/\nC s=0):=by
 by_cases h1:s=[124,124]
 ·exact .inl h1
 by_cases h2:s=[38,38]
 ·exact(.inr (.inl h2))
 by_cases h3:s=[61,61]
 ·exact(.inr (.inr (.inl h3)))
 by_cases h4:s=[33,61]
 ·exact(.inr (.inr (.inr (.inl h4))))
 by_cases h5:s=[60]
 ·exact(.inr (.inr (.inr (.inr (.inl h5)))))
 by_cases h6:s=[60,61]
 ·exact(.inr (.inr (.inr (.inr (.inr (.inl h6))))))
 by_cases h7:s=[62]
 ·exact(.inr (.inr (.inr (.inr (.inr (.inr (.inl h7)))))))
 by_cases h8:s=[62,61]
 ·exact(.inr (.inr (.inr (.inr (.inr (.inr (.inr (.inl h8))))))))
 by_cases h9:s=[43]
 ·exact(.inr (.inr (.inr (.inr (.inr (.inr (.inr (.inr (.inl h9)))))))))
 by_cases h10:s=[45]
 ·exact(.inr (.inr (.inr (.inr (.inr (.inr (.inr (.inr (.inr (.inl h10))))))))))
 by_cases h11:s=[42]
 ·exact(.inr (.inr (.inr (.inr (.inr (.inr (.inr (.inr (.inr (.inr (.inl h11)))))))))))
 by_cases h12:s=[47]
 ·exact(.inr (.inr (.inr (.inr (.inr (.inr (.inr (.inr (.inr (.inr (.inr (.inl h12))))))))))))
 by_cases h13:s=[37]
 ·exact(.inr (.inr (.inr (.inr (.inr (.inr (.inr (.inr (.inr (.inr (.inr (.inr (.inl h13)))))))))))))
 refine(.inr (.inr (.inr (.inr (.inr (.inr (.inr (.inr (.inr (.inr (.inr (.inr (.inr ⟨⟨beq_eq_false_iff_ne.2 h1,beq_eq_false_iff_ne.2 h2,beq_eq_false_iff_ne.2 h3,beq_eq_false_iff_ne.2 h4,beq_eq_false_iff_ne.2 h5,beq_eq_false_iff_ne.2 h6,beq_eq_false_iff_ne.2 h7,beq_eq_false_iff_ne.2 h8,beq_eq_false_iff_ne.2 h9,beq_eq_false_iff_ne.2 h10,beq_eq_false_iff_ne.2 h11,beq_eq_false_iff_ne.2 h12,beq_eq_false_iff_ne.2 h13⟩,?_⟩)))))))))))));unfold nC;rw[if_neg h1,if_neg h2,if_neg h3,if_neg h4,if_neg h5,if_neg h6,if_neg h7,if_neg h8,if_neg h9,if_neg h10,if_neg h11,if_neg h12,if_neg h13]
theorem mu (s:List UInt8) (w:World):Calls prog 167 #[.string (an s)] w fun e w'=>e= .returned (.int .i64 (nC s))/\w=w':=by
 rcases zg s with rfl|rfl|rfl|rfl|rfl|rfl|rfl|rfl|rfl|rfl|rfl|rfl|rfl|⟨⟨e1,e2,e3,e4,e5,e6,e7,e8,e9,e10,e11,e12,e13⟩,hz⟩
 all_goals
  go_enter func167,ntmps167;go_wp2_with fail;go_ret;refine⟨?_,rfl⟩;first|exact congrArg (fun n=>Ending.returned (.int .i64 n)) hz.symm|rfl|(simp[nC];done)
theorem eI (b:Nat): ∀(vs:List Value) (o:Nat) (w:World),w.grownBy (w.setCells b o vs) (some b)
 | [],o,w=>⟨rfl,rfl,rfl,ah _,fun _ _ _=>rfl⟩
 |v::r,o,w=>bm (show w.grownBy (w.setCell ⟨b,o,none⟩ v) (some b)from⟨rfl,rfl,rfl,by simp[World.setCell],fun k _ hk=>Below.heap_setCell w ⟨b,o,none⟩ v k (fun e=>hk (by rw[e]))⟩) (eI b r (o+1) _)
theorem fw {w0 w w':World} {g k:Nat} (h:w0.grownBy w (some g)) (h':w.grownBy w' (some k)) (hk:w0.heap.size<=k):w0.grownBy w' (some g):=
 ⟨h'.os.trans h.os,h'.tape.trans h.tape,h'.output.trans h.output,ax h.size h'.size,fun i hi hn=>(h'.block i (aA hi h.size) (fun e=>by injection e with e;omega)).trans (h.block i hi hn)⟩
theorem aP.put6 {w:World} {g:Nat} {t:TypeId} {x0 x1 x2 x3 x4 x5:Value} (h:aP w g t #[x0,x1,x2,x3,x4,x5]) (a b c d e f:Value):aP (w.setCells g 0 [a,b,c,d,e,f]) g t #[a,b,c,d,e,f]:=by
 have:=(((((h.set 0 a).set 1 b).set 2 c).set 3 d).set 4 e).set 5 f;simpa[World.setCells]using this
theorem aP.put5' {w:World} {g:Nat} {t:TypeId} {x0 x1 x2 x3 x4:Value} (h:aP w g t #[x0,x1,x2,x3,x4]) (a b c d e:Value):aP (w.setCells g 0 [a,b,c,d,e]) g t #[a,b,c,d,e]:=by
 have:=((((h.set 0 a).set 1 b).set 2 c).set 3 d).set 4 e;simpa[World.setCells]using this
def Fy (g:Nat) (en:Int) (w:World) (r:PR Ex) (e:Ending) (w':World):Prop:=
 w.grownBy w' (some g)/\match r with
 | .ok (x,q)=> ∃A n c,e= .returned (.agg #[.int .i64 x.k, .string (an x.op), .string (an x.nm), .string (an x.tx), .int .i64 x.v, .slice A n c])/\et w' (fun b=>w.heap.size<=b) (.slice A n c) x.args/\PA w' g q en
 | .error (q,n)=>e=mf en q n
end
section
open Go.RowKit
theorem BH {l:List dW} {k:Int} (h:(jl l).k=k) (hk:k≠0): ∃t r,l=t::r:=by
 cases l with
 |nil=>exact absurd h.symm hk
 |cons t r=>exact⟨t,r,rfl⟩
theorem PA.next_a {w:World} {g:Nat} {t:dW} {r:List dW} {en:Int} {b off c:Nat} (hb:aP w g 124 #[.slice (some ⟨b,off,none⟩) (t::r).length c, .int .i64 en]) (ht:xr w (some ⟨b,off,none⟩) c (t::r)) (hn:b<g) (hlt:b<w.heap.size) (h:c=1):
  PA (w.setCell ⟨g,0,none⟩ (.slice (some ⟨b,off,none⟩) r.length 0)) g r en/\w.grownBy (w.setCell ⟨g,0,none⟩ (.slice (some ⟨b,off,none⟩) r.length 0)) (some g):=PA.next hb ht hn hlt _ _ (.inl ⟨h,rfl,rfl⟩)
theorem PA.next_b {w:World} {g:Nat} {t:dW} {r:List dW} {en:Int} {b off c:Nat} (hb:aP w g 124 #[.slice (some ⟨b,off,none⟩) (t::r).length c, .int .i64 en]) (ht:xr w (some ⟨b,off,none⟩) c (t::r)) (hn:b<g) (hlt:b<w.heap.size) (h: ¬c=1):
  PA (w.setCell ⟨g,0,none⟩ (.slice (some ⟨b,off+4,none⟩) r.length (c-1))) g r en/\w.grownBy (w.setCell ⟨g,0,none⟩ (.slice (some ⟨b,off+4,none⟩) r.length (c-1))) (some g):=PA.next hb ht hn hlt _ _ (.inr ⟨h,rfl,rfl⟩)
theorem zt {w W:World} {g pr:Nat} {en:Int} {q:List dW} {z0 z1 z2 z3 z4 z5:Value} {r:PR Ex} (x:Ex) (k:Int) (so sn st:ByteArray) (v:Int) (A:Option Addr) (n c:Nat) (hr:r= .ok (x,q)) (hk:x.k=k) (ho:an x.op=so) (hn:an x.nm=sn) (ht:an x.tx=st) (hv:x.v=v) (hpr:pr=w.heap.size)
  (hB:aP W pr 206 #[z0,z1,z2,z3,z4,z5]) (hG:w.grownBy W (some g)) (hPA:PA W g q en) (hg:g<w.heap.size) (hR:et W (fun b=>w.heap.size+1<=b) (.slice A n c) x.args):
  (∀i,(W.setCells pr 0 [.int .i64 k, .string so, .string sn, .string st, .int .i64 v, .slice A n c]).cell? ⟨pr,i,none⟩=(#[.int .i64 k, .string so, .string sn, .string st, .int .i64 v, .slice A n c]:Array Value)[i]?)/\
  Fy g en w r (.returned (.agg #[.int .i64 k, .string so, .string sn, .string st, .int .i64 v, .slice A n c])) (W.setCells pr 0 [.int .i64 k, .string so, .string sn, .string st, .int .i64 v, .slice A n c]):=by
 subst hr hk ho hn ht hv hpr;have hc:=eI w.heap.size [.int .i64 x.k, .string (an x.op), .string (an x.nm), .string (an x.tx), .int .i64 x.v, .slice A n c] 0 W;refine⟨(aP.put6 hB _ _ _ _ _ _).cell,fw hG hc (ah _),A,n,c,rfl,hR.keep (.of_grown hc fun b hb e=>by injection e with e;omega) fun b hb _=>by omega,hPA.grown hc fun k e=>by injection e with e;omega⟩
theorem yK (f:Nat) (l:List dW) (en:Int) (w:World) (g:Nat) (h:PA w g l en) (hk:(jl l).k=3):Calls prog 229 #[.pointer (some ⟨g,0,none⟩)] w (Fy g en w (r7 (f+1) l)):=by
 obtain⟨⟨k,tx,v,fr⟩,r,rfl⟩:=BH hk (by decide);obtain rfl:k=3:=hk;have HR:=G (show r7 (f+1) (⟨3,tx,v,fr⟩::r)= .ok (.mk 1 [] [] [] v [],r)from by rw[r7];rfl);have HX0:=G (aa w (.cells #[.int .i64 0, .string ⟨#[]⟩, .string ⟨#[]⟩, .string ⟨#[]⟩, .int .i64 0, .slice none 0 0] 206));have HB0:=G (aw w 206 #[.int .i64 0, .string ⟨#[]⟩, .string ⟨#[]⟩, .string ⟨#[]⟩, .int .i64 0, .slice none 0 0]);have HN:=G (lO g _ en _ (h.ext HX0.out));have HP:=G h;have hgl:=h.lt;clear h;simp only[jl]at HN;go_enter func229,ntmps229;go_wp2_with (go_at_call 158;refine HN.out.mono ?_;rintro e w1 ⟨rfl,hE⟩;have HX1:=G (hE.alloc' (.cells #[.int .i64 3, .string (an tx), .int .i64 v, .int .i64 fr] 188));have HB1:=G (HB0.out.ext HX1.out);have HT1:=G (aw w1 188 #[.int .i64 3, .string (an tx), .int .i64 v, .int .i64 fr]);have hrc:=HB1.out.cell;have hrf:=HB1.out.frozen;have hrg:w.heap.size≠g:=(by omega);have hgr:g≠w.heap.size:=(by omega);clear hE HN;obtain⟨A,c,hb,ht,hn⟩:=(HP.out.ext HX0.out).ext HX1.out;obtain⟨b,off,rfl,hlt,_⟩:=ht.at_ 0 (by simp);have hbc:=hb.cell;have hbf:=hb.frozen);all_goals
  first|have hq:=PA.next_a hb ht (hn b off rfl (by simp)) hlt (by assumption)|have hq:=PA.next_b hb ht (hn b off rfl (by simp)) hlt (by assumption)
  obtain⟨h1,h2⟩:=hq;have hB2:=HB1.out.grown h2 (fun e=>hrg (ai e));obtain⟨hset,hfin⟩:=zt (.mk 1 [] [] [] v []) 1 ⟨#[]⟩ ⟨#[]⟩ ⟨#[]⟩ v none 0 0 HR.out rfl rfl rfl rfl rfl rfl hB2 (bm ((HX0.out.trans HX1.out).grownBy _) h2) h1 hgl (.nil _ _);simp only[World.setCells,be,Nat.reduceAdd]at hset hfin;exact bodyPost_ret (v:= .agg #[.int .i64 1, .string ⟨#[]⟩, .string ⟨#[]⟩, .string ⟨#[]⟩, .int .i64 v, .slice none 0 0]) (by simp[results,results229,go_sem,hset]) rfl hfin
end
section
open Go.RowKit
end
section
open Go.RowKit
structure Fr (base g px:Nat) (w w':World):Prop where
 os:w'.os=w.os
 tape:w'.tape=w.tape
 output:w'.output=w.output
 size:w.heap.size<=w'.heap.size
 block: ∀k,k<base->k≠g->k≠px->w'.heap[k]? =w.heap[k]?
theorem Fr.of_grown {base g px:Nat} {w w':World} {row:Option Nat} (h:w.grownBy w' row) (hb:base<=w.heap.size) (hr: ∀k,row=some k->k=g\/k=px\/base<=k):Fr base g px w w':=
 ⟨h.os,h.tape,h.output,h.size,fun k hk h1 h2=>h.block k (by omega) (fun e=>by rcases hr k e.symm with h|h|h<;>omega)⟩
theorem Fr.grown {base g px:Nat} {w0 w w':World} (h0:w0.grownBy w (some g)) (h:Fr base g px w w') (hp:w0.heap.size<=px) (hb:w0.heap.size<=base):w0.grownBy w' (some g):=
 ⟨h.os.trans h0.os,h.tape.trans h0.tape,h.output.trans h0.output,ax h0.size h.size,fun k hk hn=>(h.block k (by omega) (fun e=>hn (by rw[e])) (by omega)).trans (h0.block k hk hn)⟩
theorem gy (w:World) (px i:Nat) (v:Value):w.grownBy (w.setCell ⟨px,i,none⟩ v) (some px):=eI px [v] i w
end
end Go.Proofs.YtoedmpgicdekmaaGreatDoor
