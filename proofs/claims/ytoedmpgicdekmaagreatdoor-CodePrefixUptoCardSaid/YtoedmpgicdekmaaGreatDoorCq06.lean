/-
  Parts of the proof: ParO ParQ ParR ParS ParSk ParT ParU ParV ParW ParX ParY.
-/
import Derived.Test.YtoedmpgicdekmaaGreatDoorCq00
import Derived.LoopN
import Derived.Test.YtoedmpgicdekmaaGreatDoorCq05
set_option maxRecDepth 100000
set_option maxHeartbeats 8000000
set_option linter.unusedVariables false
set_option linter.unusedSimpArgs false
set_option linter.unusedSectionVars false
namespace Go.Proofs.YtoedmpgicdekmaaGreatDoor
open Go.Proofs.Tryz
section
open Go.RowKit
def tokN (g:Nat) (w:World):Nat:=match w.cell? ⟨g,0,none⟩with
 |some (.slice _ n _)=>n
 | _=>0
theorem PA.tokN {w:World} {g:Nat} {l:List dW} {en:Int} (h:PA w g l en):tokN g w=l.length:=by
 obtain⟨A,c,hb,_⟩:=h;unfold YtoedmpgicdekmaaGreatDoor.tokN;rw[hb.cell];rfl
end
section
open Go.RowKit
end
section
open Go.RowKit
end
section
open Go.RowKit
def D4 (g:Nat) (en:Int) (w:World) (r:PR St) (e:Ending) (w':World):Prop:=
 w.grownBy w' (some g)/\match r with
 | .ok (s,q)=> ∃A n c B m d C k i,e= .returned (.agg #[.int .i64 s.k, .string (an s.nm), .slice A n c, .slice B m d, .slice C k i])/\
   SV.ok w' (fun b=>w.heap.size<=b) ⟨s, .slice A n c, .slice B m d, .slice C k i⟩/\PA w' g q en
 | .error (q,n)=>e=mf en q n
def Gy (g:Nat) (en:Int) (w:World) (r:PR (List St)) (e:Ending) (w':World):Prop:=
 w.grownBy w' (some g)/\match r with
 | .ok (b,q)=> ∃A n c,e= .returned (.slice A n c)/\dS w' (fun b=>w.heap.size<=b) (.slice A n c) b/\PA w' g q en
 | .error (q,n)=>e=mf en q n
theorem GR:mc prog 78 147 5 96 (.agg #[.int .i64 0, .string ⟨#[]⟩, .slice none 0 0, .slice none 0 0, .slice none 0 0]):=⟨underlying78,by kernel_rfl,by rfl,by decide⟩
theorem AO (s:St) (A B C:Option Addr) (n m k c d i:Nat): ∀u∈xw ⟨s, .slice A n c, .slice B m d, .slice C k i⟩,u.oneCell'=true:=by
 intro u hu;simp only[xw,bN,aZ,or_false]at hu;rcases hu with rfl|rfl|rfl|rfl|rfl<;>rfl
end
section
open Go.RowKit
theorem DC {w W:World} {g pr:Nat} {en:Int} {q:List dW} {z0 z1 z2 z3 z4:Value} {r:PR St} (s:St) (k:Int) (sn:ByteArray) (A:Option Addr) (n c:Nat) (B:Option Addr) (m d:Nat) (C:Option Addr) (i j:Nat) (hr:r= .ok (s,q)) (hk:s.k=k) (hn:an s.nm=sn) (hpr:w.heap.size<=pr)
  (hB:aP W pr 147 #[z0,z1,z2,z3,z4]) (hG:w.grownBy W (some g)) (hPA:PA W g q en) (hg:g<w.heap.size) (hV:SV.ok W (fun b=>pr<b) ⟨s, .slice A n c, .slice B m d, .slice C i j⟩):
  (∀o,(W.setCells pr 0 [.int .i64 k, .string sn, .slice A n c, .slice B m d, .slice C i j]).cell? ⟨pr,o,none⟩=(#[.int .i64 k, .string sn, .slice A n c, .slice B m d, .slice C i j]:Array Value)[o]?)/\
  D4 g en w r (.returned (.agg #[.int .i64 k, .string sn, .slice A n c, .slice B m d, .slice C i j])) (W.setCells pr 0 [.int .i64 k, .string sn, .slice A n c, .slice B m d, .slice C i j]):=by
 subst hr hk hn;have hc:=eI pr [.int .i64 s.k, .string (an s.nm), .slice A n c, .slice B m d, .slice C i j] 0 W;refine⟨(aP.put5' hB _ _ _ _ _).cell,fw hG hc hpr,A,n,c,B,m,d,C,i,j,rfl,hV.keep (.of_grown hc fun b hb e=>by injection e with e;omega) fun b hb _=>by omega,hPA.grown hc fun k e=>by injection e with e;omega⟩
structure SK (w:World) (g:Nat) (en:Int) (pb:Nat) (pc:Array Value) (sb:Nat) (sc:Array Value) (ty:TypeId) (X:World->Prop) (l:List dW) (W:World):Prop where
 pa:PA W g l en
 gr:w.grownBy W (some g)
 rb:aP W pb ty pc
 sv:aP W sb ty sc
 nn:g<w.heap.size/\w.heap.size<=pb/\pb<=sb
 xx:X W
 hx: ∀k,k=g\/k=sb-> ∀V V':World,V.grownBy V' (some k)->X V->X V'
section
variable {w W W':World} {g pb sb:Nat} {en:Int} {pc sc:Array Value} {ty:TypeId} {X:World->Prop} {l l':List dW}
theorem SK.step (K:SK w g en pb pc sb sc ty X l W) (hP:PA W' g l' en) (hG:W.grownBy W' (some g)):SK w g en pb pc sb sc ty X l' W':=
 ⟨hP,bm K.gr hG,K.rb.grown hG (fun e=>by have:=K.nn;injection e with e;omega),K.sv.grown hG (fun e=>by have:=K.nn;injection e with e;omega),K.nn,K.hx _ (.inl rfl) _ _ hG K.xx,K.hx⟩
theorem SK.ext (K:SK w g en pb pc sb sc ty X l W) (hE:au W W'):SK w g en pb pc sb sc ty X l W':=K.step (K.pa.ext hE) (hE.grownBy _)
theorem SK.cells (K:SK w g en pb pc sb sc ty X l W):(∀i,W.cell? ⟨pb,i,none⟩=pc[i]?)/\(∀i,W.frozen? ⟨pb,i,none⟩=false)/\(∀i,W.cell? ⟨sb,i,none⟩=sc[i]?)/\ ∀i,W.frozen? ⟨sb,i,none⟩=false:=
 ⟨K.rb.cell,K.rb.frozen,K.sv.cell,K.sv.frozen⟩
theorem SK.yes (K:SK w g en pb pc sb sc ty X l W) {s:List UInt8} (h:jX s l=true):Calls prog 97 #[.pointer (some ⟨g,0,none⟩), .string (an s)] W fun e W'=>e= .returned (.bool true)/\Hid (SK w g en pb pc sb sc ty X l.tail W'):=by
 have:=iG g l en s W K.pa;rw[h]at this;exact this.mono fun e W' hh=>⟨hh.1,G (K.step hh.2.1 hh.2.2)⟩
theorem SK.no (K:SK w g en pb pc sb sc ty X l W) {s:List UInt8} (h:jX s l=false):Calls prog 97 #[.pointer (some ⟨g,0,none⟩), .string (an s)] W fun e W'=>e= .returned (.bool false)/\Hid (SK w g en pb pc sb sc ty X l W'):=by
 have:=iG g l en s W K.pa;rw[h]at this;exact this.mono fun e W' hh=>⟨hh.1,G (K.step hh.2.1 hh.2.2)⟩
theorem SK.is (K:SK w g en pb pc sb sc ty X l W) {s:List UInt8} {b:Bool} (h:jX s l=b):Calls prog 157 #[.pointer (some ⟨g,0,none⟩), .string (an s)] W fun e W'=>e= .returned (.bool b)/\Hid (SK w g en pb pc sb sc ty X l W'):=by
 have:=zj g l en s W K.pa;rw[h]at this;exact this.mono fun e W' hh=>⟨hh.1,G (K.ext hh.2)⟩
theorem SK.want (K:SK w g en pb pc sb sc ty X l W) {s:List UInt8} (h:jX s l=true):Calls prog 99 #[.pointer (some ⟨g,0,none⟩), .string (an s)] W fun e W'=>e= .returned (.tuple #[])/\Hid (SK w g en pb pc sb sc ty X l.tail W'):=
 (nt g l en s W K.pa h).mono fun e W' hh=>⟨hh.1,G (K.step hh.2.1 hh.2.2)⟩
theorem SK.with (K:SK w g en pb pc sb sc ty X l W) {Y:World->Prop} (hY:Y W) (hy: ∀k,k=g\/k=sb-> ∀V V':World,V.grownBy V' (some k)->Y V->Y V'):SK w g en pb pc sb sc ty (fun V=>X V/\Y V) l W:=
 ⟨K.pa,K.gr,K.rb,K.sv,K.nn,⟨K.xx,hY⟩,fun k hk V V' hV h=>⟨K.hx k hk V V' hV h.1,hy k hk V V' hV h.2⟩⟩
theorem SK.put5 {z0 z1 z2 z3 z4:Value} (K:SK w g en pb pc sb #[z0,z1,z2,z3,z4] ty X l W) (hb:pb<sb) (a b c d e:Value):SK w g en pb pc sb #[a,b,c,d,e] ty X l (W.setCells sb 0 [a,b,c,d,e]):=by
 have hc:=eI sb [a,b,c,d,e] 0 W;have hn:=K.nn;exact⟨K.pa.grown hc (fun k e=>by injection e with e;omega),fw K.gr hc (by omega),K.rb.grown hc (fun e=>by injection e with e;omega),aP.put5' K.sv ..,hn,K.hx _ (.inr rfl) _ _ hc K.xx,K.hx⟩
theorem SK.set (K:SK w g en pb pc sb sc ty X l W) (hb:pb<sb) (i:Nat) (v:Value):SK w g en pb pc sb (sc.setIfInBounds i v) ty X l (W.setCell ⟨sb,i,none⟩ v):=by
 have hc:=gy W sb i v;have hn:=K.nn;exact⟨K.pa.grown hc (fun k e=>by injection e with e;omega),fw K.gr hc (by omega),K.rb.grown hc (fun e=>by injection e with e;omega),K.sv.set i v,hn,K.hx _ (.inr rfl) _ _ hc K.xx,K.hx⟩
end
theorem SK.fin {w W:World} {g sb:Nat} {en:Int} {z0 z1 z2 z3 z4:Value} {sc:Array Value} {X:World->Prop} {q:List dW} (K:SK w g en w.heap.size #[z0,z1,z2,z3,z4] sb sc 147 X q W) {r:PR St} (s:St) (k:Int) (sn:ByteArray) (A:Option Addr) (n c:Nat) (B:Option Addr) (m d:Nat) (C:Option Addr) (i j:Nat) (hr:r= .ok (s,q)) (hk:s.k=k) (hn:an s.nm=sn)
  (hV:X W->SV.ok W (fun b=>w.heap.size<b) ⟨s, .slice A n c, .slice B m d, .slice C i j⟩):
  (∀o,(W.setCells w.heap.size 0 [.int .i64 k, .string sn, .slice A n c, .slice B m d, .slice C i j]).cell? ⟨w.heap.size,o,none⟩=(#[.int .i64 k, .string sn, .slice A n c, .slice B m d, .slice C i j]:Array Value)[o]?)/\
  D4 g en w r (.returned (.agg #[.int .i64 k, .string sn, .slice A n c, .slice B m d, .slice C i j])) (W.setCells w.heap.size 0 [.int .i64 k, .string sn, .slice A n c, .slice B m d, .slice C i j]):=
 DC s k sn A n c B m d C i j hr hk hn (ah _) K.rb K.gr K.pa K.nn.1 (hV K.xx)
end
section
open Go.RowKit
end
section
open Go.RowKit
end
section
open Go.RowKit
theorem vY {w:World} {g:Nat} {l:List dW} {en:Int} (h:PA w g l en):SK w g en w.heap.size #[.int .i64 0, .string ⟨#[]⟩, .slice none 0 0, .slice none 0 0, .slice none 0 0] (w.heap.size+1) #[.int .i64 0, .string ⟨#[]⟩, .slice none 0 0, .slice none 0 0, .slice none 0 0] 147 (fun _=>True) l ((w.alloc (.cells #[.int .i64 0, .string ⟨#[]⟩, .slice none 0 0, .slice none 0 0, .slice none 0 0] 147)).alloc (.cells #[.int .i64 0, .string ⟨#[]⟩, .slice none 0 0, .slice none 0 0, .slice none 0 0] 147)):=by
 have hb:=aw (w.alloc (.cells #[.int .i64 0, .string ⟨#[]⟩, .slice none 0 0, .slice none 0 0, .slice none 0 0] 147)) 147 #[.int .i64 0, .string ⟨#[]⟩, .slice none 0 0, .slice none 0 0, .slice none 0 0];rw[World.size_alloc]at hb;have hE:=(aa w (.cells #[.int .i64 0, .string ⟨#[]⟩, .slice none 0 0, .slice none 0 0, .slice none 0 0] 147)).alloc' (.cells #[.int .i64 0, .string ⟨#[]⟩, .slice none 0 0, .slice none 0 0, .slice none 0 0] 147);have hl:=h.lt;exact⟨h.ext hE,hE.grownBy _,(aw w _ _).alloc _,hb,by omega,trivial,fun _ _ _ _ _ _=>trivial⟩
end
section
open Go.RowKit
def Gw (g:Nat) (en:Int) (w:World) (r:PR Vr) (e:Ending) (w':World):Prop:=
 w.grownBy w' (some g)/\match r with
 | .ok (v,q)=>e= .returned (.agg #[.string (an v.nm), .int .i64 v.sz])/\PA w' g q en
 | .error (q,n)=>e=mf en q n
end
section
open Go.RowKit
def pC (w:World) (P:Nat->Prop) (v:Value) (ls:List (List UInt8)):Prop:=
 ∃A c,v= .slice A ls.length c/\(ls=[]\/ls.length<=c/\c<=maxLen/\ ∃b o,A=some ⟨b,o,none⟩/\P b/\b<w.heap.size/\ ∀i,(h:i<ls.length)->w.cell? ⟨b,o+i,none⟩=some (.string (an ls[i])))
theorem pC.nil_ (w:World) (P:Nat->Prop):pC w P (.slice none 0 0) []:=⟨none,0,rfl, .inl rfl⟩
theorem pC.keep {w w':World} {P Q:Nat->Prop} {v:Value} {ls:List (List UInt8)} (h:pC w P v ls) (hk:dm P w w') (hQ: ∀b,P b->b<w.heap.size->Q b):pC w' Q v ls:=by
 obtain⟨A,c,rfl,h⟩:=h;refine⟨A,c,rfl,h.imp id fun⟨h1,h2,b,o,ha,hP,hb,hc⟩=>⟨h1,h2,b,o,ha,hQ b hP hb,aA hb hk.size,fun i hi=>(hk.cell _ hP hb).trans (hc i hi)⟩⟩
theorem pC.mono {w:World} {P Q:Nat->Prop} {v:Value} {ls:List (List UInt8)} (h:pC w P v ls) (hQ: ∀b,P b->b<w.heap.size->Q b):pC w Q v ls:=h.keep ⟨ah _,fun _ _ _=>rfl⟩ hQ
def Gx (base g pf:Nat) (nm:List UInt8) (en:Int) (w:World) (r:PR (List (List UInt8))) (e:Ending) (w':World):Prop:=
 Fr base g pf w w'/\match r with
 | .ok (a,q)=>e= .returned (.tuple #[])/\PA w' g q en/\ ∃C n cap,aP w' pf 81 #[.string (an nm), .slice C n cap, .slice none 0 0]/\pC w' (fun b=>base<=b) (.slice C n cap) a
 | .error (q,n)=>e=mf en q n
end
section
open Go.RowKit
structure FV where
 c:Fc
 p:Value
 b:Value
def CM (p:FV):List Value:=[.string (an p.c.nm),p.p,p.b]
def jL (l:List FV):List Value:=l.flatMap CM
def Cm (v:Vr):List Value:=[.string (an v.nm), .int .i64 v.sz]
def jH (l:List Vr):List Value:=l.flatMap Cm
theorem wN (a b:List FV):jL (a++b)=jL a++jL b:=by simp[jL]
theorem vJ (a b:List Vr):jH (a++b)=jH a++jH b:=by simp[jH]
theorem kH: ∀(l:List FV) (i:Nat) (h:i<l.length) (k:Nat),k<3->(jL l)[i*3+k]? =(CM l[i])[k]?
 | [],i,h,k,hk=>by simp at h
 |p::l,0,h,k,hk=>by
  simp only[jL,br,aV,be,aE];rw[aX (by simp[CM];omega)]
 |p::l,i+1,h,k,hk=>by
  have:=kH l i (by simpa using h) k hk;simp only[jL,br,aL]at this⊢;rw[bx (by simp[CM];omega),<-this]
  congr 1
  simp[CM];omega
theorem mg: ∀(l:List Vr) (i:Nat) (h:i<l.length) (k:Nat),k<2->(jH l)[i*2+k]? =(Cm l[i])[k]?
 | [],i,h,k,hk=>by simp at h
 |p::l,0,h,k,hk=>by
  simp only[jH,br,aV,be,aE];rw[aX (by simp[Cm];omega)]
 |p::l,i+1,h,k,hk=>by
  have:=mg l i (by simpa using h) k hk;simp only[jH,br,aL]at this⊢;rw[bx (by simp[Cm];omega),<-this]
  congr 1
  simp[Cm];omega
def FV.ok (w:World) (P:Nat->Prop) (p:FV):Prop:=pC w P p.p p.c.ps/\dS w P p.b p.c.body
theorem FV.ok.keep {w w':World} {P Q:Nat->Prop} {p:FV} (h:p.ok w P) (hk:dm P w w') (hQ: ∀b,P b->b<w.heap.size->Q b):p.ok w' Q:=⟨h.1.keep hk hQ,h.2.keep hk hQ⟩
def nG (w:World) (P:Nat->Prop) (v:Value) (vs:List Vr):Prop:=
 ∃A c,v= .slice A vs.length c/\(vs=[]\/vs.length<=c/\c<=maxLen/\ ∃b o,A=some ⟨b,o,none⟩/\P b/\b<w.heap.size/\ ∀i,(h:i<vs.length)->w.cell? ⟨b,o+i*2,none⟩=some (.string (an vs[i].nm))/\w.cell? ⟨b,o+i*2+1,none⟩=some (.int .i64 vs[i].sz))
theorem nG.keep {w w':World} {P Q:Nat->Prop} {v:Value} {vs:List Vr} (h:nG w P v vs) (hk:dm P w w') (hQ: ∀b,P b->b<w.heap.size->Q b):nG w' Q v vs:=by
 obtain⟨A,c,rfl,h⟩:=h;exact⟨A,c,rfl,h.imp id fun⟨h1,h2,b,o,ha,hP,hb,hc⟩=>⟨h1,h2,b,o,ha,hQ b hP hb,aA hb hk.size,fun i hi=>⟨(hk.cell _ hP hb).trans (hc i hi).1,(hk.cell _ hP hb).trans (hc i hi).2⟩⟩⟩
def oT (w:World) (P:Nat->Prop) (v:Value) (fs:List Fc):Prop:=
 ∃A c,v= .slice A fs.length c/\(fs=[]\/fs.length<=c/\c<=maxLen/\ ∃b o,A=some ⟨b,o,none⟩/\P b/\b<w.heap.size/\ ∃pv bv:Nat->Value,∀i,(h:i<fs.length)->w.cell? ⟨b,o+i*3,none⟩=some (.string (an fs[i].nm))/\w.cell? ⟨b,o+i*3+1,none⟩=some (pv i)/\w.cell? ⟨b,o+i*3+2,none⟩=some (bv i)/\
  pC w P (pv i) fs[i].ps/\dS w P (bv i) fs[i].body)
theorem oT.keep {w w':World} {P Q:Nat->Prop} {v:Value} {fs:List Fc} (h:oT w P v fs) (hk:dm P w w') (hQ: ∀b,P b->b<w.heap.size->Q b):oT w' Q v fs:=by
 obtain⟨A,c,rfl,h⟩:=h
 exact⟨A,c,rfl,h.imp id fun⟨h1,h2,b,o,ha,hP,hb,pv,bv,hc⟩=>⟨h1,h2,b,o,ha,hQ b hP hb,aA hb hk.size,pv,bv,fun i hi=>let⟨q0,q1,q2,q3,q4⟩:=hc i hi
  ⟨(hk.cell _ hP hb).trans q0,(hk.cell _ hP hb).trans q1,(hk.cell _ hP hb).trans q2,q3.keep hk hQ,q4.keep hk hQ⟩⟩⟩
def jW (w:World) (base:Nat) (vv fv:Value) (vs:List Vr) (fs:List FV):Prop:=
 w.ownsRow base 76 2 vv vs.length (jH vs)/\w.ownsRow base 81 3 fv fs.length (jL fs)/\(∀k,vv.ownBlock=some k->fv.ownBlock≠some k)/\ ∀p,p∈fs->p.ok w (fun b=>base<=b/\some b≠vv.ownBlock/\some b≠fv.ownBlock)
theorem jW.nil_ (w:World) (base:Nat):jW w base (.slice none 0 0) (.slice none 0 0) [] []:=⟨World.ownsRow_nil _ _ _ _,World.ownsRow_nil _ _ _ _,fun k hk=>(by cases hk),fun p hp=>(by cases hp)⟩
theorem lG {w w':World} {base:Nat} {e:TypeId} {size n:Nat} {v:Value} {xs:List Value} (h:w.ownsRow base e size v n xs) (hk: ∀b,base<=b->b<w.heap.size->v.ownBlock=some b->w'.heap[b]? =w.heap[b]?):w'.ownsRow base e size v n xs:=by
 refine⟨h.1,?_⟩;rcases h.2 with h0|⟨g,cap,cur,hv,hb,hg,hr⟩
 ·exact .inl h0
 ·exact .inr ⟨g,cap,cur,hv,hb,(hk g hb (Array.getElem?_eq_some_iff.1 hg).1 (by rw[hv];rfl)).trans hg,hr⟩
theorem jW.keepW {w w':World} {base:Nat} {vv fv:Value} {vs:List Vr} {fs:List FV} (h:jW w base vv fv vs fs) (hz:w.heap.size<=w'.heap.size) (hk: ∀b,base<=b->b<w.heap.size->w'.heap[b]? =w.heap[b]?):jW w' base vv fv vs fs:=
 ⟨lG h.1 (fun b h1 h2 _=>hk b h1 h2),lG h.2.1 (fun b h1 h2 _=>hk b h1 h2),h.2.2.1,fun p hp=>(h.2.2.2 p hp).keep ⟨hz,fun b hb hlt=>hk b hb.1 hlt⟩ (fun b hb _=>hb)⟩
theorem jW.grown {w w':World} {base:Nat} {vv fv:Value} {vs:List Vr} {fs:List FV} {row:Option Nat} (h:jW w base vv fv vs fs) (hg:w.grownBy w' row) (hr: ∀k,row=some k->k<base):jW w' base vv fv vs fs:=
 h.keepW hg.size fun b h1 h2=>hg.block b h2 (fun e=>by have:=hr b e.symm;omega)
theorem jW.snocV {w w':World} {base:Nat} {vv fv:Value} {vs:List Vr} {fs:List FV} {v:Vr} {A n cap:Nat} (h:jW w base vv fv vs fs) (hl:vs.length=n) (hn:w'.ownsRow base 76 2 (.slice (some ⟨A,0,none⟩) (n+1) cap) (n+1) (jH vs++Cm v))
  (hg:w.grownBy w' vv.ownBlock) (hA:some A=vv.ownBlock\/A=w.heap.size):jW w' base (.slice (some ⟨A,0,none⟩) (n+1) cap) fv (vs++[v]) fs:=by
 subst hl;obtain⟨h1,h2,h3,h4⟩:=h;have hl2:=World.ownsRow.lt h2;refine⟨by rw[ab,vJ];simpa[jH]using hn,lG h2 (fun b _ hb hv=>hg.block b hb (fun e=>h3 b e.symm hv)),fun k hk e=> ?_,fun p hp=>(h4 p hp).keep (.of_grown hg fun b hb=>hb.2.1) fun b hb hlt=>⟨hb.1,fun e=> ?_,hb.2.2⟩⟩
 ·have hk:A=k:=ai hk;subst hk;rcases hA with hA|hA
  ·exact h3 A hA.symm e
  ·have:=(hl2 A e).2;omega
 ·have e:b=A:=ai e;subst e;rcases hA with hA|hA
  ·exact hb.2.1 hA
  ·omega
theorem jW.snocF {w w':World} {base:Nat} {vv fv:Value} {vs:List Vr} {fs:List FV} {p:FV} {A n cap:Nat} (h:jW w base vv fv vs fs) (hp:p.ok w (fun b=>base<=b/\some b≠vv.ownBlock/\some b≠fv.ownBlock)) (hl:fs.length=n) (hn:w'.ownsRow base 81 3 (.slice (some ⟨A,0,none⟩) (n+1) cap) (n+1) (jL fs++CM p))
  (hg:w.grownBy w' fv.ownBlock) (hA:some A=fv.ownBlock\/A=w.heap.size):jW w' base vv (.slice (some ⟨A,0,none⟩) (n+1) cap) vs (fs++[p]):=by
 subst hl;obtain⟨h1,h2,h3,h4⟩:=h;have hl1:=World.ownsRow.lt h1
 have hq: ∀b,(base<=b/\some b≠vv.ownBlock/\some b≠fv.ownBlock)->b<w.heap.size->(base<=b/\some b≠vv.ownBlock/\some b≠Value.ownBlock (.slice (some ⟨A,0,none⟩) (fs.length+1) cap)):=fun b hb hlt=>⟨hb.1,hb.2.1,fun e=>by
  have e:b=A:=ai e;subst e;rcases hA with hA|hA
  ·exact hb.2.2 hA
  ·omega⟩
 refine⟨lG h1 (fun b _ hb hv=>hg.block b hb (fun e=>h3 b hv e.symm)),by rw[ab,wN];simpa[jL]using hn,fun k hk e=> ?_,fun q hq'=> ?_⟩
 ·have e:A=k:=ai e;subst e;rcases hA with hA|hA
  ·exact h3 A hk hA.symm
  ·have:=(hl1 A hk).2;omega
 ·rcases List.mem_append.1 hq' with hq'|hq'
  ·exact(h4 q hq').keep (.of_grown hg fun b hb=>hb.2.2) hq
  ·rw[dw]at hq';subst hq';exact hp.keep (.of_grown hg fun b hb=>hb.2.2) hq
theorem jW.rd {w:World} {base:Nat} {vv fv:Value} {vs:List Vr} {fs:List FV} (h:jW w base vv fv vs fs):nG w (fun b=>base<=b) vv vs/\oT w (fun b=>base<=b) fv (fs.map (·.c)):=by
 obtain⟨h1,h2,_,h4⟩:=h;constructor
 ·rcases h1.2 with⟨rfl,h0⟩|⟨g,cap,cur,rfl,hb,hg,hnc,hcm,hcs,ht⟩
  ·have:vs=[]:=aS h0;subst this;exact⟨none,0,rfl, .inl rfl⟩
  ·have cell: ∀j y,(jH vs)[j]? =some y->w.cell? ⟨g,j,none⟩=some y:=fun j y hy=>by
    rw[cell_of_row w g j cur 76 (0,0) hg];rw[<-ht,bZ]at hy;split at hy
    ·simpa using hy
    ·cases hy
   exact⟨_,cap,rfl, .inr ⟨hnc,hcm,g,0,rfl,hb,(Array.getElem?_eq_some_iff.1 hg).1,fun i hi=>by
    rw[be]
    exact⟨cell _ _ (mg vs i hi 0 (by omega)),cell _ _ (mg vs i hi 1 (by omega))⟩⟩⟩
 ·rcases h2.2 with⟨rfl,h0⟩|⟨g,cap,cur,rfl,hb,hg,hnc,hcm,hcs,ht⟩
  ·have:fs=[]:=aS h0;subst this;exact⟨none,0,rfl, .inl rfl⟩
  ·have cell: ∀j y,(jL fs)[j]? =some y->w.cell? ⟨g,j,none⟩=some y:=fun j y hy=>by
    rw[cell_of_row w g j cur 81 (0,0) hg];rw[<-ht,bZ]at hy;split at hy
    ·simpa using hy
    ·cases hy
   refine⟨some ⟨g,0,none⟩,cap,by simp, .inr ⟨by simpa using hnc,hcm,g,0,rfl,hb,(Array.getElem?_eq_some_iff.1 hg).1,fun i=>if h:i<fs.length then fs[i].p else .slice none 0 0,fun i=>if h:i<fs.length then fs[i].b else .slice none 0 0,fun i hi=> ?_⟩⟩;have hi':i<fs.length:=by simpa using hi
   have e0:(fs.map (·.c))[i]=fs[i].c:=by simp
   have hm:=(h4 fs[i] (ap hi')).keep (P:=fun b=>base<=b/\some b≠vv.ownBlock/\some b≠Value.ownBlock (.slice (some ⟨g,0,none⟩) fs.length cap)) (w':=w) ⟨ah _,fun _ _ _=>rfl⟩ (Q:=fun b=>base<=b) (fun b hb _=>hb.1);rw[e0];simp only[be,dif_pos hi'];exact⟨cell _ _ (kH fs i hi' 0 (by omega)),cell _ _ (kH fs i hi' 1 (by omega)),cell _ _ (kH fs i hi' 2 (by omega)),hm.1,hm.2⟩
theorem GQ:mc prog 28 76 2 24 (.agg #[.string ⟨#[]⟩, .int .i64 0]):=⟨underlying28,by kernel_rfl,by rfl,by decide⟩
theorem G3:mc prog 29 81 3 64 (.agg #[.string ⟨#[]⟩, .slice none 0 0, .slice none 0 0]):=⟨underlying29,by kernel_rfl,by rfl,by decide⟩
def E' (g:Nat) (en:Int) (w:World) (r:PR Pg) (e:Ending) (w':World):Prop:=
 w.grownBy w' (some g)/\match r with
 | .ok (p,q)=> ∃A n c B m d,e= .returned (.agg #[.slice A n c, .slice B m d])/\nG w' (fun b=>w.heap.size<=b) (.slice A n c) p.vs/\oT w' (fun b=>w.heap.size<=b) (.slice B m d) p.fs
 | .error (q,n)=>e=mf en q n
end
end Go.Proofs.YtoedmpgicdekmaaGreatDoor
