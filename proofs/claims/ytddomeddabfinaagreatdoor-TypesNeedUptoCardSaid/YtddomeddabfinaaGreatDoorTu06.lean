/-
  Parts of the proof: ParO ParQ ParR ParS ParSk ParT ParU ParV ParW ParX ParY.
-/
import Derived.Test.YtddomeddabfinaaGreatDoorTu00
import Derived.LoopN
import Derived.Test.YtddomeddabfinaaGreatDoorTu05
set_option maxRecDepth 100000
set_option maxHeartbeats 8000000
set_option linter.unusedVariables false
set_option linter.unusedSimpArgs false
set_option linter.unusedSectionVars false
namespace Go.Proofs.YtddomeddabfinaaGreatDoor
open Go.Proofs.Tryz
section
open Go.RowKit
def tokN (g:Nat) (w:World):Nat:=match w.cell? ⟨g,0,none⟩with
 |some (.slice _ n _)=>n
 | _=>0
theorem PA.tokN {w:World} {g:Nat} {l:List db} {en:Int} (h:PA w g l en):tokN g w=l.length:=by
 obtain⟨A,c,hb,_⟩:=h;unfold YtddomeddabfinaaGreatDoor.tokN;rw[hb.cell];rfl
end
section
open Go.RowKit
end
section
open Go.RowKit
end
section
open Go.RowKit
def xQ (g:Nat) (en:Int) (w:World) (r:PR St) (e:Ending) (w':World):Prop:=
 w.grownBy w' (some g)/\match r with
 | .ok (s,q)=> ∃A n c B m d C k i,e= .returned (.agg #[.int .i64 s.k, .string (ag s.nm), .slice A n c, .slice B m d, .slice C k i])/\
   SV.ok w' (fun b=>w.heap.size<=b) ⟨s, .slice A n c, .slice B m d, .slice C k i⟩/\PA w' g q en
 | .error (q,n)=>e=kU en q n
def Cr (g:Nat) (en:Int) (w:World) (r:PR (List St)) (e:Ending) (w':World):Prop:=
 w.grownBy w' (some g)/\match r with
 | .ok (b,q)=> ∃A n c,e= .returned (.slice A n c)/\cM w' (fun b=>w.heap.size<=b) (.slice A n c) b/\PA w' g q en
 | .error (q,n)=>e=kU en q n
theorem Cv:mT prog 57 72 5 96 (.agg #[.int .i64 0, .string ⟨#[]⟩, .slice none 0 0, .slice none 0 0, .slice none 0 0]):=⟨underlying57,by kernel_rfl,by rfl,by decide⟩
theorem rM (s:St) (A B C:Option Addr) (n m k c d i:Nat): ∀u∈qD ⟨s, .slice A n c, .slice B m d, .slice C k i⟩,u.oneCell'=true:=by
 intro u hu;simp only[qD,em,dB,or_false]at hu;rcases hu with rfl|rfl|rfl|rfl|rfl<;>rfl
end
section
open Go.RowKit
theorem zt {w W:World} {g pr:Nat} {en:Int} {q:List db} {z0 z1 z2 z3 z4:Value} {r:PR St} (s:St) (k:Int) (sn:ByteArray) (A:Option Addr) (n c:Nat) (B:Option Addr) (m d:Nat) (C:Option Addr) (i j:Nat) (hr:r= .ok (s,q)) (hk:s.k=k) (hn:ag s.nm=sn) (hpr:w.heap.size<=pr)
  (hB:aO W pr 72 #[z0,z1,z2,z3,z4]) (hG:w.grownBy W (some g)) (hPA:PA W g q en) (hg:g<w.heap.size) (hV:SV.ok W (fun b=>pr<b) ⟨s, .slice A n c, .slice B m d, .slice C i j⟩):
  (∀o,(W.setCells pr 0 [.int .i64 k, .string sn, .slice A n c, .slice B m d, .slice C i j]).cell? ⟨pr,o,none⟩=(#[.int .i64 k, .string sn, .slice A n c, .slice B m d, .slice C i j]:Array Value)[o]?)/\
  xQ g en w r (.returned (.agg #[.int .i64 k, .string sn, .slice A n c, .slice B m d, .slice C i j])) (W.setCells pr 0 [.int .i64 k, .string sn, .slice A n c, .slice B m d, .slice C i j]):=by
 subst hr hk hn;have hc:=eF pr [.int .i64 s.k, .string (ag s.nm), .slice A n c, .slice B m d, .slice C i j] 0 W;refine⟨(aO.put5' hB _ _ _ _ _).cell,eq hG hc hpr,A,n,c,B,m,d,C,i,j,rfl,hV.keep (.of_grown hc fun b hb e=>by injection e with e;omega) fun b hb _=>by omega,hPA.grown hc fun k e=>by injection e with e;omega⟩
structure SK (w:World) (g:Nat) (en:Int) (pb:Nat) (pc:Array Value) (sb:Nat) (sc:Array Value) (ty:TypeId) (X:World->Prop) (l:List db) (W:World):Prop where
 pa:PA W g l en
 gr:w.grownBy W (some g)
 rb:aO W pb ty pc
 sv:aO W sb ty sc
 nn:g<w.heap.size/\w.heap.size<=pb/\pb<=sb
 xx:X W
 hx: ∀k,k=g\/k=sb-> ∀V V':World,V.grownBy V' (some k)->X V->X V'
section
variable {w W W':World} {g pb sb:Nat} {en:Int} {pc sc:Array Value} {ty:TypeId} {X:World->Prop} {l l':List db}
theorem SK.step (K:SK w g en pb pc sb sc ty X l W) (hP:PA W' g l' en) (hG:W.grownBy W' (some g)):SK w g en pb pc sb sc ty X l' W':=
 ⟨hP,br K.gr hG,K.rb.grown hG (fun e=>by have:=K.nn;injection e with e;omega),K.sv.grown hG (fun e=>by have:=K.nn;injection e with e;omega),K.nn,K.hx _ (.inl rfl) _ _ hG K.xx,K.hx⟩
theorem SK.ext (K:SK w g en pb pc sb sc ty X l W) (hE:au W W'):SK w g en pb pc sb sc ty X l W':=K.step (K.pa.ext hE) (hE.grownBy _)
theorem SK.cells (K:SK w g en pb pc sb sc ty X l W):(∀i,W.cell? ⟨pb,i,none⟩=pc[i]?)/\(∀i,W.frozen? ⟨pb,i,none⟩=false)/\(∀i,W.cell? ⟨sb,i,none⟩=sc[i]?)/\ ∀i,W.frozen? ⟨sb,i,none⟩=false:=
 ⟨K.rb.cell,K.rb.frozen,K.sv.cell,K.sv.frozen⟩
theorem SK.yes (K:SK w g en pb pc sb sc ty X l W) {s:List UInt8} (h:gy s l=true):Calls prog 98 #[.pointer (some ⟨g,0,none⟩), .string (ag s)] W fun e W'=>e= .returned (.bool true)/\Hid (SK w g en pb pc sb sc ty X l.tail W'):=by
 have:=h_ g l en s W K.pa;rw[h]at this;exact this.mono fun e W' hh=>⟨hh.1,G (K.step hh.2.1 hh.2.2)⟩
theorem SK.no (K:SK w g en pb pc sb sc ty X l W) {s:List UInt8} (h:gy s l=false):Calls prog 98 #[.pointer (some ⟨g,0,none⟩), .string (ag s)] W fun e W'=>e= .returned (.bool false)/\Hid (SK w g en pb pc sb sc ty X l W'):=by
 have:=h_ g l en s W K.pa;rw[h]at this;exact this.mono fun e W' hh=>⟨hh.1,G (K.step hh.2.1 hh.2.2)⟩
theorem SK.is (K:SK w g en pb pc sb sc ty X l W) {s:List UInt8} {b:Bool} (h:gy s l=b):Calls prog 145 #[.pointer (some ⟨g,0,none⟩), .string (ag s)] W fun e W'=>e= .returned (.bool b)/\Hid (SK w g en pb pc sb sc ty X l W'):=by
 have:=vG g l en s W K.pa;rw[h]at this;exact this.mono fun e W' hh=>⟨hh.1,G (K.ext hh.2)⟩
theorem SK.want (K:SK w g en pb pc sb sc ty X l W) {s:List UInt8} (h:gy s l=true):Calls prog 100 #[.pointer (some ⟨g,0,none⟩), .string (ag s)] W fun e W'=>e= .returned (.tuple #[])/\Hid (SK w g en pb pc sb sc ty X l.tail W'):=
 (lP g l en s W K.pa h).mono fun e W' hh=>⟨hh.1,G (K.step hh.2.1 hh.2.2)⟩
theorem SK.name (K:SK w g en pb pc sb sc ty X l W) (h:(fx l).k=1):Calls prog 101 #[.pointer (some ⟨g,0,none⟩)] W fun e W'=>e= .returned (.string (ag (fx l).t))/\Hid (SK w g en pb pc sb sc ty X l.tail W'):=
 (sh g l en W K.pa h).mono fun e W' hh=>⟨hh.1,G (K.step hh.2.1 hh.2.2)⟩
theorem SK.with (K:SK w g en pb pc sb sc ty X l W) {Y:World->Prop} (hY:Y W) (hy: ∀k,k=g\/k=sb-> ∀V V':World,V.grownBy V' (some k)->Y V->Y V'):SK w g en pb pc sb sc ty (fun V=>X V/\Y V) l W:=
 ⟨K.pa,K.gr,K.rb,K.sv,K.nn,⟨K.xx,hY⟩,fun k hk V V' hV h=>⟨K.hx k hk V V' hV h.1,hy k hk V V' hV h.2⟩⟩
theorem SK.put5 {z0 z1 z2 z3 z4:Value} (K:SK w g en pb pc sb #[z0,z1,z2,z3,z4] ty X l W) (hb:pb<sb) (a b c d e:Value):SK w g en pb pc sb #[a,b,c,d,e] ty X l (W.setCells sb 0 [a,b,c,d,e]):=by
 have hc:=eF sb [a,b,c,d,e] 0 W;have hn:=K.nn;exact⟨K.pa.grown hc (fun k e=>by injection e with e;omega),eq K.gr hc (by omega),K.rb.grown hc (fun e=>by injection e with e;omega),aO.put5' K.sv ..,hn,K.hx _ (.inr rfl) _ _ hc K.xx,K.hx⟩
theorem SK.set (K:SK w g en pb pc sb sc ty X l W) (hb:pb<sb) (i:Nat) (v:Value):SK w g en pb pc sb (sc.setIfInBounds i v) ty X l (W.setCell ⟨sb,i,none⟩ v):=by
 have hc:=e_ W sb i v;have hn:=K.nn;exact⟨K.pa.grown hc (fun k e=>by injection e with e;omega),eq K.gr hc (by omega),K.rb.grown hc (fun e=>by injection e with e;omega),K.sv.set i v,hn,K.hx _ (.inr rfl) _ _ hc K.xx,K.hx⟩
theorem SK.one (h:PA w g l en) (cs:Array Value) (ty:TypeId):SK w g en w.heap.size cs w.heap.size cs ty (fun _=>True) l (w.alloc (.cells cs ty)):=
 ⟨h.ext (O w _),(O w _).grownBy _,ax w _ _,ax w _ _,⟨h.lt,an _,an _⟩,trivial,fun _ _ _ _ _ _=>trivial⟩
theorem SK.open (K:SK w g en pb pc pb pc ty X l W) (cs:Array Value) {Y:World->Prop} (hY:X W->Y (W.alloc (.cells cs ty))) (hy: ∀k,k=g\/k=W.heap.size-> ∀V V':World,V.grownBy V' (some k)->Y V->Y V'):SK w g en pb pc W.heap.size cs ty Y l (W.alloc (.cells cs ty)):=by
 have hE:=O W (.cells cs ty);have hz:=K.rb.lt;have hn:=K.nn;exact⟨K.pa.ext hE,br K.gr (hE.grownBy _),K.rb.ext hE,ax W _ _,by omega,hY K.xx,hy⟩
theorem SK.app (K:SK w g en pb pc sb sc ty X l W) {row:Option Nat} (hq:W.grownBy W' row) (hr: ∀k,row=some k->sb<k) {Y:World->Prop} (hY:Y W') (hy: ∀k,k=g\/k=sb-> ∀V V':World,V.grownBy V' (some k)->Y V->Y V'):SK w g en pb pc sb sc ty Y l W':=by
 have hn:=K.nn;refine⟨K.pa.grown hq (fun k e=>by have:=hr k e;omega),⟨hq.os.trans K.gr.os,hq.tape.trans K.gr.tape,hq.output.trans K.gr.output,a_ K.gr.size hq.size,fun i hi hne=>(hq.block i (aF hi K.gr.size) (fun e=>by have:=hr i e.symm;omega)).trans (K.gr.block i hi hne)⟩,K.rb.grown hq (fun e=>by have:=hr _ e.symm;omega),K.sv.grown hq (fun e=>by have:=hr _ e.symm;omega),hn,hY,hy⟩
end
theorem SK.fin {w W:World} {g sb:Nat} {en:Int} {z0 z1 z2 z3 z4:Value} {sc:Array Value} {X:World->Prop} {q:List db} (K:SK w g en w.heap.size #[z0,z1,z2,z3,z4] sb sc 72 X q W) {r:PR St} (s:St) (k:Int) (sn:ByteArray) (A:Option Addr) (n c:Nat) (B:Option Addr) (m d:Nat) (C:Option Addr) (i j:Nat) (hr:r= .ok (s,q)) (hk:s.k=k) (hn:ag s.nm=sn)
  (hV:X W->SV.ok W (fun b=>w.heap.size<b) ⟨s, .slice A n c, .slice B m d, .slice C i j⟩):
  (∀o,(W.setCells w.heap.size 0 [.int .i64 k, .string sn, .slice A n c, .slice B m d, .slice C i j]).cell? ⟨w.heap.size,o,none⟩=(#[.int .i64 k, .string sn, .slice A n c, .slice B m d, .slice C i j]:Array Value)[o]?)/\
  xQ g en w r (.returned (.agg #[.int .i64 k, .string sn, .slice A n c, .slice B m d, .slice C i j])) (W.setCells w.heap.size 0 [.int .i64 k, .string sn, .slice A n c, .slice B m d, .slice C i j]):=
 zt s k sn A n c B m d C i j hr hk hn (an _) K.rb K.gr K.pa K.nn.1 (hV K.xx)
end
section
open Go.RowKit
end
section
open Go.RowKit
theorem gT.lit {w:World} {base:Nat} {x:Ex} {A:Option Addr} {n c:Nat} (hb:base<=w.heap.size) (h:b8 w (fun b=>base<=b) (.slice A n c) x.args):gT (w.alloc (.cells #[.int .i64 x.k, .string (ag x.op), .string (ag x.nm), .string (ag x.tx), .int .i64 x.v, .slice A n c] 70)) base 70 (.slice (some ⟨w.heap.size,0,none⟩) 1 1) [(x, .slice A n c)]:=by
 refine⟨World.ownsRow_lit w _ 1 hb (by simp[maxLen]) rfl,fun p hp=> ?_⟩;rw[df]at hp;subst hp;exact h.keep (.of_ext (O w _)) (fun b hb hlt=>⟨hb,fun e=>by have e:b=w.heap.size:=aw e;omega⟩)
theorem si (x:Ex) (A:Option Addr) (n c:Nat): ∀u∈tQ x (.slice A n c),u.oneCell'=true:=by
 intro u hu;simp only[tQ,em,dB,or_false]at hu;rcases hu with rfl|rfl|rfl|rfl|rfl|rfl<;>rfl
end
section
open Go.RowKit
theorem nz {w:World} {g:Nat} {l:List db} {en:Int} (h:PA w g l en):SK w g en w.heap.size #[.int .i64 0, .string ⟨#[]⟩, .slice none 0 0, .slice none 0 0, .slice none 0 0] (w.heap.size+1) #[.int .i64 0, .string ⟨#[]⟩, .slice none 0 0, .slice none 0 0, .slice none 0 0] 72 (fun _=>True) l ((w.alloc (.cells #[.int .i64 0, .string ⟨#[]⟩, .slice none 0 0, .slice none 0 0, .slice none 0 0] 72)).alloc (.cells #[.int .i64 0, .string ⟨#[]⟩, .slice none 0 0, .slice none 0 0, .slice none 0 0] 72)):=by
 have hb:=ax (w.alloc (.cells #[.int .i64 0, .string ⟨#[]⟩, .slice none 0 0, .slice none 0 0, .slice none 0 0] 72)) 72 #[.int .i64 0, .string ⟨#[]⟩, .slice none 0 0, .slice none 0 0, .slice none 0 0];rw[World.size_alloc]at hb;have hE:=(O w (.cells #[.int .i64 0, .string ⟨#[]⟩, .slice none 0 0, .slice none 0 0, .slice none 0 0] 72)).alloc' (.cells #[.int .i64 0, .string ⟨#[]⟩, .slice none 0 0, .slice none 0 0, .slice none 0 0] 72);have hl:=h.lt;exact⟨h.ext hE,hE.grownBy _,(ax w _ _).alloc _,hb,by omega,trivial,fun _ _ _ _ _ _=>trivial⟩
end
section
open Go.RowKit
theorem PA.set2 {w:World} {g:Nat} {l:List db} {en:Int} {ps i:Nat} {v:Value} (h:PA w g l en) (hp:g<ps): ∃A c,aO w g 155 #[.slice A l.length c, .int .i64 en]/\aO (w.setCell ⟨ps,i,none⟩ v) g 155 #[.slice A l.length c, .int .i64 en]/\sy (w.setCell ⟨ps,i,none⟩ v) A c l/\ ∀b off,A=some ⟨b,off,none⟩->l≠ []->b<g:=by
 obtain⟨A,c,hb,ht,hn⟩:=h.grown (e_ w ps i v) (fun k e=>by injection e with e;omega);refine⟨A,c,?_,hb,ht,hn⟩;exact(Below.heap_setCell w ⟨ps,i,none⟩ v g (by show g≠ps;omega)).symm.trans hb
def zG (g:Nat) (en:Int) (w:World) (r:PR Vr) (e:Ending) (w':World):Prop:=
 w.grownBy w' (some g)/\match r with
 | .ok (v,q)=>e= .returned (.agg #[.string (ag v.nm), .int .i64 v.sz])/\PA w' g q en
 | .error (q,n)=>e=kU en q n
theorem zr {w W:World} {g pr:Nat} {en:Int} {q:List db} {z0 z1:Value} {r:PR Vr} (v:Vr) (sn:ByteArray) (z:Int) (hr:r= .ok (v,q)) (hn:ag v.nm=sn) (hz:v.sz=z) (hpr:w.heap.size<=pr) (hB:aO W pr 85 #[z0,z1]) (hG:w.grownBy W (some g)) (hPA:PA W g q en) (hg:g<w.heap.size):
  (∀o,(W.setCells pr 0 [.string sn, .int .i64 z]).cell? ⟨pr,o,none⟩=(#[.string sn, .int .i64 z]:Array Value)[o]?)/\zG g en w r (.returned (.agg #[.string sn, .int .i64 z])) (W.setCells pr 0 [.string sn, .int .i64 z]):=by
 subst hr hn hz;have hc:=eF pr [.string (ag v.nm), .int .i64 v.sz] 0 W;have hb:=(hB.set 0 (.string (ag v.nm))).set 1 (.int .i64 v.sz);exact⟨fun o=>by have:=hb.cell o;simpa[World.setCells]using this,eq hG hc hpr,rfl,hPA.grown hc fun k e=>by injection e with e;omega⟩
section
variable {w W W':World} {g pb sb:Nat} {en:Int} {pc sc:Array Value} {ty:TypeId} {X:World->Prop} {l l':List db}
theorem SK.next (K:SK w g en pb pc sb sc ty X l W) {k v fr:Int} {tx:List UInt8} (h:fx l=⟨k,tx,v,fr⟩):Calls prog 146 #[.pointer (some ⟨g,0,none⟩)] W fun e W'=>e= .returned (.agg #[.int .i64 k, .string (ag tx), .int .i64 v, .int .i64 fr])/\Hid (SK w g en pb pc sb sc ty X l (W'.alloc (.cells #[.int .i64 k, .string (ag tx), .int .i64 v, .int .i64 fr] 206))):=by
 have:=jB g l en W K.pa;rw[h]at this;exact this.mono fun e W' hh=>⟨hh.1,G (K.ext (hh.2.alloc' _))⟩
theorem SK.finV {z0 z1:Value} (K:SK w g en w.heap.size #[z0,z1] sb sc 85 X l W) {r:PR Vr} (v:Vr) (sn:ByteArray) (z:Int) (hr:r= .ok (v,l)) (hn:ag v.nm=sn) (hz:v.sz=z):
  (∀o,(W.setCells w.heap.size 0 [.string sn, .int .i64 z]).cell? ⟨w.heap.size,o,none⟩=(#[.string sn, .int .i64 z]:Array Value)[o]?)/\zG g en w r (.returned (.agg #[.string sn, .int .i64 z])) (W.setCells w.heap.size 0 [.string sn, .int .i64 z]):=
 zr v sn z hr hn hz (an _) K.rb K.gr K.pa K.nn.1
end
end
section
open Go.RowKit
def j7 (w:World) (P:Nat->Prop) (v:Value) (ls:List (List UInt8)):Prop:=
 ∃A c,v= .slice A ls.length c/\(ls=[]\/ls.length<=c/\c<=maxLen/\ ∃b o,A=some ⟨b,o,none⟩/\P b/\b<w.heap.size/\ ∀i,(h:i<ls.length)->w.cell? ⟨b,o+i,none⟩=some (.string (ag ls[i])))
theorem j7.nil_ (w:World) (P:Nat->Prop):j7 w P (.slice none 0 0) []:=⟨none,0,rfl, .inl rfl⟩
theorem j7.keep {w w':World} {P Q:Nat->Prop} {v:Value} {ls:List (List UInt8)} (h:j7 w P v ls) (hk:cP P w w') (hQ: ∀b,P b->b<w.heap.size->Q b):j7 w' Q v ls:=by
 obtain⟨A,c,rfl,h⟩:=h;refine⟨A,c,rfl,h.imp id fun⟨h1,h2,b,o,ha,hP,hb,hc⟩=>⟨h1,h2,b,o,ha,hQ b hP hb,aF hb hk.size,fun i hi=>(hk.cell _ hP hb).trans (hc i hi)⟩⟩
theorem j7.mono {w:World} {P Q:Nat->Prop} {v:Value} {ls:List (List UInt8)} (h:j7 w P v ls) (hQ: ∀b,P b->b<w.heap.size->Q b):j7 w Q v ls:=h.keep ⟨an _,fun _ _ _=>rfl⟩ hQ
def eZ (ls:List (List UInt8)):List Value:=ls.map fun x=> .string (ag x)
def mU (w:World) (base:Nat) (v:Value) (ls:List (List UInt8)):Prop:=w.ownsRow base 9 1 v ls.length (eZ ls)
theorem mU.rd {w:World} {base:Nat} {v:Value} {ls:List (List UInt8)} (h:mU w base v ls):j7 w (fun b=>base<=b) v ls:=by
 rcases h.2 with⟨rfl,h0⟩|⟨g,cap,cur,rfl,hb,hg,hnc,hcm,hcs,ht⟩
 ·have:ls=[]:=aM h0;subst this;exact .nil_ _ _
 ·refine⟨_,cap,rfl, .inr ⟨hnc,hcm,g,0,rfl,hb,(Array.getElem?_eq_some_iff.1 hg).1,fun i hi=> ?_⟩⟩;rw[a8,cell_of_row w g i cur 9 (0,0) hg];have h3:(eZ ls)[i]? =some (.string (ag ls[i])):=by simp[eZ,hi]
  rw[<-ht,bZ]at h3;rw[if_pos (by omega)]at h3;simpa using h3
theorem AX:mT prog 56 9 1 16 (.string ⟨#[]⟩):=⟨underlying56,by kernel_rfl,by rfl,by decide⟩
def Cq (base g pf:Nat) (nm:List UInt8) (en:Int) (w:World) (r:PR (List (List UInt8))) (e:Ending) (w':World):Prop:=
 Fr base g pf w w'/\match r with
 | .ok (a,q)=>e= .returned (.tuple #[])/\PA w' g q en/\ ∃C n cap,aO w' pf 59 #[.string (ag nm), .slice C n cap, .slice none 0 0]/\j7 w' (fun b=>base<=b) (.slice C n cap) a
 | .error (q,n)=>e=kU en q n
end
section
open Go.RowKit
structure FV where
 c:Fc
 p:Value
 b:Value
def p7 (p:FV):List Value:=[.string (ag p.c.nm),p.p,p.b]
def fD (l:List FV):List Value:=l.flatMap p7
def qq (v:Vr):List Value:=[.string (ag v.nm), .int .i64 v.sz]
def fC (l:List Vr):List Value:=l.flatMap qq
theorem nQ (a b:List FV):fD (a++b)=fD a++fD b:=by simp[fD]
theorem nh (a b:List Vr):fC (a++b)=fC a++fC b:=by simp[fC]
theorem fG: ∀(l:List FV) (i:Nat) (h:i<l.length) (k:Nat),k<3->(fD l)[i*3+k]? =(p7 l[i])[k]?
 | [],i,h,k,hk=>by simp at h
 |p::l,0,h,k,hk=>by
  simp only[fD,bW,aW,a8,aE];rw[cJ (by simp[p7];omega)]
 |p::l,i+1,h,k,hk=>by
  have:=fG l i (by simpa using h) k hk;simp only[fD,bW,aK]at this⊢;rw[cu (by simp[p7];omega),<-this]
  congr 1
  simp[p7];omega
theorem iu: ∀(l:List Vr) (i:Nat) (h:i<l.length) (k:Nat),k<2->(fC l)[i*2+k]? =(qq l[i])[k]?
 | [],i,h,k,hk=>by simp at h
 |p::l,0,h,k,hk=>by
  simp only[fC,bW,aW,a8,aE];rw[cJ (by simp[qq];omega)]
 |p::l,i+1,h,k,hk=>by
  have:=iu l i (by simpa using h) k hk;simp only[fC,bW,aK]at this⊢;rw[cu (by simp[qq];omega),<-this]
  congr 1
  simp[qq];omega
def FV.ok (w:World) (P:Nat->Prop) (p:FV):Prop:=j7 w P p.p p.c.ps/\cM w P p.b p.c.body
theorem FV.ok.keep {w w':World} {P Q:Nat->Prop} {p:FV} (h:p.ok w P) (hk:cP P w w') (hQ: ∀b,P b->b<w.heap.size->Q b):p.ok w' Q:=⟨h.1.keep hk hQ,h.2.keep hk hQ⟩
def fH (w:World) (P:Nat->Prop) (v:Value) (vs:List Vr):Prop:=
 ∃A c,v= .slice A vs.length c/\(vs=[]\/vs.length<=c/\c<=maxLen/\ ∃b o,A=some ⟨b,o,none⟩/\P b/\b<w.heap.size/\ ∀i,(h:i<vs.length)->w.cell? ⟨b,o+i*2,none⟩=some (.string (ag vs[i].nm))/\w.cell? ⟨b,o+i*2+1,none⟩=some (.int .i64 vs[i].sz))
theorem fH.keep {w w':World} {P Q:Nat->Prop} {v:Value} {vs:List Vr} (h:fH w P v vs) (hk:cP P w w') (hQ: ∀b,P b->b<w.heap.size->Q b):fH w' Q v vs:=by
 obtain⟨A,c,rfl,h⟩:=h;exact⟨A,c,rfl,h.imp id fun⟨h1,h2,b,o,ha,hP,hb,hc⟩=>⟨h1,h2,b,o,ha,hQ b hP hb,aF hb hk.size,fun i hi=>⟨(hk.cell _ hP hb).trans (hc i hi).1,(hk.cell _ hP hb).trans (hc i hi).2⟩⟩⟩
def fO (w:World) (P:Nat->Prop) (v:Value) (fs:List Fc):Prop:=
 ∃A c,v= .slice A fs.length c/\(fs=[]\/fs.length<=c/\c<=maxLen/\ ∃b o,A=some ⟨b,o,none⟩/\P b/\b<w.heap.size/\ ∃pv bv:Nat->Value,∀i,(h:i<fs.length)->w.cell? ⟨b,o+i*3,none⟩=some (.string (ag fs[i].nm))/\w.cell? ⟨b,o+i*3+1,none⟩=some (pv i)/\w.cell? ⟨b,o+i*3+2,none⟩=some (bv i)/\
  j7 w P (pv i) fs[i].ps/\cM w P (bv i) fs[i].body)
theorem fO.keep {w w':World} {P Q:Nat->Prop} {v:Value} {fs:List Fc} (h:fO w P v fs) (hk:cP P w w') (hQ: ∀b,P b->b<w.heap.size->Q b):fO w' Q v fs:=by
 obtain⟨A,c,rfl,h⟩:=h
 exact⟨A,c,rfl,h.imp id fun⟨h1,h2,b,o,ha,hP,hb,pv,bv,hc⟩=>⟨h1,h2,b,o,ha,hQ b hP hb,aF hb hk.size,pv,bv,fun i hi=>let⟨q0,q1,q2,q3,q4⟩:=hc i hi
  ⟨(hk.cell _ hP hb).trans q0,(hk.cell _ hP hb).trans q1,(hk.cell _ hP hb).trans q2,q3.keep hk hQ,q4.keep hk hQ⟩⟩⟩
def jl (w:World) (base:Nat) (vv fv:Value) (vs:List Vr) (fs:List FV):Prop:=
 w.ownsRow base 85 2 vv vs.length (fC vs)/\w.ownsRow base 59 3 fv fs.length (fD fs)/\(∀k,vv.ownBlock=some k->fv.ownBlock≠some k)/\ ∀p,p∈fs->p.ok w (fun b=>base<=b/\some b≠vv.ownBlock/\some b≠fv.ownBlock)
theorem jl.nil_ (w:World) (base:Nat):jl w base (.slice none 0 0) (.slice none 0 0) [] []:=⟨World.ownsRow_nil _ _ _ _,World.ownsRow_nil _ _ _ _,fun k hk=>(by cases hk),fun p hp=>(by cases hp)⟩
theorem cm {w w':World} {base:Nat} {e:TypeId} {size n:Nat} {v:Value} {xs:List Value} (h:w.ownsRow base e size v n xs) (hk: ∀b,base<=b->b<w.heap.size->v.ownBlock=some b->w'.heap[b]? =w.heap[b]?):w'.ownsRow base e size v n xs:=by
 refine⟨h.1,?_⟩;rcases h.2 with h0|⟨g,cap,cur,hv,hb,hg,hr⟩
 ·exact .inl h0
 ·exact .inr ⟨g,cap,cur,hv,hb,(hk g hb (Array.getElem?_eq_some_iff.1 hg).1 (by rw[hv];rfl)).trans hg,hr⟩
theorem jl.keepW {w w':World} {base:Nat} {vv fv:Value} {vs:List Vr} {fs:List FV} (h:jl w base vv fv vs fs) (hz:w.heap.size<=w'.heap.size) (hk: ∀b,base<=b->b<w.heap.size->w'.heap[b]? =w.heap[b]?):jl w' base vv fv vs fs:=
 ⟨cm h.1 (fun b h1 h2 _=>hk b h1 h2),cm h.2.1 (fun b h1 h2 _=>hk b h1 h2),h.2.2.1,fun p hp=>(h.2.2.2 p hp).keep ⟨hz,fun b hb hlt=>hk b hb.1 hlt⟩ (fun b hb _=>hb)⟩
theorem jl.grown {w w':World} {base:Nat} {vv fv:Value} {vs:List Vr} {fs:List FV} {row:Option Nat} (h:jl w base vv fv vs fs) (hg:w.grownBy w' row) (hr: ∀k,row=some k->k<base):jl w' base vv fv vs fs:=
 h.keepW hg.size fun b h1 h2=>hg.block b h2 (fun e=>by have:=hr b e.symm;omega)
theorem jl.snocV {w w':World} {base:Nat} {vv fv:Value} {vs:List Vr} {fs:List FV} {v:Vr} {A n cap:Nat} (h:jl w base vv fv vs fs) (hl:vs.length=n) (hn:w'.ownsRow base 85 2 (.slice (some ⟨A,0,none⟩) (n+1) cap) (n+1) (fC vs++qq v))
  (hg:w.grownBy w' vv.ownBlock) (hA:some A=vv.ownBlock\/A=w.heap.size):jl w' base (.slice (some ⟨A,0,none⟩) (n+1) cap) fv (vs++[v]) fs:=by
 subst hl;obtain⟨h1,h2,h3,h4⟩:=h;have hl2:=World.ownsRow.lt h2;refine⟨by rw[aa,nh];simpa[fC]using hn,cm h2 (fun b _ hb hv=>hg.block b hb (fun e=>h3 b e.symm hv)),fun k hk e=> ?_,fun p hp=>(h4 p hp).keep (.of_grown hg fun b hb=>hb.2.1) fun b hb hlt=>⟨hb.1,fun e=> ?_,hb.2.2⟩⟩
 ·have hk:A=k:=aw hk;subst hk;rcases hA with hA|hA
  ·exact h3 A hA.symm e
  ·have:=(hl2 A e).2;omega
 ·have e:b=A:=aw e;subst e;rcases hA with hA|hA
  ·exact hb.2.1 hA
  ·omega
theorem jl.snocF {w w':World} {base:Nat} {vv fv:Value} {vs:List Vr} {fs:List FV} {p:FV} {A n cap:Nat} (h:jl w base vv fv vs fs) (hp:p.ok w (fun b=>base<=b/\some b≠vv.ownBlock/\some b≠fv.ownBlock)) (hl:fs.length=n) (hn:w'.ownsRow base 59 3 (.slice (some ⟨A,0,none⟩) (n+1) cap) (n+1) (fD fs++p7 p))
  (hg:w.grownBy w' fv.ownBlock) (hA:some A=fv.ownBlock\/A=w.heap.size):jl w' base vv (.slice (some ⟨A,0,none⟩) (n+1) cap) vs (fs++[p]):=by
 subst hl;obtain⟨h1,h2,h3,h4⟩:=h;have hl1:=World.ownsRow.lt h1
 have hq: ∀b,(base<=b/\some b≠vv.ownBlock/\some b≠fv.ownBlock)->b<w.heap.size->(base<=b/\some b≠vv.ownBlock/\some b≠Value.ownBlock (.slice (some ⟨A,0,none⟩) (fs.length+1) cap)):=fun b hb hlt=>⟨hb.1,hb.2.1,fun e=>by
  have e:b=A:=aw e;subst e;rcases hA with hA|hA
  ·exact hb.2.2 hA
  ·omega⟩
 refine⟨cm h1 (fun b _ hb hv=>hg.block b hb (fun e=>h3 b hv e.symm)),by rw[aa,nQ];simpa[fD]using hn,fun k hk e=> ?_,fun q hq'=> ?_⟩
 ·have e:A=k:=aw e;subst e;rcases hA with hA|hA
  ·exact h3 A hk hA.symm
  ·have:=(hl1 A hk).2;omega
 ·rcases List.mem_append.1 hq' with hq'|hq'
  ·exact(h4 q hq').keep (.of_grown hg fun b hb=>hb.2.2) hq
  ·rw[df]at hq';subst hq';exact hp.keep (.of_grown hg fun b hb=>hb.2.2) hq
theorem jl.rd {w:World} {base:Nat} {vv fv:Value} {vs:List Vr} {fs:List FV} (h:jl w base vv fv vs fs):fH w (fun b=>base<=b) vv vs/\fO w (fun b=>base<=b) fv (fs.map (·.c)):=by
 obtain⟨h1,h2,_,h4⟩:=h;constructor
 ·rcases h1.2 with⟨rfl,h0⟩|⟨g,cap,cur,rfl,hb,hg,hnc,hcm,hcs,ht⟩
  ·have:vs=[]:=aM h0;subst this;exact⟨none,0,rfl, .inl rfl⟩
  ·have cell: ∀j y,(fC vs)[j]? =some y->w.cell? ⟨g,j,none⟩=some y:=fun j y hy=>by
    rw[cell_of_row w g j cur 85 (0,0) hg];rw[<-ht,bZ]at hy;split at hy
    ·simpa using hy
    ·cases hy
   exact⟨_,cap,rfl, .inr ⟨hnc,hcm,g,0,rfl,hb,(Array.getElem?_eq_some_iff.1 hg).1,fun i hi=>by
    rw[a8]
    exact⟨cell _ _ (iu vs i hi 0 (by omega)),cell _ _ (iu vs i hi 1 (by omega))⟩⟩⟩
 ·rcases h2.2 with⟨rfl,h0⟩|⟨g,cap,cur,rfl,hb,hg,hnc,hcm,hcs,ht⟩
  ·have:fs=[]:=aM h0;subst this;exact⟨none,0,rfl, .inl rfl⟩
  ·have cell: ∀j y,(fD fs)[j]? =some y->w.cell? ⟨g,j,none⟩=some y:=fun j y hy=>by
    rw[cell_of_row w g j cur 59 (0,0) hg];rw[<-ht,bZ]at hy;split at hy
    ·simpa using hy
    ·cases hy
   refine⟨some ⟨g,0,none⟩,cap,by simp, .inr ⟨by simpa using hnc,hcm,g,0,rfl,hb,(Array.getElem?_eq_some_iff.1 hg).1,fun i=>if h:i<fs.length then fs[i].p else .slice none 0 0,fun i=>if h:i<fs.length then fs[i].b else .slice none 0 0,fun i hi=> ?_⟩⟩;have hi':i<fs.length:=by simpa using hi
   have e0:(fs.map (·.c))[i]=fs[i].c:=by simp
   have hm:=(h4 fs[i] (ai hi')).keep (P:=fun b=>base<=b/\some b≠vv.ownBlock/\some b≠Value.ownBlock (.slice (some ⟨g,0,none⟩) fs.length cap)) (w':=w) ⟨an _,fun _ _ _=>rfl⟩ (Q:=fun b=>base<=b) (fun b hb _=>hb.1);rw[e0];simp only[a8,dif_pos hi'];exact⟨cell _ _ (fG fs i hi' 0 (by omega)),cell _ _ (fG fs i hi' 1 (by omega)),cell _ _ (fG fs i hi' 2 (by omega)),hm.1,hm.2⟩
theorem Cu:mT prog 31 85 2 24 (.agg #[.string ⟨#[]⟩, .int .i64 0]):=⟨underlying31,by kernel_rfl,by rfl,by decide⟩
theorem CG:mT prog 32 59 3 64 (.agg #[.string ⟨#[]⟩, .slice none 0 0, .slice none 0 0]):=⟨underlying32,by kernel_rfl,by rfl,by decide⟩
def AR (g:Nat) (en:Int) (w:World) (r:PR Pg) (e:Ending) (w':World):Prop:=
 w.grownBy w' (some g)/\match r with
 | .ok (p,q)=> ∃A n c B m d,e= .returned (.agg #[.slice A n c, .slice B m d])/\fH w' (fun b=>w.heap.size<=b) (.slice A n c) p.vs/\fO w' (fun b=>w.heap.size<=b) (.slice B m d) p.fs
 | .error (q,n)=>e=kU en q n
end
end Go.Proofs.YtddomeddabfinaaGreatDoor
