/-
  Parts of the proof: ParSk ParT ParU ParV.
-/
import Derived.Test.YtddomeddabfinaaGreatDoorTa00
import Derived.Test.YtddomeddabfinaaGreatDoorTa10
set_option maxRecDepth 100000
set_option maxHeartbeats 8000000
set_option linter.unusedVariables false
set_option linter.unusedSimpArgs false
set_option linter.unusedSectionVars false
namespace Go.Proofs.YtddomeddabfinaaGreatDoor
open Go.Proofs.Tryz
section
open Go.RowKit
theorem cK.one {w:World} {P:Nat->Prop} {gb:Nat} {e:TypeId} {s:St} {a b c:Value} (hB:aQ w gb e #[.int .i64 s.k, .string (ah s.nm),a,b,c]) (hP:P gb) (h:SV.ok w P ⟨s,a,b,c⟩):cK w P (.slice (some ⟨gb,0,none⟩) 1 1) [s]:=by
 refine .row gb 0 1 1 [s] (fun _=>a) (fun _=>b) (fun _=>c) hP hB.lt rfl (ag _) (by simp[maxLen]) (fun i hi=> ?_) (fun i hi=> ?_) (fun i hi=> ?_) (fun i hi=> ?_);all_goals
  have hi:i=0:=by simpa using hi
  subst hi
 ·exact⟨hB.cell 0,hB.cell 1,hB.cell 2,hB.cell 3,hB.cell 4⟩
 ·exact h.1
 ·exact h.2.1
 ·exact h.2.2
theorem Bm {w W:World} {g pr:Nat} {en:Int} {q:List bK} {z0 z1 z2 z3 z4:Value} {r:PR St} (s:St) (k:Int) (sn:ByteArray) (A:Option Addr) (n c:Nat) (B:Option Addr) (m d:Nat) (C:Option Addr) (i j:Nat) (hr:r= .ok (s,q)) (hk:s.k=k) (hn:ah s.nm=sn) (hpr:w.heap.size<=pr)
  (hB:aQ W pr 72 #[z0,z1,z2,z3,z4]) (hG:w.grownBy W (some g)) (hPA:PA W g q en) (hg:g<w.heap.size) (hV:SV.ok W (fun b=>pr<b) ⟨s, .slice A n c, .slice B m d, .slice C i j⟩):
  (∀o,(W.setCells pr 0 [.int .i64 k, .string sn, .slice A n c, .slice B m d, .slice C i j]).cell? ⟨pr,o,none⟩=(#[.int .i64 k, .string sn, .slice A n c, .slice B m d, .slice C i j]:Array Value)[o]?)/\
  vC g en w r (.returned (.agg #[.int .i64 k, .string sn, .slice A n c, .slice B m d, .slice C i j])) (W.setCells pr 0 [.int .i64 k, .string sn, .slice A n c, .slice B m d, .slice C i j]):=by
 subst hr hk hn;have hc:=cS pr [.int .i64 s.k, .string (ah s.nm), .slice A n c, .slice B m d, .slice C i j] 0 W;refine⟨(aQ.put5' hB _ _ _ _ _).cell,dq hG hc hpr,A,n,c,B,m,d,C,i,j,rfl,hV.keep (.of_grown hc fun b hb e=>by injection e with e;omega) fun b hb _=>by omega,hPA.grown hc fun k e=>by injection e with e;omega⟩
def fP (f:Nat) (l:List bK):PR St:=(gW l).then fun nm r=>
 if cI lY r then(cj f nm r).then fun x r=> .ok (.mk 7 [] [x] [] [],r)
 else if cI pL r then(bN f 1 r.tail).then fun i r=>(bT rE r).then fun _ r=>(bT Ar r).then fun _ r=>(bN f 1 r).then fun x r=> .ok (.mk 3 nm [i,x] [] [],r)
 else(bT Ar r).then fun _ r=>(bN f 1 r).then fun x r=> .ok (.mk 2 nm [x] [] [],r)
theorem kS (f:Nat) (l:List bK) (h1:cI Cb l=false) (h2:cI r7 l=false) (h3:cI lz l=false) (h4:cI pK l=false):c_ (f+1) l=(fP f l).then fun s r=>(bT uu r).then fun _ r=> .ok (s,r):=by
 rw[c_,if_neg (by rw[h1];simp),if_neg (by rw[h2];simp),if_neg (by rw[h3];simp),if_neg (by rw[h4];simp)];unfold fP
 cases gW l<;>rfl
theorem co {s:List UInt8} {l:List bK} (h:cI s l=true):bT s l= .ok ((),l.tail):=by unfold bT;rw[h];rfl
theorem em {s:List UInt8} {l:List bK} (h:cI s l=false):bT s l= .error (l,3):=by unfold bT;rw[h];rfl
theorem bH {l:List bK} (h:(cg l).k=1):gW l= .ok ((cg l).t,l.tail):=by unfold gW;rw[if_pos h]
theorem j8 {l:List bK} (h: ¬(cg l).k=1):gW l= .error (l,3):=by unfold gW;rw[if_neg h]
theorem then_ok {α β:Type} (a:α) (r:List bK) (k:α->List bK->PR β):PR.then (.ok (a,r)) k=k a r:=rfl
theorem bI {α β:Type} (q:List bK) (n:Int) (k:α->List bK->PR β):PR.then (.error (q,n)) k= .error (q,n):=rfl
structure SK (w:World) (g:Nat) (en:Int) (pb:Nat) (pc:Array Value) (sb:Nat) (sc:Array Value) (ty:TypeId) (X:World->Prop) (l:List bK) (W:World):Prop where
 pa:PA W g l en
 gr:w.grownBy W (some g)
 rb:aQ W pb ty pc
 sv:aQ W sb ty sc
 nn:g<w.heap.size/\w.heap.size<=pb/\pb<=sb
 xx:X W
 hx: ∀k,k=g\/k=sb-> ∀V V':World,V.grownBy V' (some k)->X V->X V'
section
variable {w W W':World} {g pb sb:Nat} {en:Int} {pc sc:Array Value} {ty:TypeId} {X:World->Prop} {l l':List bK}
theorem SK.step (K:SK w g en pb pc sb sc ty X l W) (hP:PA W' g l' en) (hG:W.grownBy W' (some g)):SK w g en pb pc sb sc ty X l' W':=
 ⟨hP,ak K.gr hG,K.rb.grown hG (fun e=>by have:=K.nn;injection e with e;omega),K.sv.grown hG (fun e=>by have:=K.nn;injection e with e;omega),K.nn,K.hx _ (.inl rfl) _ _ hG K.xx,K.hx⟩
theorem SK.ext (K:SK w g en pb pc sb sc ty X l W) (hE:au W W'):SK w g en pb pc sb sc ty X l W':=K.step (K.pa.ext hE) (hE.grownBy _)
theorem SK.cells (K:SK w g en pb pc sb sc ty X l W):(∀i,W.cell? ⟨pb,i,none⟩=pc[i]?)/\(∀i,W.frozen? ⟨pb,i,none⟩=false)/\(∀i,W.cell? ⟨sb,i,none⟩=sc[i]?)/\ ∀i,W.frozen? ⟨sb,i,none⟩=false:=
 ⟨K.rb.cell,K.rb.frozen,K.sv.cell,K.sv.frozen⟩
theorem SK.yes (K:SK w g en pb pc sb sc ty X l W) {s:List UInt8} (h:cI s l=true):Calls prog 98 #[.pointer (some ⟨g,0,none⟩), .string (ah s)] W fun e W'=>e= .returned (.bool true)/\Hid (SK w g en pb pc sb sc ty X l.tail W'):=by
 have:=cf g l en s W K.pa;rw[h]at this;exact this.mono fun e W' hh=>⟨hh.1,G (K.step hh.2.1 hh.2.2)⟩
theorem SK.no (K:SK w g en pb pc sb sc ty X l W) {s:List UInt8} (h:cI s l=false):Calls prog 98 #[.pointer (some ⟨g,0,none⟩), .string (ah s)] W fun e W'=>e= .returned (.bool false)/\Hid (SK w g en pb pc sb sc ty X l W'):=by
 have:=cf g l en s W K.pa;rw[h]at this;exact this.mono fun e W' hh=>⟨hh.1,G (K.step hh.2.1 hh.2.2)⟩
theorem SK.is (K:SK w g en pb pc sb sc ty X l W) {s:List UInt8} {b:Bool} (h:cI s l=b):Calls prog 145 #[.pointer (some ⟨g,0,none⟩), .string (ah s)] W fun e W'=>e= .returned (.bool b)/\Hid (SK w g en pb pc sb sc ty X l W'):=by
 have:=gg g l en s W K.pa;rw[h]at this;exact this.mono fun e W' hh=>⟨hh.1,G (K.ext hh.2)⟩
theorem SK.want (K:SK w g en pb pc sb sc ty X l W) {s:List UInt8} (h:cI s l=true):Calls prog 100 #[.pointer (some ⟨g,0,none⟩), .string (ah s)] W fun e W'=>e= .returned (.tuple #[])/\Hid (SK w g en pb pc sb sc ty X l.tail W'):=
 (d7 g l en s W K.pa h).mono fun e W' hh=>⟨hh.1,G (K.step hh.2.1 hh.2.2)⟩
theorem SK.bad (K:SK w g en pb pc sb sc ty X l W) {s:List UInt8} (h:cI s l=false):Calls prog 100 #[.pointer (some ⟨g,0,none⟩), .string (ah s)] W fun e W'=>e=aZ en l 3/\Hid (w.grownBy W' (some g)):=
 (fS g l en s W K.pa h).mono fun e W' hh=>⟨hh.1,G (ak K.gr hh.2)⟩
theorem SK.name (K:SK w g en pb pc sb sc ty X l W) (h:(cg l).k=1):Calls prog 101 #[.pointer (some ⟨g,0,none⟩)] W fun e W'=>e= .returned (.string (ah (cg l).t))/\Hid (SK w g en pb pc sb sc ty X l.tail W'):=
 (io g l en W K.pa h).mono fun e W' hh=>⟨hh.1,G (K.step hh.2.1 hh.2.2)⟩
theorem SK.noname (K:SK w g en pb pc sb sc ty X l W) (h: ¬(cg l).k=1):Calls prog 101 #[.pointer (some ⟨g,0,none⟩)] W fun e W'=>e=aZ en l 3/\Hid (w.grownBy W' (some g)):=
 (nM g l en W K.pa h).mono fun e W' hh=>⟨hh.1,G (ak K.gr hh.2)⟩
theorem SK.with (K:SK w g en pb pc sb sc ty X l W) {Y:World->Prop} (hY:Y W) (hy: ∀k,k=g\/k=sb-> ∀V V':World,V.grownBy V' (some k)->Y V->Y V'):SK w g en pb pc sb sc ty (fun V=>X V/\Y V) l W:=
 ⟨K.pa,K.gr,K.rb,K.sv,K.nn,⟨K.xx,hY⟩,fun k hk V V' hV h=>⟨K.hx k hk V V' hV h.1,hy k hk V V' hV h.2⟩⟩
theorem SK.expr (K:SK w g en pb pc sb sc ty X l W) {f:Nat} (hEx:eA f) (hf:4*l.length+2<=f) {x:Ex} {q:List bK} (h:bN f 1 l= .ok (x,q)):Calls prog 183 #[.pointer (some ⟨g,0,none⟩), .int .i64 1] W fun e W'=>
  ∃A n c,e= .returned (.agg #[.int .i64 x.k, .string (ah x.op), .string (ah x.nm), .string (ah x.tx), .int .i64 x.v, .slice A n c])/\
   Hid (SK w g en pb pc sb sc ty (fun V=>X V/\cu V (fun b=>sb<b) (.slice (some ⟨W'.heap.size,0,none⟩) 1 1) [x]) q (W'.alloc (.cells #[.int .i64 x.k, .string (ah x.op), .string (ah x.nm), .string (ah x.tx), .int .i64 x.v, .slice A n c] 70))):=by
 have hK:=K;have hc:=hEx 1 l en W g K.pa (by decide) (by decide) hf;rw[h]at hc;refine hc.mono fun e W' hh=> ?_;obtain⟨hG,A,n,c,rfl,hR,hPA⟩:=hh;have hE:=I W' (.cells #[.int .i64 x.k, .string (ah x.op), .string (ah x.nm), .string (ah x.tx), .int .i64 x.v, .slice A n c] 70);have hz:=K.sv.lt;have hz2:=hG.size;refine⟨A,n,c,rfl,G (((K.step hPA hG).ext hE).with (iD (am W' _ _) (by omega) (hR.keep (.of_ext hE) (fun b hb _=>by omega))) fun k hk V V' hV h=>h.keep (.of_grown hV fun b hb e=>by have:=K.nn;injection e with e;omega) (fun b hb _=>hb))⟩
theorem SK.xerr (K:SK w g en pb pc sb sc ty X l W) {f:Nat} (hEx:eA f) (hf:4*l.length+2<=f) {q:List bK} {n:Int} (h:bN f 1 l= .error (q,n)):Calls prog 183 #[.pointer (some ⟨g,0,none⟩), .int .i64 1] W fun e W'=>e=aZ en q n/\Hid (w.grownBy W' (some g)):=by
 have hc:=hEx 1 l en W g K.pa (by decide) (by decide) hf;rw[h]at hc;exact hc.mono fun e W' hh=>⟨hh.2,G (ak K.gr hh.1)⟩
theorem SK.block (K:SK w g en pb pc sb sc ty X l W) {f:Nat} (hBl:lc f) (hf:4*l.length+1<=f) {x:List St} {q:List bK} (h:db f l= .ok (x,q)):Calls prog 104 #[.pointer (some ⟨g,0,none⟩)] W fun e W'=>
  ∃A n c,e= .returned (.slice A n c)/\Hid (SK w g en pb pc sb sc ty (fun V=>X V/\cK V (fun b=>sb<b) (.slice A n c) x) q W'):=by
 have hc:=hBl l en W g K.pa hf;rw[h]at hc;refine hc.mono fun e W' hh=> ?_;obtain⟨hG,A,n,c,rfl,hR,hPA⟩:=hh;have hz:=K.sv.lt;exact⟨A,n,c,rfl,G ((K.step hPA hG).with (hR.mono (fun b hb _=>by omega)) fun k hk V V' hV h=>h.keep (.of_grown hV fun b hb e=>by have:=K.nn;injection e with e;omega) (fun b hb _=>hb))⟩
theorem SK.berr (K:SK w g en pb pc sb sc ty X l W) {f:Nat} (hBl:lc f) (hf:4*l.length+1<=f) {q:List bK} {n:Int} (h:db f l= .error (q,n)):Calls prog 104 #[.pointer (some ⟨g,0,none⟩)] W fun e W'=>e=aZ en q n/\Hid (w.grownBy W' (some g)):=by
 have hc:=hBl l en W g K.pa hf;rw[h]at hc;exact hc.mono fun e W' hh=>⟨hh.2,G (ak K.gr hh.1)⟩
theorem SK.if (K:SK w g en pb pc sb sc ty X l W) {f:Nat} (hIf:BH f) (hf:4*l.length+3<=f) {s:St} {q:List bK} (h:m6 f l= .ok (s,q)):Calls prog 182 #[.pointer (some ⟨g,0,none⟩)] W fun e W'=>
  ∃A n c B m d C i j,e= .returned (.agg #[.int .i64 s.k, .string (ah s.nm), .slice A n c, .slice B m d, .slice C i j])/\Hid (SK w g en pb pc sb sc ty (fun V=>X V/\SV.ok V (fun b=>sb<b) ⟨s, .slice A n c, .slice B m d, .slice C i j⟩) q W'):=by
 have hc:=hIf l en W g K.pa hf;rw[h]at hc;refine hc.mono fun e W' hh=> ?_;obtain⟨hG,A,n,c,B,m,d,C,i,j,rfl,hV,hPA⟩:=hh;have hz:=K.sv.lt;exact⟨A,n,c,B,m,d,C,i,j,rfl,G ((K.step hPA hG).with (hV.keep ⟨ag _,fun _ _ _=>rfl⟩ (fun b hb _=>by omega)) fun k hk V V' hV h=>h.keep (.of_grown hV fun b hb e=>by have:=K.nn;injection e with e;omega) (fun b hb _=>hb))⟩
theorem SK.ierr (K:SK w g en pb pc sb sc ty X l W) {f:Nat} (hIf:BH f) (hf:4*l.length+3<=f) {q:List bK} {n:Int} (h:m6 f l= .error (q,n)):Calls prog 182 #[.pointer (some ⟨g,0,none⟩)] W fun e W'=>e=aZ en q n/\Hid (w.grownBy W' (some g)):=by
 have hc:=hIf l en W g K.pa hf;rw[h]at hc;exact hc.mono fun e W' hh=>⟨hh.2,G (ak K.gr hh.1)⟩
theorem SK.put5 {z0 z1 z2 z3 z4:Value} (K:SK w g en pb pc sb #[z0,z1,z2,z3,z4] ty X l W) (hb:pb<sb) (a b c d e:Value):SK w g en pb pc sb #[a,b,c,d,e] ty X l (W.setCells sb 0 [a,b,c,d,e]):=by
 have hc:=cS sb [a,b,c,d,e] 0 W;have hn:=K.nn;exact⟨K.pa.grown hc (fun k e=>by injection e with e;omega),dq K.gr hc (by omega),K.rb.grown hc (fun e=>by injection e with e;omega),aQ.put5' K.sv ..,hn,K.hx _ (.inr rfl) _ _ hc K.xx,K.hx⟩
theorem SK.set (K:SK w g en pb pc sb sc ty X l W) (hb:pb<sb) (i:Nat) (v:Value):SK w g en pb pc sb (sc.setIfInBounds i v) ty X l (W.setCell ⟨sb,i,none⟩ v):=by
 have hc:=et W sb i v;have hn:=K.nn;exact⟨K.pa.grown hc (fun k e=>by injection e with e;omega),dq K.gr hc (by omega),K.rb.grown hc (fun e=>by injection e with e;omega),K.sv.set i v,hn,K.hx _ (.inr rfl) _ _ hc K.xx,K.hx⟩
theorem SK.one (h:PA w g l en) (cs:Array Value) (ty:TypeId):SK w g en w.heap.size cs w.heap.size cs ty (fun _=>True) l (w.alloc (.cells cs ty)):=
 ⟨h.ext (I w _),(I w _).grownBy _,am w _ _,am w _ _,⟨h.lt,ag _,ag _⟩,trivial,fun _ _ _ _ _ _=>trivial⟩
theorem SK.open (K:SK w g en pb pc pb pc ty X l W) (cs:Array Value) {Y:World->Prop} (hY:X W->Y (W.alloc (.cells cs ty))) (hy: ∀k,k=g\/k=W.heap.size-> ∀V V':World,V.grownBy V' (some k)->Y V->Y V'):SK w g en pb pc W.heap.size cs ty Y l (W.alloc (.cells cs ty)):=by
 have hE:=I W (.cells cs ty);have hz:=K.rb.lt;have hn:=K.nn;exact⟨K.pa.ext hE,ak K.gr (hE.grownBy _),K.rb.ext hE,am W _ _,by omega,hY K.xx,hy⟩
theorem SK.app (K:SK w g en pb pc sb sc ty X l W) {row:Option Nat} (hq:W.grownBy W' row) (hr: ∀k,row=some k->sb<k) {Y:World->Prop} (hY:Y W') (hy: ∀k,k=g\/k=sb-> ∀V V':World,V.grownBy V' (some k)->Y V->Y V'):SK w g en pb pc sb sc ty Y l W':=by
 have hn:=K.nn;refine⟨K.pa.grown hq (fun k e=>by have:=hr k e;omega),⟨hq.os.trans K.gr.os,hq.tape.trans K.gr.tape,hq.output.trans K.gr.output,aT K.gr.size hq.size,fun i hi hne=>(hq.block i (az hi K.gr.size) (fun e=>by have:=hr i e.symm;omega)).trans (K.gr.block i hi hne)⟩,K.rb.grown hq (fun e=>by have:=hr _ e.symm;omega),K.sv.grown hq (fun e=>by have:=hr _ e.symm;omega),hn,hY,hy⟩
end
theorem SK.fin {w W:World} {g sb:Nat} {en:Int} {z0 z1 z2 z3 z4:Value} {sc:Array Value} {X:World->Prop} {q:List bK} (K:SK w g en w.heap.size #[z0,z1,z2,z3,z4] sb sc 72 X q W) {r:PR St} (s:St) (k:Int) (sn:ByteArray) (A:Option Addr) (n c:Nat) (B:Option Addr) (m d:Nat) (C:Option Addr) (i j:Nat) (hr:r= .ok (s,q)) (hk:s.k=k) (hn:ah s.nm=sn)
  (hV:X W->SV.ok W (fun b=>w.heap.size<b) ⟨s, .slice A n c, .slice B m d, .slice C i j⟩):
  (∀o,(W.setCells w.heap.size 0 [.int .i64 k, .string sn, .slice A n c, .slice B m d, .slice C i j]).cell? ⟨w.heap.size,o,none⟩=(#[.int .i64 k, .string sn, .slice A n c, .slice B m d, .slice C i j]:Array Value)[o]?)/\
  vC g en w r (.returned (.agg #[.int .i64 k, .string sn, .slice A n c, .slice B m d, .slice C i j])) (W.setCells w.heap.size 0 [.int .i64 k, .string sn, .slice A n c, .slice B m d, .slice C i j]):=
 Bm s k sn A n c B m d C i j hr hk hn (ag _) K.rb K.gr K.pa K.nn.1 (hV K.xx)
end
section
open Go.RowKit
section
variable {w W W':World} {g pb sb:Nat} {en:Int} {pc sc:Array Value} {ty:TypeId} {X:World->Prop} {l l':List bK}
theorem SK.open2 {e v:Value} {xs:List Ex} {ys:List St} (K:SK w g en w.heap.size pc w.heap.size pc ty (fun V=>(True/\cu V (fun b=>w.heap.size<b) e xs)/\cK V (fun b=>w.heap.size<b) v ys) l W) (cs:Array Value):
  SK w g en w.heap.size pc W.heap.size cs ty (fun V=>cu V (fun b=>w.heap.size<b/\b≠W.heap.size) e xs/\cK V (fun b=>w.heap.size<b/\b≠W.heap.size) v ys) l (W.alloc (.cells cs ty)):=by
 have hn:=K.nn;refine K.open cs (fun h=>⟨h.1.2.keep (.of_ext (I W _)) (fun b hb hlt=>⟨hb,by omega⟩),h.2.keep (.of_ext (I W _)) (fun b hb hlt=>⟨hb,by omega⟩)⟩) fun k hk V V' hV h=> ?_;have hkk:cw (fun b=>w.heap.size<b/\b≠W.heap.size) V V':= .of_grown hV fun b hb e=>by injection e with e;omega
 exact⟨h.1.keep hkk (fun b hb _=>hb),h.2.keep hkk (fun b hb _=>hb)⟩
theorem SK.if1 (K:SK w g en pb pc sb sc ty X l W) {f:Nat} (hIf:BH f) (hf:4*l.length+3<=f) {s:St} {q:List bK} (h:m6 f l= .ok (s,q)):Calls prog 182 #[.pointer (some ⟨g,0,none⟩)] W fun e W'=>
  ∃A n c B m d C i j,e= .returned (.agg #[.int .i64 s.k, .string (ah s.nm), .slice A n c, .slice B m d, .slice C i j])/\Hid (SK w g en pb pc sb sc ty (fun V=>X V/\cK V (fun b=>sb<b) (.slice (some ⟨W'.heap.size,0,none⟩) 1 1) [s]) q (W'.alloc (.cells #[.int .i64 s.k, .string (ah s.nm), .slice A n c, .slice B m d, .slice C i j] 72))):=by
 refine(K.if hIf hf h).mono fun e W' hh=> ?_;obtain⟨A,n,c,B,m,d,C,i,j,rfl,k⟩:=hh;have k:=k.out;have hE:=I W' (.cells #[.int .i64 s.k, .string (ah s.nm), .slice A n c, .slice B m d, .slice C i j] 72);have hz:=k.sv.lt;refine⟨A,n,c,B,m,d,C,i,j,rfl,G ?_⟩;have k2:=(k.ext hE).with (Y:=fun V=>cK V (fun b=>sb<b) (.slice (some ⟨W'.heap.size,0,none⟩) 1 1) [s]) (cK.one (am W' _ _) (by omega) (k.xx.2.keep (.of_ext hE) (fun _ hb _=>hb))) fun k hk V V' hV h=>h.keep (.of_grown hV fun b hb e=>by have:=K.nn;injection e with e;omega) (fun b hb _=>hb);exact⟨k2.pa,k2.gr,k2.rb,k2.sv,k2.nn,⟨k2.xx.1.1,k2.xx.2⟩,fun k hk V V' hV h=>⟨K.hx k hk V V' hV h.1,h.2.keep (.of_grown hV fun b hb e=>by have:=K.nn;injection e with e;omega) (fun b hb _=>hb)⟩⟩
end
theorem zI (f:Nat) (hEx:eA f) (hBl:lc f) (hIf:BH f):BH (f+1):=by
 intro l en w g h hf;have hgl:=h.lt;have K:=G (SK.one h #[.int .i64 0, .string ⟨#[]⟩, .slice none 0 0, .slice none 0 0, .slice none 0 0] 72);have hrg:w.heap.size≠g:=by omega
 have hgr:g≠w.heap.size:=by omega
 obtain⟨hrc,hrf,hsc,hsf⟩:=K.out.cells;clear h;go_enter func182,ntmps182;have hfe:4*l.length+2<=f:=by omega
 cases hx:bN f 1 l with
 |error p=>
  obtain⟨q,er⟩:=p;go_wp2_with (go_at_call 183;refine(K.out.xerr hEx hfe hx).mono ?_;unfold aZ;rintro e wx ⟨rfl,HG⟩);exact⟨rfl,cO (by rw[m6,hx,bI]) HG.out⟩
 |ok p=>
  obtain⟨x,r⟩:=p;have hlx:=(iu f).1 _ _ _ _ hx;have hfb:4*r.length+1<=f:=by omega
  go_wp2_with (go_at_call 183;refine(K.out.expr hEx hfe hx).mono ?_;rintro e w1 ⟨A,n,c,rfl,K⟩;clear hrc hrf hsc hsf;obtain⟨hrc,hrf,hsc,hsf⟩:=K.out.cells)
  cases hb:db f r with
  |error p=>
   obtain⟨q,er⟩:=p;go_wp2_with (go_at_call 104;refine(K.out.berr hBl hfb hb).mono ?_;unfold aZ;rintro e wx ⟨rfl,HG⟩);exact⟨rfl,cO (by rw[m6,hx,then_ok,hb,bI]) HG.out⟩
  |ok p=>
   obtain⟨b,r2⟩:=p;have hlb:=(mW f).1 _ _ _ hb;go_wp2_with (go_at_call 104;refine(K.out.block hBl hfb hb).mono ?_;rintro e w2 ⟨B,m,d,rfl,K⟩;have hz2:=K.out.rb.lt;have K:=G (K.out.open2 #[.int .i64 4, .string ⟨#[]⟩, .slice (some ⟨w1.heap.size,0,none⟩) 1 1, .slice B m d, .slice none 0 0]);clear hrc hrf hsc hsf;obtain⟨hrc,hrf,hsc,hsf⟩:=K.out.cells);have hsg:w2.heap.size≠g:=by omega
   have hgs:g≠w2.heap.size:=by omega
   have hpq:w.heap.size≠w2.heap.size:=by omega
   have hsp:w2.heap.size≠w.heap.size:=by omega
   cases he:cI As r2 with
   |true=>
    have hle:=bq he;go_wp2_with (go_at_call 98;refine(K.out.yes he).mono ?_;rintro e wx ⟨rfl,K⟩;clear hrc hrf hsc hsf;obtain⟨hrc,hrf,hsc,hsf⟩:=K.out.cells)
    cases hi:cI Cb r2.tail with
    |true=>
     have hli:=bq hi;have hfi:4*r2.tail.tail.length+3<=f:=by omega
     go_wp2_with (go_at_call 98;refine(K.out.yes hi).mono ?_;rintro e wx ⟨rfl,K⟩;clear hrc hrf hsc hsf;obtain⟨hrc,hrf,hsc,hsf⟩:=K.out.cells)
     cases hc:m6 f r2.tail.tail with
     |error p=>
      obtain⟨q,er⟩:=p;go_wp2_with (go_at_call 182;refine(K.out.ierr hIf hfi hc).mono ?_;unfold aZ;rintro e wx ⟨rfl,HG⟩);exact⟨rfl,cO (by rw[m6,hx,then_ok,hb,then_ok,if_pos he,if_pos hi,hc,bI]) HG.out⟩
     |ok p=>
      obtain⟨t,q⟩:=p;go_wp2_with (go_at_call 182;refine(K.out.if1 hIf hfi hc).mono ?_;rintro e w5 ⟨A1,n1,c1,A2,n2,c2,A3,n3,c3,rfl,K⟩;clear hrc hrf hsc hsf;obtain⟨hrc,hrf,hsc,hsf⟩:=K.out.cells;have k:=K.out.set (by omega) 4 (.slice (some ⟨w5.heap.size,0,none⟩) 1 1);simp only[World.setCells,aA,Nat.reduceAdd,a8,bL,bV]at k;have K:=G k;clear k);obtain⟨hset,hfin⟩:=K.out.fin (r:=m6 (f+1) l) (.mk 4 [] [x] b [t]) 4 ⟨#[]⟩ (some ⟨w1.heap.size,0,none⟩) 1 1 B m d (some ⟨w5.heap.size,0,none⟩) 1 1 (by rw[m6,hx,then_ok,hb,then_ok,if_pos he,if_pos hi,hc,then_ok]) rfl rfl (fun h=>⟨h.1.1.mono (fun b hb _=>hb.1),h.1.2.mono (fun b hb _=>hb.1),h.2.mono (fun b hb _=>by omega)⟩);simp only[World.setCells,aA,Nat.reduceAdd]at hset hfin;exact bodyPost_ret (v:= .agg #[.int .i64 4, .string ⟨#[]⟩, .slice (some ⟨w1.heap.size,0,none⟩) 1 1, .slice B m d, .slice (some ⟨w5.heap.size,0,none⟩) 1 1]) (by simp[results,results182,go_sem,hset]) rfl hfin
    |false=>
     have hfi:4*r2.tail.length+1<=f:=by omega
     have hN:=hi;go_wp2_with (go_at_call 98;refine(K.out.no hN).mono ?_;rintro e wx ⟨rfl,K⟩;clear hN;clear hrc hrf hsc hsf;obtain⟨hrc,hrf,hsc,hsf⟩:=K.out.cells)
     cases hc:db f r2.tail with
     |error p=>
      obtain⟨q,er⟩:=p;go_wp2_with (go_at_call 104;refine(K.out.berr hBl hfi hc).mono ?_;unfold aZ;rintro e wx ⟨rfl,HG⟩);exact⟨rfl,cO (by rw[m6,hx,then_ok,hb,then_ok,if_pos he,if_neg (by simp[hi]),hc,bI]) HG.out⟩
     |ok p=>
      obtain⟨t,q⟩:=p;go_wp2_with (go_at_call 104;refine(K.out.block hBl hfi hc).mono ?_;rintro e wx ⟨C,i,j,rfl,K⟩;clear hrc hrf hsc hsf;obtain⟨hrc,hrf,hsc,hsf⟩:=K.out.cells;have k:=K.out.set (by omega) 4 (.slice C i j);simp only[World.setCells,aA,Nat.reduceAdd,a8,bL,bV]at k;have K:=G k;clear k);obtain⟨hset,hfin⟩:=K.out.fin (r:=m6 (f+1) l) (.mk 4 [] [x] b t) 4 ⟨#[]⟩ (some ⟨w1.heap.size,0,none⟩) 1 1 B m d C i j (by rw[m6,hx,then_ok,hb,then_ok,if_pos he,if_neg (by simp[hi]),hc,then_ok]) rfl rfl (fun h=>⟨h.1.1.mono (fun b hb _=>hb.1),h.1.2.mono (fun b hb _=>hb.1),h.2.mono (fun b hb _=>by omega)⟩);simp only[World.setCells,aA,Nat.reduceAdd]at hset hfin;exact bodyPost_ret (v:= .agg #[.int .i64 4, .string ⟨#[]⟩, .slice (some ⟨w1.heap.size,0,none⟩) 1 1, .slice B m d, .slice C i j]) (by simp[results,results182,go_sem,hset]) rfl hfin
   |false=>
    have hN:=he;go_wp2_with (go_at_call 98;refine(K.out.no hN).mono ?_;rintro e wx ⟨rfl,K⟩;clear hN;clear hrc hrf hsc hsf;obtain⟨hrc,hrf,hsc,hsf⟩:=K.out.cells);obtain⟨hset,hfin⟩:=K.out.fin (r:=m6 (f+1) l) (.mk 4 [] [x] b []) 4 ⟨#[]⟩ (some ⟨w1.heap.size,0,none⟩) 1 1 B m d none 0 0 (by rw[m6,hx,then_ok,hb,then_ok,if_neg (by simp[he])]) rfl rfl (fun h=>⟨h.1.mono (fun b hb _=>hb.1),h.2.mono (fun b hb _=>hb.1), .nil _ _⟩);simp only[World.setCells,aA,Nat.reduceAdd]at hset hfin;exact bodyPost_ret (v:= .agg #[.int .i64 4, .string ⟨#[]⟩, .slice (some ⟨w1.heap.size,0,none⟩) 1 1, .slice B m d, .slice none 0 0]) (by simp[results,results182,go_sem,hset]) rfl hfin
end
section
open Go.RowKit
theorem f9.lit {w:World} {base:Nat} {x:Ex} {A:Option Addr} {n c:Nat} (hb:base<=w.heap.size) (h:cu w (fun b=>base<=b) (.slice A n c) x.args):f9 (w.alloc (.cells #[.int .i64 x.k, .string (ah x.op), .string (ah x.nm), .string (ah x.tx), .int .i64 x.v, .slice A n c] 70)) base 70 (.slice (some ⟨w.heap.size,0,none⟩) 1 1) [(x, .slice A n c)]:=by
 refine⟨World.ownsRow_lit w _ 1 hb (by simp[maxLen]) rfl,fun p hp=> ?_⟩;rw[cA]at hp;subst hp;exact h.keep (.of_ext (I w _)) (fun b hb hlt=>⟨hb,fun e=>by have e:b=w.heap.size:=O e;omega⟩)
theorem tI (x:Ex) (A:Option Addr) (n c:Nat): ∀u∈uS x (.slice A n c),u.oneCell'=true:=by
 intro u hu;simp only[uS,fB,ej,or_false]at hu;rcases hu with rfl|rfl|rfl|rfl|rfl|rfl<;>rfl
section
variable {w W W':World} {g pb sb:Nat} {en:Int} {pc sc:Array Value} {ty:TypeId} {X:World->Prop} {l l':List bK}
theorem SK.named (K:SK w g en pb pc sb sc ty X l W) {f:Nat} {nm:List UInt8} (hNa:ib f) (hf:4*l.length+1<=f) {x:Ex} {q:List bK} (h:cj f nm l= .ok (x,q)):Calls prog 206 #[.pointer (some ⟨g,0,none⟩), .string (ah nm)] W fun e W'=>
  ∃A n c,e= .returned (.agg #[.int .i64 x.k, .string (ah x.op), .string (ah x.nm), .string (ah x.tx), .int .i64 x.v, .slice A n c])/\Hid (SK w g en pb pc sb sc ty (fun V=>X V/\cu V (fun b=>sb<b) (.slice (some ⟨W'.heap.size,0,none⟩) 1 1) [x]) q (W'.alloc (.cells #[.int .i64 x.k, .string (ah x.op), .string (ah x.nm), .string (ah x.tx), .int .i64 x.v, .slice A n c] 70))):=by
 have hc:=hNa nm l en W g K.pa hf;rw[h]at hc;refine hc.mono fun e W' hh=> ?_;obtain⟨hG,A,n,c,rfl,hR,hPA⟩:=hh;have hE:=I W' (.cells #[.int .i64 x.k, .string (ah x.op), .string (ah x.nm), .string (ah x.tx), .int .i64 x.v, .slice A n c] 70);have hz:=K.sv.lt;have hz2:=hG.size;exact⟨A,n,c,rfl,G (((K.step hPA hG).ext hE).with (iD (am W' _ _) (by omega) (hR.keep (.of_ext hE) (fun b hb _=>by omega))) fun k hk V V' hV h=>h.keep (.of_grown hV fun b hb e=>by have:=K.nn;injection e with e;omega) (fun b hb _=>hb))⟩
theorem SK.nerr (K:SK w g en pb pc sb sc ty X l W) {f:Nat} {nm:List UInt8} (hNa:ib f) (hf:4*l.length+1<=f) {q:List bK} {n:Int} (h:cj f nm l= .error (q,n)):Calls prog 206 #[.pointer (some ⟨g,0,none⟩), .string (ah nm)] W fun e W'=>e=aZ en q n/\Hid (w.grownBy W' (some g)):=by
 have hc:=hNa nm l en W g K.pa hf;rw[h]at hc;exact hc.mono fun e W' hh=>⟨hh.2,G (ak K.gr hh.1)⟩
theorem SK.exOwn (K:SK w g en pb pc sb sc ty X l W) {f:Nat} (hEx:eA f) (hf:4*l.length+2<=f) {x:Ex} {q:List bK} (h:bN f 1 l= .ok (x,q)):Calls prog 183 #[.pointer (some ⟨g,0,none⟩), .int .i64 1] W fun e W'=>
  ∃A n c,e= .returned (.agg #[.int .i64 x.k, .string (ah x.op), .string (ah x.nm), .string (ah x.tx), .int .i64 x.v, .slice A n c])/\Hid (SK w g en pb pc sb sc ty (fun V=>f9 V (sb+1) 70 (.slice (some ⟨W'.heap.size,0,none⟩) 1 1) [(x, .slice A n c)]) q (W'.alloc (.cells #[.int .i64 x.k, .string (ah x.op), .string (ah x.nm), .string (ah x.tx), .int .i64 x.v, .slice A n c] 70))):=by
 have hc:=hEx 1 l en W g K.pa (by decide) (by decide) hf;rw[h]at hc;refine hc.mono fun e W' hh=> ?_;obtain⟨hG,A,n,c,rfl,hR,hPA⟩:=hh;have hz:=K.sv.lt;have hz2:=hG.size;have hn:=K.nn;have hO:=f9.lit (x:=x) (base:=sb+1) (w:=W') (by omega) (hR.mono (fun b hb _=>by omega));exact⟨A,n,c,rfl,G (((K.step hPA hG).ext (I W' _)).app ⟨rfl,rfl,rfl,ag _,fun _ _ _=>rfl⟩ (row:=none) (fun k e=>by cases e) hO fun k hk V V' hV h=>h.grown hV (fun k e=>by injection e with e;omega))⟩
end
theorem qy (f:Nat) (hEx:eA f) (hNa:ib f) (l:List bK) (en:Int) (w:World) (g:Nat) (h:PA w g l en) (hf:4*l.length+2<=f):Calls prog 184 #[.pointer (some ⟨g,0,none⟩)] w (vC g en w (fP f l)):=by
 have hgl:=h.lt;have K:=G (SK.one h #[.int .i64 0, .string ⟨#[]⟩, .slice none 0 0, .slice none 0 0, .slice none 0 0] 72);have hrg:w.heap.size≠g:=by omega
 have hgr:g≠w.heap.size:=by omega
 obtain⟨hrc,hrf,hsc,hsf⟩:=K.out.cells;clear h;go_enter func184,ntmps184;by_cases hk:(cg l).k=1
 rotate_left
 ·go_wp2_with (go_at_call 101;refine(K.out.noname hk).mono ?_;unfold aZ;rintro e wx ⟨rfl,HG⟩);exact⟨rfl,cO (by unfold fP;rw[j8 hk,bI]) HG.out⟩
 have hlt:=gK (l:=l) (by rw[hk];decide);go_wp2_with (go_at_call 101;refine(K.out.name hk).mono ?_;rintro e w1 ⟨rfl,K⟩;have hz1:=K.out.rb.lt;have K:=G (K.out.open (Y:=fun V=>f9 V (w1.heap.size+1) 70 (.slice none 0 0) []) #[.int .i64 2, .string (ah (cg l).t), .slice none 0 0, .slice none 0 0, .slice none 0 0] (fun _=>pp _ _ _) fun _ _ _ _ _ _=>pp _ _ _);have hsg:w1.heap.size≠g:=(by omega);have hgs:g≠w1.heap.size:=(by omega);have hps:w.heap.size≠w1.heap.size:=(by omega);have hsp:w1.heap.size≠w.heap.size:=(by omega);clear hrc hrf hsc hsf;obtain⟨hrc,hrf,hsc,hsf⟩:=K.out.cells)
 cases hlp:cI lY l.tail with
 |true=>
  have hfn:4*l.tail.length+1<=f:=by omega
  go_wp2_with (go_at_call 145;refine(K.out.is hlp).mono ?_;rintro e wx ⟨rfl,K⟩;clear hrc hrf hsc hsf;obtain⟨hrc,hrf,hsc,hsf⟩:=K.out.cells)
  cases hx:cj f (cg l).t l.tail with
  |error p=>
   obtain⟨q,er⟩:=p;go_wp2_with (go_at_call 206;refine(K.out.nerr hNa hfn hx).mono ?_;unfold aZ;rintro e wx ⟨rfl,HG⟩);exact⟨rfl,cO (by unfold fP;rw[bH hk,then_ok,if_pos hlp,hx,bI]) HG.out⟩
  |ok p=>
   obtain⟨x,q⟩:=p;go_wp2_with (go_at_call 206;refine(K.out.named hNa hfn hx).mono ?_;rintro e w3 ⟨A,n,c,rfl,K⟩;clear hrc hrf hsc hsf;obtain⟨hrc,hrf,hsc,hsf⟩:=K.out.cells);obtain⟨hset,hfin⟩:=K.out.fin (r:=fP f l) (.mk 7 [] [x] [] []) 7 ⟨#[]⟩ (some ⟨w3.heap.size,0,none⟩) 1 1 none 0 0 none 0 0 (by unfold fP;rw[bH hk,then_ok,if_pos hlp,hx,then_ok]) rfl rfl (fun h=>⟨h.2.mono (fun b hb _=>by omega), .nil _ _, .nil _ _⟩);simp only[World.setCells,aA,Nat.reduceAdd]at hset hfin;exact bodyPost_ret (v:= .agg #[.int .i64 7, .string ⟨#[]⟩, .slice (some ⟨w3.heap.size,0,none⟩) 1 1, .slice none 0 0, .slice none 0 0]) (by simp[results,results184,go_sem,hset]) rfl hfin
 |false=>
  go_wp2_with (go_at_call 145;refine(K.out.is hlp).mono ?_;rintro e wx ⟨rfl,K⟩;clear hrc hrf hsc hsf;obtain⟨hrc,hrf,hsc,hsf⟩:=K.out.cells)
  cases hls:cI pL l.tail with
  |true=>
   have hlb:=bq hls;have hfx:4*l.tail.tail.length+2<=f:=by omega
   go_wp2_with (go_at_call 98;refine(K.out.yes hls).mono ?_;rintro e wx ⟨rfl,K⟩;clear hrc hrf hsc hsf;obtain⟨hrc,hrf,hsc,hsf⟩:=K.out.cells)
   cases hx:bN f 1 l.tail.tail with
   |error p=>
    obtain⟨q,er⟩:=p;go_wp2_with (go_at_call 183;refine(K.out.xerr hEx hfx hx).mono ?_;unfold aZ;rintro e wx ⟨rfl,HG⟩);exact⟨rfl,cO (by unfold fP;rw[bH hk,then_ok,if_neg (by simp[hlp]),if_pos hls,hx,bI]) HG.out⟩
   |ok p=>
    obtain⟨x,r⟩:=p;have hlx:=(iu f).1 _ _ _ _ hx;go_wp2_with (go_at_call 183;refine(K.out.exOwn hEx hfx hx).mono ?_;rintro e w5 ⟨A,n,c,rfl,K⟩;clear hrc hrf hsc hsf;obtain⟨hrc,hrf,hsc,hsf⟩:=K.out.cells;have k:=(K.out.set (by omega) 0 (.int .i64 3)).set (by omega) 2 (.slice (some ⟨w5.heap.size,0,none⟩) 1 1);simp only[World.setCells,aA,Nat.reduceAdd,a8,bL,bV]at k;have K:=G k;clear k)
    cases hrs:cI rE r with
    |true=>
     have hl1:=bq hrs;go_wp2_with (go_at_call 100;refine(K.out.want hrs).mono ?_;rintro e wx ⟨rfl,K⟩;clear hrc hrf hsc hsf;obtain⟨hrc,hrf,hsc,hsf⟩:=K.out.cells)
     cases heq:cI Ar r.tail with
     |true=>
      have hl2:=bq heq;have hfy:4*r.tail.tail.length+2<=f:=by omega
      go_wp2_with (go_at_call 100;refine(K.out.want heq).mono ?_;rintro e w4 ⟨rfl,K⟩;clear hrc hrf hsc hsf;obtain⟨hrc,hrf,hsc,hsf⟩:=K.out.cells)
      cases hy:bN f 1 r.tail.tail with
      |error p=>
       obtain⟨q,er⟩:=p;refine bO 5 8 [(3,fun v=>v= .agg #[.int .i64 0, .string ⟨#[]⟩, .string ⟨#[]⟩, .string ⟨#[]⟩, .int .i64 0, .slice none 0 0],fun _ _=>False),(4,fun v=> ∃gb,v= .slice (some ⟨gb,0,none⟩) 1 1,fun _ _=>True)] 3 (some g) mixed (by kernel_rfl) ⟨fun _ _ _ h _=>h,fun _ _ _ h _=>h,trivial⟩ ⟨.inl rfl, .inr fun _ _ _ h _=>h,trivial⟩ ?_;repeat (refine sx ?_ (fun w1 hU=> ?_) ?_;rotate_left;(focus have f1:=(K.out.sv.grown (aE hU) (fun e=>hsg (O e))).cell;clear hU;go_simp<;>with_reducible rfl);simp only[aY,aX,aW,aV,aU])
       refine bG _ _ (by rfl) rfl ⟨_,rfl⟩ rfl (fun w6 hT hp J hJ=> ?_) ?_
       ·clear hp;have hc:=((K.out.ext hT.un).xerr hEx hfy hy)
        clear hT;go_simp;refine hc.mono ?_;unfold aZ;rintro e w7 ⟨rfl,HG⟩;intro a' hd;exact⟨hd,cO (by unfold fP;rw[bH hk,then_ok,if_neg (by simp[hlp]),if_pos hls,hx,then_ok,co hrs,then_ok,co heq,then_ok,hy,bI]) HG.out⟩
       rintro _ rfl;simp only[aY,aX,aW,aV,aU];refine bZ _ _ (by rfl) rfl ⟨_,0,rfl⟩ (by simp) (fun w6 hU hp J hJ=> ?_) ?_
       ·clear hp;go_simp;exact hJ _ _ (I w6 _) ⟨_,rfl⟩ trivial
       rintro _ ⟨gb,rfl⟩;simp only[aY,aX,aW,aV,aU];intro w6 hw6 hp;exact(hp _ (.tail _ (.head _))).elim
      |ok p=>
       obtain⟨y,q⟩:=p;have hgd:g<w4.heap.size:=K.out.pa.lt;have hsd:w1.heap.size<w4.heap.size:=K.out.sv.lt
       refine bO 5 8 [(3,fun v=> ∃A n c,v= .agg #[.int .i64 y.k, .string (ah y.op), .string (ah y.nm), .string (ah y.tx), .int .i64 y.v, .slice A n c],fun v wx=> ∀A n c,v= .agg #[.int .i64 y.k, .string (ah y.op), .string (ah y.nm), .string (ah y.tx), .int .i64 y.v, .slice A n c]->cu wx (fun b=>w4.heap.size<=b) (.slice A n c) y.args/\PA wx g q en),
         (4,fun v=> ∃gb,v= .slice (some ⟨gb,0,none⟩) 1 1,fun v wx=> ∀gb,v= .slice (some ⟨gb,0,none⟩) 1 1->w4.heap.size<=gb/\ ∃A n c,aQ wx gb 70 #[.int .i64 y.k, .string (ah y.op), .string (ah y.nm), .string (ah y.tx), .int .i64 y.v, .slice A n c]/\cu wx (fun b=>w4.heap.size<=b) (.slice A n c) y.args)] 3 (some g) mixed (by kernel_rfl) ⟨fun _ _ _ h hx A n c e=>⟨(h A n c e).1.keep (.of_ext hx) (fun _ hb _=>hb),(h A n c e).2.ext hx⟩,fun _ _ _ h hx gb e=>let⟨q0,A,n,c,q1,q2⟩:=h gb e;⟨q0,A,n,c,q1.ext hx,q2.keep (.of_ext hx) (fun _ hb _=>hb)⟩,trivial⟩
        ⟨.inl rfl, .inr fun _ _ _ h hx gb e=>let⟨q0,A,n,c,q1,q2⟩:=h gb e;⟨q0,A,n,c,q1.grown hx (fun e=>by injection e with e;omega),q2.keep (.of_grown hx fun b hb e=>by injection e with e;omega) (fun _ hb _=>hb)⟩,trivial⟩ ?_
       repeat (refine sx ?_ (fun w1 hU=> ?_) ?_;rotate_left;(focus have f1:=(K.out.sv.grown (aE hU) (fun e=>hsg (O e))).cell;clear hU;go_simp<;>with_reducible rfl);simp only[aY,aX,aW,aV,aU])
       refine bG _ _ (by rfl) rfl ⟨_,none,0,0,rfl⟩ rfl (fun w6 hT hp J hJ=> ?_) ?_
       ·clear hp;have hc:=hEx 1 _ en w6 g (K.out.pa.ext hT.un) (by decide) (by decide) hfy;have HT6:=G hT.un;clear hT;go_simp;refine hc.mono ?_;intro e w7 hh;rw[hy]at hh;obtain⟨hG,A,n,c,rfl,hR,hPA⟩:=hh;exact hJ _ _ hG ⟨_,_,_,rfl⟩ (fun A' n' c' e=>by injection e with e;simp only[eV,dV,dY,and_true,true_and]at e;obtain⟨rfl,rfl,rfl⟩:=e;exact⟨hR.mono (fun b hb _=>aT (df HT6.out) hb),hPA⟩)
       rintro _ ⟨A2,n2,c2,rfl⟩;simp only[aY,aX,aW,aV,aU];refine bZ _ _ (by rfl) rfl ⟨_,0,rfl⟩ (by simp) (fun w6 hU hp J hJ=> ?_) ?_
       ·have h3:=(hp _ (.head _) (by kernel_rfl)) A2 n2 c2 rfl;have hz6:=(aE hU).size;clear hp hU;go_simp;exact hJ _ _ (I w6 _) ⟨_,rfl⟩ (fun gb e=>by injection e with e;injection e with e;injection e with e;subst e;exact⟨hz6,A2,n2,c2,am w6 _ _,h3.1.keep (.of_ext (I w6 _)) (fun _ hb _=>hb)⟩)
       rintro _ ⟨gb,rfl⟩;simp only[aY,aX,aW,aV,aU];intro w8 hw8 hp;obtain⟨hgb,A3,n3,c3,hB3,hR3⟩:=hp _ (.head _) gb rfl;have h3:=(hp _ (.tail _ (.head _)) A2 n2 c2 rfl).2;clear hp;simp only[aa,an];have hw8:=aE hw8;have hz8:=hw8.size;have hrow:=World.ownsRow.lt K.out.xx.1;have K:=G (K.out.step h3 hw8);have HA8:=G (hR3.mono (Q:=fun b=>w1.heap.size+1<=b/\some b≠Value.ownBlock (.slice (some ⟨w5.heap.size,0,none⟩) 1 1)) (fun b hb _=>⟨by omega,fun e=>by have:=(hrow b e.symm).2;omega⟩));clear hw8 h3 hR3 hrc hrf hsc hsf;refine eX De rfl _ _ rfl (w1.heap.size+1) _ 1 (fQ [(x, .slice A n c)]) rfl K.out.xx.1 gb (uS y (.slice A3 n3 c3)) rfl hB3 rfl (tI _ _ _ _) (by omega) (by decide) (by omega) ?_;intro A' cap' w9 hq1 hq2 hq3;have K:=G (K.out.app (Y:=fun V=>f9 V (w1.heap.size+1) 70 (.slice (some ⟨A',0,none⟩) 2 cap') [(x, .slice A n c),(y, .slice A3 n3 c3)]) hq2 (fun k e=>(hrow k e).1) (K.out.xx.snoc HA8.out hq1 hq2 hq3) fun k hk V V' hV h=>h.grown hV (fun k e=>by injection e with e;omega));obtain⟨hrc,hrf,hsc,hsf⟩:=K.out.cells;clear hq1 hq2 hq3 hB3 hrow;go_wp2_with fail;have K:=G (K.out.set (by omega) 2 (.slice (some ⟨A',0,none⟩) 2 cap'));obtain⟨hset,hfin⟩:=K.out.fin (r:=fP f l) (.mk 3 (cg l).t [x,y] [] []) 3 (ah (cg l).t) (some ⟨A',0,none⟩) 2 cap' none 0 0 none 0 0 (by unfold fP;rw[bH hk,then_ok,if_neg (by simp[hlp]),if_pos hls,hx,then_ok,co hrs,then_ok,co heq,then_ok,hy,then_ok]) rfl rfl (fun h=>⟨by have:=h.rd.mono (Q:=fun b=>w.heap.size<b) (fun b hb _=>by omega);simpa[St.ex]using this, .nil _ _, .nil _ _⟩);simp only[World.setCells,aA,Nat.reduceAdd]at hset hfin;exact bodyPost_ret (v:= .agg #[.int .i64 3, .string (ah (cg l).t), .slice (some ⟨A',0,none⟩) 2 cap', .slice none 0 0, .slice none 0 0]) (by simp[results,results184,go_sem,hset]) rfl hfin
     |false=>
      go_wp2_with (go_at_call 100;refine(K.out.bad heq).mono ?_;unfold aZ;rintro e wx ⟨rfl,HG⟩);exact⟨rfl,cO (by unfold fP;rw[bH hk,then_ok,if_neg (by simp[hlp]),if_pos hls,hx,then_ok,co hrs,then_ok,em heq,bI]) HG.out⟩
    |false=>
     go_wp2_with (go_at_call 100;refine(K.out.bad hrs).mono ?_;unfold aZ;rintro e wx ⟨rfl,HG⟩);exact⟨rfl,cO (by unfold fP;rw[bH hk,then_ok,if_neg (by simp[hlp]),if_pos hls,hx,then_ok,em hrs,bI]) HG.out⟩
  |false=>
   have hN:=hls;go_wp2_with (go_at_call 98;refine(K.out.no hN).mono ?_;rintro e wx ⟨rfl,K⟩;clear hN;clear hrc hrf hsc hsf;obtain⟨hrc,hrf,hsc,hsf⟩:=K.out.cells)
   cases heq:cI Ar l.tail with
   |true=>
    have hle:=bq heq;have hfy:4*l.tail.tail.length+2<=f:=by omega
    go_wp2_with (go_at_call 100;refine(K.out.want heq).mono ?_;rintro e w4 ⟨rfl,K⟩;clear hrc hrf hsc hsf;obtain⟨hrc,hrf,hsc,hsf⟩:=K.out.cells)
    cases hy:bN f 1 l.tail.tail with
    |error p=>
     obtain⟨q,er⟩:=p;refine bO 5 8 [(3,fun v=>v= .agg #[.int .i64 0, .string ⟨#[]⟩, .string ⟨#[]⟩, .string ⟨#[]⟩, .int .i64 0, .slice none 0 0],fun _ _=>False),(4,fun v=> ∃gb,v= .slice (some ⟨gb,0,none⟩) 1 1,fun _ _=>True)] 3 (some g) mixed (by kernel_rfl) ⟨fun _ _ _ h _=>h,fun _ _ _ h _=>h,trivial⟩ ⟨.inl rfl, .inr fun _ _ _ h _=>h,trivial⟩ ?_;repeat (refine sx ?_ (fun w1 hU=> ?_) ?_;rotate_left;(focus have f1:=(K.out.sv.grown (aE hU) (fun e=>hsg (O e))).cell;clear hU;go_simp<;>with_reducible rfl);simp only[aY,aX,aW,aV,aU])
     refine bG _ _ (by rfl) rfl ⟨_,rfl⟩ rfl (fun w6 hT hp J hJ=> ?_) ?_
     ·clear hp;have hc:=((K.out.ext hT.un).xerr hEx hfy hy)
      clear hT;go_simp;refine hc.mono ?_;unfold aZ;rintro e w7 ⟨rfl,HG⟩;intro a' hd;exact⟨hd,cO (by unfold fP;rw[bH hk,then_ok,if_neg (by simp[hlp]),if_neg (by simp[hls]),co heq,then_ok,hy,bI]) HG.out⟩
     rintro _ rfl;simp only[aY,aX,aW,aV,aU];refine bZ _ _ (by rfl) rfl ⟨_,0,rfl⟩ (by simp) (fun w6 hU hp J hJ=> ?_) ?_
     ·clear hp;go_simp;exact hJ _ _ (I w6 _) ⟨_,rfl⟩ trivial
     rintro _ ⟨gb,rfl⟩;simp only[aY,aX,aW,aV,aU];intro w6 hw6 hp;exact(hp _ (.tail _ (.head _))).elim
    |ok p=>
     obtain⟨y,q⟩:=p;have hgd:g<w4.heap.size:=K.out.pa.lt;have hsd:w1.heap.size<w4.heap.size:=K.out.sv.lt
     refine bO 5 8 [(3,fun v=> ∃A n c,v= .agg #[.int .i64 y.k, .string (ah y.op), .string (ah y.nm), .string (ah y.tx), .int .i64 y.v, .slice A n c],fun v wx=> ∀A n c,v= .agg #[.int .i64 y.k, .string (ah y.op), .string (ah y.nm), .string (ah y.tx), .int .i64 y.v, .slice A n c]->cu wx (fun b=>w4.heap.size<=b) (.slice A n c) y.args/\PA wx g q en),
       (4,fun v=> ∃gb,v= .slice (some ⟨gb,0,none⟩) 1 1,fun v wx=> ∀gb,v= .slice (some ⟨gb,0,none⟩) 1 1->w4.heap.size<=gb/\ ∃A n c,aQ wx gb 70 #[.int .i64 y.k, .string (ah y.op), .string (ah y.nm), .string (ah y.tx), .int .i64 y.v, .slice A n c]/\cu wx (fun b=>w4.heap.size<=b) (.slice A n c) y.args)] 3 (some g) mixed (by kernel_rfl) ⟨fun _ _ _ h hx A n c e=>⟨(h A n c e).1.keep (.of_ext hx) (fun _ hb _=>hb),(h A n c e).2.ext hx⟩,fun _ _ _ h hx gb e=>let⟨q0,A,n,c,q1,q2⟩:=h gb e;⟨q0,A,n,c,q1.ext hx,q2.keep (.of_ext hx) (fun _ hb _=>hb)⟩,trivial⟩
      ⟨.inl rfl, .inr fun _ _ _ h hx gb e=>let⟨q0,A,n,c,q1,q2⟩:=h gb e;⟨q0,A,n,c,q1.grown hx (fun e=>by injection e with e;omega),q2.keep (.of_grown hx fun b hb e=>by injection e with e;omega) (fun _ hb _=>hb)⟩,trivial⟩ ?_
     repeat (refine sx ?_ (fun w1 hU=> ?_) ?_;rotate_left;(focus have f1:=(K.out.sv.grown (aE hU) (fun e=>hsg (O e))).cell;clear hU;go_simp<;>with_reducible rfl);simp only[aY,aX,aW,aV,aU])
     refine bG _ _ (by rfl) rfl ⟨_,none,0,0,rfl⟩ rfl (fun w6 hT hp J hJ=> ?_) ?_
     ·clear hp;have hc:=hEx 1 _ en w6 g (K.out.pa.ext hT.un) (by decide) (by decide) hfy;have HT6:=G hT.un;clear hT;go_simp;refine hc.mono ?_;intro e w7 hh;rw[hy]at hh;obtain⟨hG,A,n,c,rfl,hR,hPA⟩:=hh;exact hJ _ _ hG ⟨_,_,_,rfl⟩ (fun A' n' c' e=>by injection e with e;simp only[eV,dV,dY,and_true,true_and]at e;obtain⟨rfl,rfl,rfl⟩:=e;exact⟨hR.mono (fun b hb _=>aT (df HT6.out) hb),hPA⟩)
     rintro _ ⟨A2,n2,c2,rfl⟩;simp only[aY,aX,aW,aV,aU];refine bZ _ _ (by rfl) rfl ⟨_,0,rfl⟩ (by simp) (fun w6 hU hp J hJ=> ?_) ?_
     ·have h3:=(hp _ (.head _) (by kernel_rfl)) A2 n2 c2 rfl;have hz6:=(aE hU).size;clear hp hU;go_simp;exact hJ _ _ (I w6 _) ⟨_,rfl⟩ (fun gb e=>by injection e with e;injection e with e;injection e with e;subst e;exact⟨hz6,A2,n2,c2,am w6 _ _,h3.1.keep (.of_ext (I w6 _)) (fun _ hb _=>hb)⟩)
     rintro _ ⟨gb,rfl⟩;simp only[aY,aX,aW,aV,aU];intro w8 hw8 hp;obtain⟨hgb,A3,n3,c3,hB3,hR3⟩:=hp _ (.head _) gb rfl;have h3:=(hp _ (.tail _ (.head _)) A2 n2 c2 rfl).2;clear hp;simp only[aa,an];have hw8:=aE hw8;have hz8:=hw8.size;have hrow:=World.ownsRow.lt K.out.xx.1;have K:=G (K.out.step h3 hw8);have HA8:=G (hR3.mono (Q:=fun b=>w1.heap.size+1<=b/\some b≠Value.ownBlock (.slice none 0 0)) (fun b hb _=>⟨by omega,fun e=>by have:=(hrow b e.symm).2;omega⟩));clear hw8 h3 hR3 hrc hrf hsc hsf;refine eX De rfl _ _ rfl (w1.heap.size+1) _ 0 (fQ []) rfl K.out.xx.1 gb (uS y (.slice A3 n3 c3)) rfl hB3 rfl (tI _ _ _ _) (by omega) (by decide) (by omega) ?_;intro A' cap' w9 hq1 hq2 hq3;have K:=G (K.out.app (Y:=fun V=>f9 V (w1.heap.size+1) 70 (.slice (some ⟨A',0,none⟩) 1 cap') [(y, .slice A3 n3 c3)]) hq2 (fun k e=>(hrow k e).1) (K.out.xx.snoc HA8.out hq1 hq2 hq3) fun k hk V V' hV h=>h.grown hV (fun k e=>by injection e with e;omega));obtain⟨hrc,hrf,hsc,hsf⟩:=K.out.cells;clear hq1 hq2 hq3 hB3 hrow;go_wp2_with fail;have K:=G (K.out.set (by omega) 2 (.slice (some ⟨A',0,none⟩) 1 cap'));obtain⟨hset,hfin⟩:=K.out.fin (r:=fP f l) (.mk 2 (cg l).t [y] [] []) 2 (ah (cg l).t) (some ⟨A',0,none⟩) 1 cap' none 0 0 none 0 0 (by unfold fP;rw[bH hk,then_ok,if_neg (by simp[hlp]),if_neg (by simp[hls]),co heq,then_ok,hy,then_ok]) rfl rfl (fun h=>⟨by have:=h.rd.mono (Q:=fun b=>w.heap.size<b) (fun b hb _=>by omega);simpa[St.ex]using this, .nil _ _, .nil _ _⟩);simp only[World.setCells,aA,Nat.reduceAdd]at hset hfin;exact bodyPost_ret (v:= .agg #[.int .i64 2, .string (ah (cg l).t), .slice (some ⟨A',0,none⟩) 1 cap', .slice none 0 0, .slice none 0 0]) (by simp[results,results184,go_sem,hset]) rfl hfin
   |false=>
    go_wp2_with (go_at_call 100;refine(K.out.bad heq).mono ?_;unfold aZ;rintro e wx ⟨rfl,HG⟩);exact⟨rfl,cO (by unfold fP;rw[bH hk,then_ok,if_neg (by simp[hlp]),if_neg (by simp[hls]),em heq,bI]) HG.out⟩
end
section
open Go.RowKit
theorem ul {w:World} {g:Nat} {l:List bK} {en:Int} (h:PA w g l en):SK w g en w.heap.size #[.int .i64 0, .string ⟨#[]⟩, .slice none 0 0, .slice none 0 0, .slice none 0 0] (w.heap.size+1) #[.int .i64 0, .string ⟨#[]⟩, .slice none 0 0, .slice none 0 0, .slice none 0 0] 72 (fun _=>True) l ((w.alloc (.cells #[.int .i64 0, .string ⟨#[]⟩, .slice none 0 0, .slice none 0 0, .slice none 0 0] 72)).alloc (.cells #[.int .i64 0, .string ⟨#[]⟩, .slice none 0 0, .slice none 0 0, .slice none 0 0] 72)):=by
 have hb:=am (w.alloc (.cells #[.int .i64 0, .string ⟨#[]⟩, .slice none 0 0, .slice none 0 0, .slice none 0 0] 72)) 72 #[.int .i64 0, .string ⟨#[]⟩, .slice none 0 0, .slice none 0 0, .slice none 0 0];rw[World.size_alloc]at hb;have hE:=(I w (.cells #[.int .i64 0, .string ⟨#[]⟩, .slice none 0 0, .slice none 0 0, .slice none 0 0] 72)).alloc' (.cells #[.int .i64 0, .string ⟨#[]⟩, .slice none 0 0, .slice none 0 0, .slice none 0 0] 72);have hl:=h.lt;exact⟨h.ext hE,hE.grownBy _,(am w _ _).alloc _,hb,by omega,trivial,fun _ _ _ _ _ _=>trivial⟩
section
variable {w W W':World} {g pb sb:Nat} {en:Int} {pc sc:Array Value} {ty:TypeId} {X:World->Prop} {l l':List bK}
theorem SK.simp (K:SK w g en pb pc sb sc ty X l W) {f:Nat} (hEx:eA f) (hNa:ib f) (hf:4*l.length+2<=f) {s:St} {q:List bK} (h:fP f l= .ok (s,q)):Calls prog 184 #[.pointer (some ⟨g,0,none⟩)] W fun e W'=>
  ∃A n c B m d C i j,e= .returned (.agg #[.int .i64 s.k, .string (ah s.nm), .slice A n c, .slice B m d, .slice C i j])/\Hid (SK w g en pb pc sb sc ty (fun V=>X V/\SV.ok V (fun b=>sb<b) ⟨s, .slice A n c, .slice B m d, .slice C i j⟩) q W'):=by
 have hc:=qy f hEx hNa l en W g K.pa hf;rw[h]at hc;refine hc.mono fun e W' hh=> ?_;obtain⟨hG,A,n,c,B,m,d,C,i,j,rfl,hV,hPA⟩:=hh;have hz:=K.sv.lt;exact⟨A,n,c,B,m,d,C,i,j,rfl,G ((K.step hPA hG).with (hV.keep ⟨ag _,fun _ _ _=>rfl⟩ (fun b hb _=>by omega)) fun k hk V V' hV h=>h.keep (.of_grown hV fun b hb e=>by have:=K.nn;injection e with e;omega) (fun b hb _=>hb))⟩
theorem SK.serr (K:SK w g en pb pc sb sc ty X l W) {f:Nat} (hEx:eA f) (hNa:ib f) (hf:4*l.length+2<=f) {q:List bK} {n:Int} (h:fP f l= .error (q,n)):Calls prog 184 #[.pointer (some ⟨g,0,none⟩)] W fun e W'=>e=aZ en q n/\Hid (w.grownBy W' (some g)):=by
 have hc:=qy f hEx hNa l en W g K.pa hf;rw[h]at hc;exact hc.mono fun e W' hh=>⟨hh.2,G (ak K.gr hh.1)⟩
end
theorem uk (f:Nat) (hEx:eA f) (hNa:ib f) (hBl:lc f) (hIf:BH f):yq (f+1):=by
 intro l en w g h hf;have hgl:=h.lt;have K:=G (ul h);have hrg:w.heap.size≠g:=by omega
 have hsg:w.heap.size+1≠g:=by omega
 have hgr:g≠w.heap.size:=by omega
 have hgs:g≠w.heap.size+1:=by omega
 obtain⟨hrc,hrf,hsc,hsf⟩:=K.out.cells;clear h;go_enter func148,ntmps148
 cases h1:cI Cb l with
 |true=>
  have hlt:=bq h1;have hfi:4*l.tail.length+3<=f:=by omega
  go_wp2_with (go_at_call 98;refine(K.out.yes h1).mono ?_;rintro e wx ⟨rfl,K⟩;clear hrc hrf hsc hsf;obtain⟨hrc,hrf,hsc,hsf⟩:=K.out.cells)
  cases hc:m6 f l.tail with
  |error p=>
   obtain⟨q,er⟩:=p;go_wp2_with (go_at_call 182;refine(K.out.ierr hIf hfi hc).mono ?_;unfold aZ;rintro e wx ⟨rfl,HG⟩);exact⟨rfl,cO (by rw[c_,if_pos h1,hc]) HG.out⟩
  |ok p=>
   obtain⟨s,q⟩:=p;go_wp2_with (go_at_call 182;refine(K.out.if hIf hfi hc).mono ?_;rintro e wx ⟨A1,n1,c1,A2,n2,c2,A3,n3,c3,rfl,K⟩;clear hrc hrf hsc hsf;obtain⟨hrc,hrf,hsc,hsf⟩:=K.out.cells);obtain⟨hset,hfin⟩:=K.out.fin (r:=c_ (f+1) l) (s) s.k (ah s.nm) A1 n1 c1 A2 n2 c2 A3 n3 c3 (by rw[c_,if_pos h1,hc]) rfl rfl (fun h=>h.2.keep ⟨ag _,fun _ _ _=>rfl⟩ (fun b hb _=>by omega));simp only[World.setCells,aA,Nat.reduceAdd]at hset hfin;exact bodyPost_ret (v:= .agg #[.int .i64 s.k, .string (ah s.nm), .slice A1 n1 c1, .slice A2 n2 c2, .slice A3 n3 c3]) (by simp[results,results148,go_sem,hset]) rfl hfin
 |false=>
  have hN:=h1;go_wp2_with (go_at_call 98;refine(K.out.no hN).mono ?_;rintro e wx ⟨rfl,K⟩;clear hN;clear hrc hrf hsc hsf;obtain⟨hrc,hrf,hsc,hsf⟩:=K.out.cells)
  cases h2:cI r7 l with
  |true=>
   have hlt:=bq h2;have hfe:4*l.tail.length+2<=f:=by omega
   go_wp2_with (go_at_call 98;refine(K.out.yes h2).mono ?_;rintro e wx ⟨rfl,K⟩;clear hrc hrf hsc hsf;obtain⟨hrc,hrf,hsc,hsf⟩:=K.out.cells)
   cases hx:bN f 1 l.tail with
   |error p=>
    obtain⟨q,er⟩:=p;go_wp2_with (go_at_call 183;refine(K.out.xerr hEx hfe hx).mono ?_;unfold aZ;rintro e wx ⟨rfl,HG⟩);exact⟨rfl,cO (by rw[c_,if_neg (by simp[h1]),if_pos h2,hx,bI]) HG.out⟩
   |ok p=>
    obtain⟨x,r⟩:=p;go_wp2_with (go_at_call 183;refine(K.out.expr hEx hfe hx).mono ?_;rintro e w3 ⟨A,n,c,rfl,K⟩;clear hrc hrf hsc hsf;obtain⟨hrc,hrf,hsc,hsf⟩:=K.out.cells);have hlx:=(iu f).1 _ _ _ _ hx;have hfb:4*r.length+1<=f:=by omega
    cases hb:db f r with
    |error p=>
     obtain⟨q,er⟩:=p;go_wp2_with (go_at_call 104;refine(K.out.berr hBl hfb hb).mono ?_;unfold aZ;rintro e wx ⟨rfl,HG⟩);exact⟨rfl,cO (by rw[c_,if_neg (by simp[h1]),if_pos h2,hx,then_ok,hb,bI]) HG.out⟩
    |ok p=>
     obtain⟨b,q⟩:=p;go_wp2_with (go_at_call 104;refine(K.out.block hBl hfb hb).mono ?_;rintro e wx ⟨B,m,d,rfl,K⟩;clear hrc hrf hsc hsf;obtain⟨hrc,hrf,hsc,hsf⟩:=K.out.cells);obtain⟨hset,hfin⟩:=K.out.fin (r:=c_ (f+1) l) (.mk 5 [] [x] b []) 5 ⟨#[]⟩ (some ⟨w3.heap.size,0,none⟩) 1 1 B m d none 0 0 (by rw[c_,if_neg (by simp[h1]),if_pos h2,hx,then_ok,hb,then_ok]) rfl rfl (fun h=>⟨h.1.2.mono (fun b hb _=>by omega),h.2.mono (fun b hb _=>by omega), .nil _ _⟩);simp only[World.setCells,aA,Nat.reduceAdd]at hset hfin;exact bodyPost_ret (v:= .agg #[.int .i64 5, .string ⟨#[]⟩, .slice (some ⟨w3.heap.size,0,none⟩) 1 1, .slice B m d, .slice none 0 0]) (by simp[results,results148,go_sem,hset]) rfl hfin
  |false=>
   have hN:=h2;go_wp2_with (go_at_call 98;refine(K.out.no hN).mono ?_;rintro e wx ⟨rfl,K⟩;clear hN;clear hrc hrf hsc hsf;obtain⟨hrc,hrf,hsc,hsf⟩:=K.out.cells)
   cases h3:cI lz l with
   |true=>
    have hlt:=bq h3;go_wp2_with (go_at_call 98;refine(K.out.yes h3).mono ?_;rintro e wx ⟨rfl,K⟩;clear hrc hrf hsc hsf;obtain⟨hrc,hrf,hsc,hsf⟩:=K.out.cells);by_cases hk:(cg l.tail).k=1
    rotate_left
    ·go_wp2_with (go_at_call 101;refine(K.out.noname hk).mono ?_;unfold aZ;rintro e wx ⟨rfl,HG⟩);exact⟨rfl,cO (by rw[c_,if_neg (by simp[h1]),if_neg (by simp[h2]),if_pos h3,j8 hk,bI]) HG.out⟩
    have hlk:=gK (l:=l.tail) (by rw[hk];decide);go_wp2_with (go_at_call 101;refine(K.out.name hk).mono ?_;rintro e wx ⟨rfl,K⟩;clear hrc hrf hsc hsf;obtain⟨hrc,hrf,hsc,hsf⟩:=K.out.cells;have k:=K.out.put5 (by omega) (.int .i64 1) (.string (ah (cg l.tail).t)) (.slice none 0 0) (.slice none 0 0) (.slice none 0 0);simp only[World.setCells,aA,Nat.reduceAdd,a8,bL,bV]at k;have K:=G k;clear k)
    cases he:cI Ar l.tail.tail with
    |true=>
     have hle:=bq he;have hfe:4*l.tail.tail.tail.length+2<=f:=by omega
     go_wp2_with (go_at_call 98;refine(K.out.yes he).mono ?_;rintro e wx ⟨rfl,K⟩;clear hrc hrf hsc hsf;obtain⟨hrc,hrf,hsc,hsf⟩:=K.out.cells)
     cases hx:bN f 1 l.tail.tail.tail with
     |error p=>
      obtain⟨q,er⟩:=p;go_wp2_with (go_at_call 183;refine(K.out.xerr hEx hfe hx).mono ?_;unfold aZ;rintro e wx ⟨rfl,HG⟩);exact⟨rfl,cO (by rw[c_,if_neg (by simp[h1]),if_neg (by simp[h2]),if_pos h3,bH hk,then_ok,if_pos he,hx,bI,bI]) HG.out⟩
     |ok p=>
      obtain⟨x,r⟩:=p;go_wp2_with (go_at_call 183;refine(K.out.expr hEx hfe hx).mono ?_;rintro e w3 ⟨A,n,c,rfl,K⟩;clear hrc hrf hsc hsf;obtain⟨hrc,hrf,hsc,hsf⟩:=K.out.cells;have k:=K.out.set (by omega) 2 (.slice (some ⟨w3.heap.size,0,none⟩) 1 1);simp only[World.setCells,aA,Nat.reduceAdd,a8,bL,bV]at k;have K:=G k;clear k)
      cases hs:cI uu r with
      |true=>
       go_wp2_with (go_at_call 100;refine(K.out.want hs).mono ?_;rintro e wx ⟨rfl,K⟩;clear hrc hrf hsc hsf;obtain⟨hrc,hrf,hsc,hsf⟩:=K.out.cells);obtain⟨hset,hfin⟩:=K.out.fin (r:=c_ (f+1) l) (.mk 1 (cg l.tail).t [x] [] []) 1 (ah (cg l.tail).t) (some ⟨w3.heap.size,0,none⟩) 1 1 none 0 0 none 0 0 (by rw[c_,if_neg (by simp[h1]),if_neg (by simp[h2]),if_pos h3,bH hk,then_ok,if_pos he,hx,then_ok,then_ok,co hs,then_ok]) rfl rfl (fun h=>⟨h.2.mono (fun b hb _=>by omega), .nil _ _, .nil _ _⟩);simp only[World.setCells,aA,Nat.reduceAdd]at hset hfin;exact bodyPost_ret (v:= .agg #[.int .i64 1, .string (ah (cg l.tail).t), .slice (some ⟨w3.heap.size,0,none⟩) 1 1, .slice none 0 0, .slice none 0 0]) (by simp[results,results148,go_sem,hset]) rfl hfin
      |false=>
       go_wp2_with (go_at_call 100;refine(K.out.bad hs).mono ?_;unfold aZ;rintro e wx ⟨rfl,HG⟩);exact⟨rfl,cO (by rw[c_,if_neg (by simp[h1]),if_neg (by simp[h2]),if_pos h3,bH hk,then_ok,if_pos he,hx,then_ok,then_ok,em hs,bI]) HG.out⟩
    |false=>
     have hN:=he;go_wp2_with (go_at_call 98;refine(K.out.no hN).mono ?_;rintro e wx ⟨rfl,K⟩;clear hN;clear hrc hrf hsc hsf;obtain⟨hrc,hrf,hsc,hsf⟩:=K.out.cells)
     cases hs:cI uu l.tail.tail with
     |true=>
      go_wp2_with (go_at_call 100;refine(K.out.want hs).mono ?_;rintro e wx ⟨rfl,K⟩;clear hrc hrf hsc hsf;obtain⟨hrc,hrf,hsc,hsf⟩:=K.out.cells);obtain⟨hset,hfin⟩:=K.out.fin (r:=c_ (f+1) l) (.mk 1 (cg l.tail).t [] [] []) 1 (ah (cg l.tail).t) none 0 0 none 0 0 none 0 0 (by rw[c_,if_neg (by simp[h1]),if_neg (by simp[h2]),if_pos h3,bH hk,then_ok,if_neg (by simp[he]),then_ok,co hs,then_ok]) rfl rfl (fun _=>⟨.nil _ _, .nil _ _, .nil _ _⟩);simp only[World.setCells,aA,Nat.reduceAdd]at hset hfin;exact bodyPost_ret (v:= .agg #[.int .i64 1, .string (ah (cg l.tail).t), .slice none 0 0, .slice none 0 0, .slice none 0 0]) (by simp[results,results148,go_sem,hset]) rfl hfin
     |false=>
      go_wp2_with (go_at_call 100;refine(K.out.bad hs).mono ?_;unfold aZ;rintro e wx ⟨rfl,HG⟩);exact⟨rfl,cO (by rw[c_,if_neg (by simp[h1]),if_neg (by simp[h2]),if_pos h3,bH hk,then_ok,if_neg (by simp[he]),then_ok,em hs,bI]) HG.out⟩
   |false=>
    have hN:=h3;go_wp2_with (go_at_call 98;refine(K.out.no hN).mono ?_;rintro e wx ⟨rfl,K⟩;clear hN;clear hrc hrf hsc hsf;obtain⟨hrc,hrf,hsc,hsf⟩:=K.out.cells)
    cases h4:cI pK l with
    |true=>
     have hlt:=bq h4;go_wp2_with (go_at_call 98;refine(K.out.yes h4).mono ?_;rintro e wx ⟨rfl,K⟩;clear hrc hrf hsc hsf;obtain⟨hrc,hrf,hsc,hsf⟩:=K.out.cells;have k:=K.out.put5 (by omega) (.int .i64 6) (.string ⟨#[]⟩) (.slice none 0 0) (.slice none 0 0) (.slice none 0 0);simp only[World.setCells,aA,Nat.reduceAdd,a8,bL,bV]at k;have K:=G k;clear k)
     cases hs:cI uu l.tail with
     |true=>
      go_wp2_with (go_at_call 145;refine(K.out.is hs).mono ?_;rintro e wx ⟨rfl,K⟩;clear hrc hrf hsc hsf;obtain⟨hrc,hrf,hsc,hsf⟩:=K.out.cells);go_wp2_with (go_at_call 100;refine(K.out.want hs).mono ?_;rintro e wx ⟨rfl,K⟩;clear hrc hrf hsc hsf;obtain⟨hrc,hrf,hsc,hsf⟩:=K.out.cells);obtain⟨hset,hfin⟩:=K.out.fin (r:=c_ (f+1) l) (.mk 6 [] [] [] []) 6 ⟨#[]⟩ none 0 0 none 0 0 none 0 0 (by rw[c_,if_neg (by simp[h1]),if_neg (by simp[h2]),if_neg (by simp[h3]),if_pos h4,if_pos hs,then_ok,co hs,then_ok]) rfl rfl (fun _=>⟨.nil _ _, .nil _ _, .nil _ _⟩);simp only[World.setCells,aA,Nat.reduceAdd]at hset hfin;exact bodyPost_ret (v:= .agg #[.int .i64 6, .string ⟨#[]⟩, .slice none 0 0, .slice none 0 0, .slice none 0 0]) (by simp[results,results148,go_sem,hset]) rfl hfin
     |false=>
      have hfe:4*l.tail.length+2<=f:=by omega
      go_wp2_with (go_at_call 145;refine(K.out.is hs).mono ?_;rintro e wx ⟨rfl,K⟩;clear hrc hrf hsc hsf;obtain⟨hrc,hrf,hsc,hsf⟩:=K.out.cells)
      cases hx:bN f 1 l.tail with
      |error p=>
       obtain⟨q,er⟩:=p;go_wp2_with (go_at_call 183;refine(K.out.xerr hEx hfe hx).mono ?_;unfold aZ;rintro e wx ⟨rfl,HG⟩);exact⟨rfl,cO (by rw[c_,if_neg (by simp[h1]),if_neg (by simp[h2]),if_neg (by simp[h3]),if_pos h4,if_neg (by simp[hs]),hx,bI,bI]) HG.out⟩
      |ok p=>
       obtain⟨x,r⟩:=p;go_wp2_with (go_at_call 183;refine(K.out.expr hEx hfe hx).mono ?_;rintro e w3 ⟨A,n,c,rfl,K⟩;clear hrc hrf hsc hsf;obtain⟨hrc,hrf,hsc,hsf⟩:=K.out.cells;have k:=K.out.set (by omega) 2 (.slice (some ⟨w3.heap.size,0,none⟩) 1 1);simp only[World.setCells,aA,Nat.reduceAdd,a8,bL,bV]at k;have K:=G k;clear k)
       cases ht:cI uu r with
       |true=>
        go_wp2_with (go_at_call 100;refine(K.out.want ht).mono ?_;rintro e wx ⟨rfl,K⟩;clear hrc hrf hsc hsf;obtain⟨hrc,hrf,hsc,hsf⟩:=K.out.cells);obtain⟨hset,hfin⟩:=K.out.fin (r:=c_ (f+1) l) (.mk 6 [] [x] [] []) 6 ⟨#[]⟩ (some ⟨w3.heap.size,0,none⟩) 1 1 none 0 0 none 0 0 (by rw[c_,if_neg (by simp[h1]),if_neg (by simp[h2]),if_neg (by simp[h3]),if_pos h4,if_neg (by simp[hs]),hx,then_ok,then_ok,co ht,then_ok]) rfl rfl (fun h=>⟨h.2.mono (fun b hb _=>by omega), .nil _ _, .nil _ _⟩);simp only[World.setCells,aA,Nat.reduceAdd]at hset hfin;exact bodyPost_ret (v:= .agg #[.int .i64 6, .string ⟨#[]⟩, .slice (some ⟨w3.heap.size,0,none⟩) 1 1, .slice none 0 0, .slice none 0 0]) (by simp[results,results148,go_sem,hset]) rfl hfin
       |false=>
        go_wp2_with (go_at_call 100;refine(K.out.bad ht).mono ?_;unfold aZ;rintro e wx ⟨rfl,HG⟩);exact⟨rfl,cO (by rw[c_,if_neg (by simp[h1]),if_neg (by simp[h2]),if_neg (by simp[h3]),if_pos h4,if_neg (by simp[hs]),hx,then_ok,then_ok,em ht,bI]) HG.out⟩
    |false=>
     have hfs:4*l.length+2<=f:=by omega
     have hN:=h4;go_wp2_with (go_at_call 98;refine(K.out.no hN).mono ?_;rintro e wx ⟨rfl,K⟩;clear hN;clear hrc hrf hsc hsf;obtain⟨hrc,hrf,hsc,hsf⟩:=K.out.cells)
     cases hc:fP f l with
     |error p=>
      obtain⟨q,er⟩:=p;go_wp2_with (go_at_call 184;refine(K.out.serr hEx hNa hfs hc).mono ?_;unfold aZ;rintro e wx ⟨rfl,HG⟩);exact⟨rfl,cO (by rw[kS f l h1 h2 h3 h4,hc,bI]) HG.out⟩
     |ok p=>
      obtain⟨s,r⟩:=p;go_wp2_with (go_at_call 184;refine(K.out.simp hEx hNa hfs hc).mono ?_;rintro e wx ⟨A1,n1,c1,A2,n2,c2,A3,n3,c3,rfl,K⟩;clear hrc hrf hsc hsf;obtain⟨hrc,hrf,hsc,hsf⟩:=K.out.cells;have k:=K.out.put5 (by omega) (.int .i64 s.k) (.string (ah s.nm)) (.slice A1 n1 c1) (.slice A2 n2 c2) (.slice A3 n3 c3);simp only[World.setCells,aA,Nat.reduceAdd,a8,bL,bV]at k;have K:=G k;clear k)
      cases hs:cI uu r with
      |true=>
       go_wp2_with (go_at_call 100;refine(K.out.want hs).mono ?_;rintro e wx ⟨rfl,K⟩;clear hrc hrf hsc hsf;obtain⟨hrc,hrf,hsc,hsf⟩:=K.out.cells);obtain⟨hset,hfin⟩:=K.out.fin (r:=c_ (f+1) l) (s) s.k (ah s.nm) A1 n1 c1 A2 n2 c2 A3 n3 c3 (by rw[kS f l h1 h2 h3 h4,hc,then_ok,co hs,then_ok]) rfl rfl (fun h=>h.2.keep ⟨ag _,fun _ _ _=>rfl⟩ (fun b hb _=>by omega));simp only[World.setCells,aA,Nat.reduceAdd]at hset hfin;exact bodyPost_ret (v:= .agg #[.int .i64 s.k, .string (ah s.nm), .slice A1 n1 c1, .slice A2 n2 c2, .slice A3 n3 c3]) (by simp[results,results148,go_sem,hset]) rfl hfin
      |false=>
       go_wp2_with (go_at_call 100;refine(K.out.bad hs).mono ?_;unfold aZ;rintro e wx ⟨rfl,HG⟩);exact⟨rfl,cO (by rw[kS f l h1 h2 h3 h4,hc,then_ok,em hs,bI]) HG.out⟩
theorem qw: ∀(f:Nat),f<=400000->(∀i,i<=f->yq i)/\lc f/\BH f
 |0,_=>by
  refine⟨fun i hi=> ?_,?_,?_⟩
  ·obtain rfl:i=0:=by omega
   intro l en w g h hf;omega
  ·intro l en w g h hf;omega
  ·intro l en w g h hf;omega
 |f+1,hf=>by
  obtain⟨h1,h2,h3⟩:=qw f (by omega);have hE:=xD (f:=f) (by omega);have hS:=uk f hE (uH (by omega)) h2 h3
  exact⟨fun i hi=>by
   rcases fe f i with h|h
   ·obtain rfl:i=f+1:=by omega
    exact hS
   ·exact h1 i h,sK f (by omega) h1,zI f hE h2 h3⟩
theorem o6 {f:Nat} (hf:f<=400000):lc f:=(qw f hf).2.1
end
end Go.Proofs.YtddomeddabfinaaGreatDoor
