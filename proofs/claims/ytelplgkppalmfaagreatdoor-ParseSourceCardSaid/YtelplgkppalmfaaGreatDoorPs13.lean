/-
  Parts of the proof: ParSk ParT ParU ParV.
-/
import Derived.Test.YtelplgkppalmfaaGreatDoorPs00
import Derived.Test.YtelplgkppalmfaaGreatDoorPs12
set_option maxRecDepth 100000
set_option maxHeartbeats 8000000
set_option linter.unusedVariables false
set_option linter.unusedSimpArgs false
namespace Go.Proofs.YtelplgkppalmfaaGreatDoor
open Go.Proofs.Tryz
section
open Go.RowKit
theorem cP.one {w:World} {P:Nat->Prop} {gb:Nat} {e:TypeId} {s:St} {a b c:Value} (hB:aT w gb e #[.int .i64 s.k, .string (ae s.nm),a,b,c]) (hP:P gb) (h:SV.ok w P ⟨s,a,b,c⟩):cP w P (.slice (some ⟨gb,0,none⟩) 1 1) [s]:=by
 refine .row gb 0 1 1 [s] (fun _=>a) (fun _=>b) (fun _=>c) hP hB.lt rfl (ag _) (by simp[maxLen]) (fun i hi=> ?_) (fun i hi=> ?_) (fun i hi=> ?_) (fun i hi=> ?_);all_goals
  have hi:i=0:=by simpa using hi
  subst hi
 ·exact⟨hB.cell 0,hB.cell 1,hB.cell 2,hB.cell 3,hB.cell 4⟩
 ·exact h.1
 ·exact h.2.1
 ·exact h.2.2
theorem xW {w W:World} {g pr:Nat} {en:Int} {q:List bB} {z0 z1 z2 z3 z4:Value} {r:PR St} (s:St) (k:Int) (sn:ByteArray) (A:Option Addr) (n c:Nat) (B:Option Addr) (m d:Nat) (C:Option Addr) (i j:Nat) (hr:r= .ok (s,q)) (hk:s.k=k) (hn:ae s.nm=sn) (hpr:w.heap.size<=pr)
  (hB:aT W pr 76 #[z0,z1,z2,z3,z4]) (hG:w.grownBy W (some g)) (hPA:PA W g q en) (hg:g<w.heap.size) (hV:SV.ok W (fun b=>pr<b) ⟨s, .slice A n c, .slice B m d, .slice C i j⟩):
  (∀o,(W.setCells pr 0 [.int .i64 k, .string sn, .slice A n c, .slice B m d, .slice C i j]).cell? ⟨pr,o,none⟩=(#[.int .i64 k, .string sn, .slice A n c, .slice B m d, .slice C i j]:Array Value)[o]?)/\
  tG g en w r (.returned (.agg #[.int .i64 k, .string sn, .slice A n c, .slice B m d, .slice C i j])) (W.setCells pr 0 [.int .i64 k, .string sn, .slice A n c, .slice B m d, .slice C i j]):=by
 subst hr hk hn;have hc:=bG pr [.int .i64 s.k, .string (ae s.nm), .slice A n c, .slice B m d, .slice C i j] 0 W;refine⟨(lO hB _ _ _ _ _).cell,bX hG hc hpr,A,n,c,B,m,d,C,i,j,rfl,hV.keep (.of_grown hc fun b hb e=>by injection e with e;omega) fun b hb _=>by omega,hPA.grown hc fun k e=>by injection e with e;omega⟩
def fN (f:Nat) (l:List bB):PR St:=(ge l).then fun nm r=>
 if b6 fi r then(ch f nm r).then fun x r=> .ok (.mk 7 [] [x] [] [],r)
 else if b6 jD r then(bT f 1 r.tail).then fun i r=>(bP jq r).then fun _ r=>(bP l9 r).then fun _ r=>(bT f 1 r).then fun x r=> .ok (.mk 3 nm [i,x] [] [],r)
 else(bP l9 r).then fun _ r=>(bT f 1 r).then fun x r=> .ok (.mk 2 nm [x] [] [],r)
theorem kz (f:Nat) (l:List bB) (h1:b6 sF l=false) (h2:b6 lz l=false) (h3:b6 gA l=false) (h4:b6 j6 l=false):de (f+1) l=(fN f l).then fun s r=>(bP iu r).then fun _ r=> .ok (s,r):=by
 rw[de,if_neg (by rw[h1];simp),if_neg (by rw[h2];simp),if_neg (by rw[h3];simp),if_neg (by rw[h4];simp)];unfold fN
 cases ge l<;>rfl
theorem cB {s:List UInt8} {l:List bB} (h:b6 s l=true):bP s l= .ok ((),l.tail):=by unfold bP;rw[h];rfl
theorem ew {s:List UInt8} {l:List bB} (h:b6 s l=false):bP s l= .error (l,3):=by unfold bP;rw[h];rfl
theorem bU {l:List bB} (h:(bV l).k=1):ge l= .ok ((bV l).t,l.tail):=by unfold ge;rw[if_pos h]
theorem jR {l:List bB} (h: ¬(bV l).k=1):ge l= .error (l,3):=by unfold ge;rw[if_neg h]
theorem then_ok {α β:Type} (a:α) (r:List bB) (k:α->List bB->PR β):PR.then (.ok (a,r)) k=k a r:=rfl
theorem bm {α β:Type} (q:List bB) (n:Int) (k:α->List bB->PR β):PR.then (.error (q,n)) k= .error (q,n):=rfl
structure SK (w:World) (g:Nat) (en:Int) (pb:Nat) (pc:Array Value) (sb:Nat) (sc:Array Value) (ty:TypeId) (X:World->Prop) (l:List bB) (W:World):Prop where
 pa:PA W g l en
 gr:w.grownBy W (some g)
 rb:aT W pb ty pc
 sv:aT W sb ty sc
 nn:g<w.heap.size/\w.heap.size<=pb/\pb<=sb
 xx:X W
 hx: ∀k,k=g\/k=sb-> ∀V V':World,V.grownBy V' (some k)->X V->X V'
section
variable {w W W':World} {g pb sb:Nat} {en:Int} {pc sc:Array Value} {ty:TypeId} {X:World->Prop} {l l':List bB}
theorem SK.step (K:SK w g en pb pc sb sc ty X l W) (hP:PA W' g l' en) (hG:W.grownBy W' (some g)):SK w g en pb pc sb sc ty X l' W':=
 ⟨hP,ah K.gr hG,K.rb.grown hG (fun e=>by have:=K.nn;injection e with e;omega),K.sv.grown hG (fun e=>by have:=K.nn;injection e with e;omega),K.nn,K.hx _ (.inl rfl) _ _ hG K.xx,K.hx⟩
theorem SK.ext (K:SK w g en pb pc sb sc ty X l W) (hE:al W W'):SK w g en pb pc sb sc ty X l W':=K.step (K.pa.ext hE) (hE.grownBy _)
theorem SK.cells (K:SK w g en pb pc sb sc ty X l W):(∀i,W.cell? ⟨pb,i,none⟩=pc[i]?)/\(∀i,W.frozen? ⟨pb,i,none⟩=false)/\(∀i,W.cell? ⟨sb,i,none⟩=sc[i]?)/\ ∀i,W.frozen? ⟨sb,i,none⟩=false:=
 ⟨K.rb.cell,K.rb.frozen,K.sv.cell,K.sv.frozen⟩
theorem SK.yes (K:SK w g en pb pc sb sc ty X l W) {s:List UInt8} (h:b6 s l=true):Calls prog 61 #[.pointer (some ⟨g,0,none⟩), .string (ae s)] W fun e W'=>e= .returned (.bool true)/\Hid (SK w g en pb pc sb sc ty X l.tail W'):=by
 have:=cv g l en s W K.pa;rw[h]at this;exact this.mono fun e W' hh=>⟨hh.1,G (K.step hh.2.1 hh.2.2)⟩
theorem SK.no (K:SK w g en pb pc sb sc ty X l W) {s:List UInt8} (h:b6 s l=false):Calls prog 61 #[.pointer (some ⟨g,0,none⟩), .string (ae s)] W fun e W'=>e= .returned (.bool false)/\Hid (SK w g en pb pc sb sc ty X l W'):=by
 have:=cv g l en s W K.pa;rw[h]at this;exact this.mono fun e W' hh=>⟨hh.1,G (K.step hh.2.1 hh.2.2)⟩
theorem SK.is (K:SK w g en pb pc sb sc ty X l W) {s:List UInt8} {b:Bool} (h:b6 s l=b):Calls prog 115 #[.pointer (some ⟨g,0,none⟩), .string (ae s)] W fun e W'=>e= .returned (.bool b)/\Hid (SK w g en pb pc sb sc ty X l W'):=by
 have:=gi g l en s W K.pa;rw[h]at this;exact this.mono fun e W' hh=>⟨hh.1,G (K.ext hh.2)⟩
theorem SK.want (K:SK w g en pb pc sb sc ty X l W) {s:List UInt8} (h:b6 s l=true):Calls prog 63 #[.pointer (some ⟨g,0,none⟩), .string (ae s)] W fun e W'=>e= .returned (.tuple #[])/\Hid (SK w g en pb pc sb sc ty X l.tail W'):=
 (dZ g l en s W K.pa h).mono fun e W' hh=>⟨hh.1,G (K.step hh.2.1 hh.2.2)⟩
theorem SK.bad (K:SK w g en pb pc sb sc ty X l W) {s:List UInt8} (h:b6 s l=false):Calls prog 63 #[.pointer (some ⟨g,0,none⟩), .string (ae s)] W fun e W'=>e=bi en l 3/\Hid (w.grownBy W' (some g)):=
 (fV g l en s W K.pa h).mono fun e W' hh=>⟨hh.1,G (ah K.gr hh.2)⟩
theorem SK.name (K:SK w g en pb pc sb sc ty X l W) (h:(bV l).k=1):Calls prog 64 #[.pointer (some ⟨g,0,none⟩)] W fun e W'=>e= .returned (.string (ae (bV l).t))/\Hid (SK w g en pb pc sb sc ty X l.tail W'):=
 (iJ g l en W K.pa h).mono fun e W' hh=>⟨hh.1,G (K.step hh.2.1 hh.2.2)⟩
theorem SK.noname (K:SK w g en pb pc sb sc ty X l W) (h: ¬(bV l).k=1):Calls prog 64 #[.pointer (some ⟨g,0,none⟩)] W fun e W'=>e=bi en l 3/\Hid (w.grownBy W' (some g)):=
 (mP g l en W K.pa h).mono fun e W' hh=>⟨hh.1,G (ah K.gr hh.2)⟩
theorem SK.with (K:SK w g en pb pc sb sc ty X l W) {Y:World->Prop} (hY:Y W) (hy: ∀k,k=g\/k=sb-> ∀V V':World,V.grownBy V' (some k)->Y V->Y V'):SK w g en pb pc sb sc ty (fun V=>X V/\Y V) l W:=
 ⟨K.pa,K.gr,K.rb,K.sv,K.nn,⟨K.xx,hY⟩,fun k hk V V' hV h=>⟨K.hx k hk V V' hV h.1,hy k hk V V' hV h.2⟩⟩
theorem SK.expr (K:SK w g en pb pc sb sc ty X l W) {f:Nat} (hEx:eF f) (hf:4*l.length+2<=f) {x:Ex} {q:List bB} (h:bT f 1 l= .ok (x,q)):Calls prog 141 #[.pointer (some ⟨g,0,none⟩), .int .i64 1] W fun e W'=>
  ∃A n c,e= .returned (.agg #[.int .i64 x.k, .string (ae x.op), .string (ae x.nm), .string (ae x.tx), .int .i64 x.v, .slice A n c])/\
   Hid (SK w g en pb pc sb sc ty (fun V=>X V/\bZ V (fun b=>sb<b) (.slice (some ⟨W'.heap.size,0,none⟩) 1 1) [x]) q (W'.alloc (.cells #[.int .i64 x.k, .string (ae x.op), .string (ae x.nm), .string (ae x.tx), .int .i64 x.v, .slice A n c] 131))):=by
 have hK:=K;have hc:=hEx 1 l en W g K.pa (by decide) (by decide) hf;rw[h]at hc;refine hc.mono fun e W' hh=> ?_;obtain⟨hG,A,n,c,rfl,hR,hPA⟩:=hh;have hE:=O W' (.cells #[.int .i64 x.k, .string (ae x.op), .string (ae x.nm), .string (ae x.tx), .int .i64 x.v, .slice A n c] 131);have hz:=K.sv.lt;have hz2:=hG.size;refine⟨A,n,c,rfl,G (((K.step hPA hG).ext hE).with (gq (ai W' _ _) (by omega) (hR.keep (.of_ext hE) (fun b hb _=>by omega))) fun k hk V V' hV h=>h.keep (.of_grown hV fun b hb e=>by have:=K.nn;injection e with e;omega) (fun b hb _=>hb))⟩
theorem SK.xerr (K:SK w g en pb pc sb sc ty X l W) {f:Nat} (hEx:eF f) (hf:4*l.length+2<=f) {q:List bB} {n:Int} (h:bT f 1 l= .error (q,n)):Calls prog 141 #[.pointer (some ⟨g,0,none⟩), .int .i64 1] W fun e W'=>e=bi en q n/\Hid (w.grownBy W' (some g)):=by
 have hc:=hEx 1 l en W g K.pa (by decide) (by decide) hf;rw[h]at hc;exact hc.mono fun e W' hh=>⟨hh.2,G (ah K.gr hh.1)⟩
theorem SK.block (K:SK w g en pb pc sb sc ty X l W) {f:Nat} (hBl:kJ f) (hf:4*l.length+1<=f) {x:List St} {q:List bB} (h:cZ f l= .ok (x,q)):Calls prog 67 #[.pointer (some ⟨g,0,none⟩)] W fun e W'=>
  ∃A n c,e= .returned (.slice A n c)/\Hid (SK w g en pb pc sb sc ty (fun V=>X V/\cP V (fun b=>sb<b) (.slice A n c) x) q W'):=by
 have hc:=hBl l en W g K.pa hf;rw[h]at hc;refine hc.mono fun e W' hh=> ?_;obtain⟨hG,A,n,c,rfl,hR,hPA⟩:=hh;have hz:=K.sv.lt;exact⟨A,n,c,rfl,G ((K.step hPA hG).with (hR.mono (fun b hb _=>by omega)) fun k hk V V' hV h=>h.keep (.of_grown hV fun b hb e=>by have:=K.nn;injection e with e;omega) (fun b hb _=>hb))⟩
theorem SK.berr (K:SK w g en pb pc sb sc ty X l W) {f:Nat} (hBl:kJ f) (hf:4*l.length+1<=f) {q:List bB} {n:Int} (h:cZ f l= .error (q,n)):Calls prog 67 #[.pointer (some ⟨g,0,none⟩)] W fun e W'=>e=bi en q n/\Hid (w.grownBy W' (some g)):=by
 have hc:=hBl l en W g K.pa hf;rw[h]at hc;exact hc.mono fun e W' hh=>⟨hh.2,G (ah K.gr hh.1)⟩
theorem SK.if (K:SK w g en pb pc sb sc ty X l W) {f:Nat} (hIf:x8 f) (hf:4*l.length+3<=f) {s:St} {q:List bB} (h:lW f l= .ok (s,q)):Calls prog 140 #[.pointer (some ⟨g,0,none⟩)] W fun e W'=>
  ∃A n c B m d C i j,e= .returned (.agg #[.int .i64 s.k, .string (ae s.nm), .slice A n c, .slice B m d, .slice C i j])/\Hid (SK w g en pb pc sb sc ty (fun V=>X V/\SV.ok V (fun b=>sb<b) ⟨s, .slice A n c, .slice B m d, .slice C i j⟩) q W'):=by
 have hc:=hIf l en W g K.pa hf;rw[h]at hc;refine hc.mono fun e W' hh=> ?_;obtain⟨hG,A,n,c,B,m,d,C,i,j,rfl,hV,hPA⟩:=hh;have hz:=K.sv.lt;exact⟨A,n,c,B,m,d,C,i,j,rfl,G ((K.step hPA hG).with (hV.keep ⟨ag _,fun _ _ _=>rfl⟩ (fun b hb _=>by omega)) fun k hk V V' hV h=>h.keep (.of_grown hV fun b hb e=>by have:=K.nn;injection e with e;omega) (fun b hb _=>hb))⟩
theorem SK.ierr (K:SK w g en pb pc sb sc ty X l W) {f:Nat} (hIf:x8 f) (hf:4*l.length+3<=f) {q:List bB} {n:Int} (h:lW f l= .error (q,n)):Calls prog 140 #[.pointer (some ⟨g,0,none⟩)] W fun e W'=>e=bi en q n/\Hid (w.grownBy W' (some g)):=by
 have hc:=hIf l en W g K.pa hf;rw[h]at hc;exact hc.mono fun e W' hh=>⟨hh.2,G (ah K.gr hh.1)⟩
theorem SK.put5 {z0 z1 z2 z3 z4:Value} (K:SK w g en pb pc sb #[z0,z1,z2,z3,z4] ty X l W) (hb:pb<sb) (a b c d e:Value):SK w g en pb pc sb #[a,b,c,d,e] ty X l (W.setCells sb 0 [a,b,c,d,e]):=by
 have hc:=bG sb [a,b,c,d,e] 0 W;have hn:=K.nn;exact⟨K.pa.grown hc (fun k e=>by injection e with e;omega),bX K.gr hc (by omega),K.rb.grown hc (fun e=>by injection e with e;omega),lO K.sv ..,hn,K.hx _ (.inr rfl) _ _ hc K.xx,K.hx⟩
theorem SK.set (K:SK w g en pb pc sb sc ty X l W) (hb:pb<sb) (i:Nat) (v:Value):SK w g en pb pc sb (sc.setIfInBounds i v) ty X l (W.setCell ⟨sb,i,none⟩ v):=by
 have hc:=cg W sb i v;have hn:=K.nn;exact⟨K.pa.grown hc (fun k e=>by injection e with e;omega),bX K.gr hc (by omega),K.rb.grown hc (fun e=>by injection e with e;omega),K.sv.set i v,hn,K.hx _ (.inr rfl) _ _ hc K.xx,K.hx⟩
theorem SK.one (h:PA w g l en) (cs:Array Value) (ty:TypeId):SK w g en w.heap.size cs w.heap.size cs ty (fun _=>True) l (w.alloc (.cells cs ty)):=
 ⟨h.ext (O w _),(O w _).grownBy _,ai w _ _,ai w _ _,⟨h.lt,ag _,ag _⟩,trivial,fun _ _ _ _ _ _=>trivial⟩
theorem SK.open (K:SK w g en pb pc pb pc ty X l W) (cs:Array Value) {Y:World->Prop} (hY:X W->Y (W.alloc (.cells cs ty))) (hy: ∀k,k=g\/k=W.heap.size-> ∀V V':World,V.grownBy V' (some k)->Y V->Y V'):SK w g en pb pc W.heap.size cs ty Y l (W.alloc (.cells cs ty)):=by
 have hE:=O W (.cells cs ty);have hz:=K.rb.lt;have hn:=K.nn;exact⟨K.pa.ext hE,ah K.gr (hE.grownBy _),K.rb.ext hE,ai W _ _,by omega,hY K.xx,hy⟩
theorem SK.app (K:SK w g en pb pc sb sc ty X l W) {row:Option Nat} (hq:W.grownBy W' row) (hr: ∀k,row=some k->sb<k) {Y:World->Prop} (hY:Y W') (hy: ∀k,k=g\/k=sb-> ∀V V':World,V.grownBy V' (some k)->Y V->Y V'):SK w g en pb pc sb sc ty Y l W':=by
 have hn:=K.nn;refine⟨K.pa.grown hq (fun k e=>by have:=hr k e;omega),⟨hq.os.trans K.gr.os,hq.tape.trans K.gr.tape,hq.output.trans K.gr.output,aS K.gr.size hq.size,fun i hi hne=>(hq.block i (an hi K.gr.size) (fun e=>by have:=hr i e.symm;omega)).trans (K.gr.block i hi hne)⟩,K.rb.grown hq (fun e=>by have:=hr _ e.symm;omega),K.sv.grown hq (fun e=>by have:=hr _ e.symm;omega),hn,hY,hy⟩
end
theorem SK.fin {w W:World} {g sb:Nat} {en:Int} {z0 z1 z2 z3 z4:Value} {sc:Array Value} {X:World->Prop} {q:List bB} (K:SK w g en w.heap.size #[z0,z1,z2,z3,z4] sb sc 76 X q W) {r:PR St} (s:St) (k:Int) (sn:ByteArray) (A:Option Addr) (n c:Nat) (B:Option Addr) (m d:Nat) (C:Option Addr) (i j:Nat) (hr:r= .ok (s,q)) (hk:s.k=k) (hn:ae s.nm=sn)
  (hV:X W->SV.ok W (fun b=>w.heap.size<b) ⟨s, .slice A n c, .slice B m d, .slice C i j⟩):
  (∀o,(W.setCells w.heap.size 0 [.int .i64 k, .string sn, .slice A n c, .slice B m d, .slice C i j]).cell? ⟨w.heap.size,o,none⟩=(#[.int .i64 k, .string sn, .slice A n c, .slice B m d, .slice C i j]:Array Value)[o]?)/\
  tG g en w r (.returned (.agg #[.int .i64 k, .string sn, .slice A n c, .slice B m d, .slice C i j])) (W.setCells w.heap.size 0 [.int .i64 k, .string sn, .slice A n c, .slice B m d, .slice C i j]):=
 xW s k sn A n c B m d C i j hr hk hn (ag _) K.rb K.gr K.pa K.nn.1 (hV K.xx)
end
section
open Go.RowKit
section
variable {w W W':World} {g pb sb:Nat} {en:Int} {pc sc:Array Value} {ty:TypeId} {X:World->Prop} {l l':List bB}
theorem SK.open2 {e v:Value} {xs:List Ex} {ys:List St} (K:SK w g en w.heap.size pc w.heap.size pc ty (fun V=>(True/\bZ V (fun b=>w.heap.size<b) e xs)/\cP V (fun b=>w.heap.size<b) v ys) l W) (cs:Array Value):
  SK w g en w.heap.size pc W.heap.size cs ty (fun V=>bZ V (fun b=>w.heap.size<b/\b≠W.heap.size) e xs/\cP V (fun b=>w.heap.size<b/\b≠W.heap.size) v ys) l (W.alloc (.cells cs ty)):=by
 have hn:=K.nn;refine K.open cs (fun h=>⟨h.1.2.keep (.of_ext (O W _)) (fun b hb hlt=>⟨hb,by omega⟩),h.2.keep (.of_ext (O W _)) (fun b hb hlt=>⟨hb,by omega⟩)⟩) fun k hk V V' hV h=> ?_;have hkk:cV (fun b=>w.heap.size<b/\b≠W.heap.size) V V':= .of_grown hV fun b hb e=>by injection e with e;omega
 exact⟨h.1.keep hkk (fun b hb _=>hb),h.2.keep hkk (fun b hb _=>hb)⟩
theorem SK.if1 (K:SK w g en pb pc sb sc ty X l W) {f:Nat} (hIf:x8 f) (hf:4*l.length+3<=f) {s:St} {q:List bB} (h:lW f l= .ok (s,q)):Calls prog 140 #[.pointer (some ⟨g,0,none⟩)] W fun e W'=>
  ∃A n c B m d C i j,e= .returned (.agg #[.int .i64 s.k, .string (ae s.nm), .slice A n c, .slice B m d, .slice C i j])/\Hid (SK w g en pb pc sb sc ty (fun V=>X V/\cP V (fun b=>sb<b) (.slice (some ⟨W'.heap.size,0,none⟩) 1 1) [s]) q (W'.alloc (.cells #[.int .i64 s.k, .string (ae s.nm), .slice A n c, .slice B m d, .slice C i j] 76))):=by
 refine(K.if hIf hf h).mono fun e W' hh=> ?_;obtain⟨A,n,c,B,m,d,C,i,j,rfl,k⟩:=hh;have k:=k.out;have hE:=O W' (.cells #[.int .i64 s.k, .string (ae s.nm), .slice A n c, .slice B m d, .slice C i j] 76);have hz:=k.sv.lt;refine⟨A,n,c,B,m,d,C,i,j,rfl,G ?_⟩;have k2:=(k.ext hE).with (Y:=fun V=>cP V (fun b=>sb<b) (.slice (some ⟨W'.heap.size,0,none⟩) 1 1) [s]) (cP.one (ai W' _ _) (by omega) (k.xx.2.keep (.of_ext hE) (fun _ hb _=>hb))) fun k hk V V' hV h=>h.keep (.of_grown hV fun b hb e=>by have:=K.nn;injection e with e;omega) (fun b hb _=>hb);exact⟨k2.pa,k2.gr,k2.rb,k2.sv,k2.nn,⟨k2.xx.1.1,k2.xx.2⟩,fun k hk V V' hV h=>⟨K.hx k hk V V' hV h.1,h.2.keep (.of_grown hV fun b hb e=>by have:=K.nn;injection e with e;omega) (fun b hb _=>hb)⟩⟩
end
theorem wk (f:Nat) (hEx:eF f) (hBl:kJ f) (hIf:x8 f):x8 (f+1):=by
 intro l en w g h hf;have hgl:=h.lt;have K:=G (SK.one h #[.int .i64 0, .string ⟨#[]⟩, .slice none 0 0, .slice none 0 0, .slice none 0 0] 76);have hrg:w.heap.size≠g:=by omega
 have hgr:g≠w.heap.size:=by omega
 obtain⟨hrc,hrf,hsc,hsf⟩:=K.out.cells;clear h;go_enter func140,ntmps140;have hfe:4*l.length+2<=f:=by omega
 cases hx:bT f 1 l with
 |error p=>
  obtain⟨q,er⟩:=p;go_wp2_with (go_at_call 141;refine(K.out.xerr hEx hfe hx).mono ?_;unfold bi;rintro e wx ⟨rfl,HG⟩);exact⟨rfl,cY (by rw[lW,hx,bm]) HG.out⟩
 |ok p=>
  obtain⟨x,r⟩:=p;have hlx:=(f7 f).1 _ _ _ _ hx;have hfb:4*r.length+1<=f:=by omega
  go_wp2_with (go_at_call 141;refine(K.out.expr hEx hfe hx).mono ?_;rintro e w1 ⟨A,n,c,rfl,K⟩;clear hrc hrf hsc hsf;obtain⟨hrc,hrf,hsc,hsf⟩:=K.out.cells)
  cases hb:cZ f r with
  |error p=>
   obtain⟨q,er⟩:=p;go_wp2_with (go_at_call 67;refine(K.out.berr hBl hfb hb).mono ?_;unfold bi;rintro e wx ⟨rfl,HG⟩);exact⟨rfl,cY (by rw[lW,hx,then_ok,hb,bm]) HG.out⟩
  |ok p=>
   obtain⟨b,r2⟩:=p;have hlb:=(iz f).1 _ _ _ hb;go_wp2_with (go_at_call 67;refine(K.out.block hBl hfb hb).mono ?_;rintro e w2 ⟨B,m,d,rfl,K⟩;have hz2:=K.out.rb.lt;have K:=G (K.out.open2 #[.int .i64 4, .string ⟨#[]⟩, .slice (some ⟨w1.heap.size,0,none⟩) 1 1, .slice B m d, .slice none 0 0]);clear hrc hrf hsc hsf;obtain⟨hrc,hrf,hsc,hsf⟩:=K.out.cells);have hsg:w2.heap.size≠g:=by omega
   have hgs:g≠w2.heap.size:=by omega
   have hpq:w.heap.size≠w2.heap.size:=by omega
   have hsp:w2.heap.size≠w.heap.size:=by omega
   cases he:b6 nS r2 with
   |true=>
    have hle:=aW he;go_wp2_with (go_at_call 61;refine(K.out.yes he).mono ?_;rintro e wx ⟨rfl,K⟩;clear hrc hrf hsc hsf;obtain⟨hrc,hrf,hsc,hsf⟩:=K.out.cells)
    cases hi:b6 sF r2.tail with
    |true=>
     have hli:=aW hi;have hfi:4*r2.tail.tail.length+3<=f:=by omega
     go_wp2_with (go_at_call 61;refine(K.out.yes hi).mono ?_;rintro e wx ⟨rfl,K⟩;clear hrc hrf hsc hsf;obtain⟨hrc,hrf,hsc,hsf⟩:=K.out.cells)
     cases hc:lW f r2.tail.tail with
     |error p=>
      obtain⟨q,er⟩:=p;go_wp2_with (go_at_call 140;refine(K.out.ierr hIf hfi hc).mono ?_;unfold bi;rintro e wx ⟨rfl,HG⟩);exact⟨rfl,cY (by rw[lW,hx,then_ok,hb,then_ok,if_pos he,if_pos hi,hc,bm]) HG.out⟩
     |ok p=>
      obtain⟨t,q⟩:=p;go_wp2_with (go_at_call 140;refine(K.out.if1 hIf hfi hc).mono ?_;rintro e w5 ⟨A1,n1,c1,A2,n2,c2,A3,n3,c3,rfl,K⟩;clear hrc hrf hsc hsf;obtain⟨hrc,hrf,hsc,hsf⟩:=K.out.cells;have k:=K.out.set (by omega) 4 (.slice (some ⟨w5.heap.size,0,none⟩) 1 1);simp only[World.setCells,ak,Nat.reduceAdd,aw,aN,aO]at k;have K:=G k;clear k);obtain⟨hset,hfin⟩:=K.out.fin (r:=lW (f+1) l) (.mk 4 [] [x] b [t]) 4 ⟨#[]⟩ (some ⟨w1.heap.size,0,none⟩) 1 1 B m d (some ⟨w5.heap.size,0,none⟩) 1 1 (by rw[lW,hx,then_ok,hb,then_ok,if_pos he,if_pos hi,hc,then_ok]) rfl rfl (fun h=>⟨h.1.1.mono (fun b hb _=>hb.1),h.1.2.mono (fun b hb _=>hb.1),h.2.mono (fun b hb _=>by omega)⟩);simp only[World.setCells,ak,Nat.reduceAdd]at hset hfin;exact bodyPost_ret (v:= .agg #[.int .i64 4, .string ⟨#[]⟩, .slice (some ⟨w1.heap.size,0,none⟩) 1 1, .slice B m d, .slice (some ⟨w5.heap.size,0,none⟩) 1 1]) (by simp[results,results140,go_sem,hset]) rfl hfin
    |false=>
     have hfi:4*r2.tail.length+1<=f:=by omega
     have hN:=hi;go_wp2_with (go_at_call 61;refine(K.out.no hN).mono ?_;rintro e wx ⟨rfl,K⟩;clear hN;clear hrc hrf hsc hsf;obtain⟨hrc,hrf,hsc,hsf⟩:=K.out.cells)
     cases hc:cZ f r2.tail with
     |error p=>
      obtain⟨q,er⟩:=p;go_wp2_with (go_at_call 67;refine(K.out.berr hBl hfi hc).mono ?_;unfold bi;rintro e wx ⟨rfl,HG⟩);exact⟨rfl,cY (by rw[lW,hx,then_ok,hb,then_ok,if_pos he,if_neg (by simp[hi]),hc,bm]) HG.out⟩
     |ok p=>
      obtain⟨t,q⟩:=p;go_wp2_with (go_at_call 67;refine(K.out.block hBl hfi hc).mono ?_;rintro e wx ⟨C,i,j,rfl,K⟩;clear hrc hrf hsc hsf;obtain⟨hrc,hrf,hsc,hsf⟩:=K.out.cells;have k:=K.out.set (by omega) 4 (.slice C i j);simp only[World.setCells,ak,Nat.reduceAdd,aw,aN,aO]at k;have K:=G k;clear k);obtain⟨hset,hfin⟩:=K.out.fin (r:=lW (f+1) l) (.mk 4 [] [x] b t) 4 ⟨#[]⟩ (some ⟨w1.heap.size,0,none⟩) 1 1 B m d C i j (by rw[lW,hx,then_ok,hb,then_ok,if_pos he,if_neg (by simp[hi]),hc,then_ok]) rfl rfl (fun h=>⟨h.1.1.mono (fun b hb _=>hb.1),h.1.2.mono (fun b hb _=>hb.1),h.2.mono (fun b hb _=>by omega)⟩);simp only[World.setCells,ak,Nat.reduceAdd]at hset hfin;exact bodyPost_ret (v:= .agg #[.int .i64 4, .string ⟨#[]⟩, .slice (some ⟨w1.heap.size,0,none⟩) 1 1, .slice B m d, .slice C i j]) (by simp[results,results140,go_sem,hset]) rfl hfin
   |false=>
    have hN:=he;go_wp2_with (go_at_call 61;refine(K.out.no hN).mono ?_;rintro e wx ⟨rfl,K⟩;clear hN;clear hrc hrf hsc hsf;obtain⟨hrc,hrf,hsc,hsf⟩:=K.out.cells);obtain⟨hset,hfin⟩:=K.out.fin (r:=lW (f+1) l) (.mk 4 [] [x] b []) 4 ⟨#[]⟩ (some ⟨w1.heap.size,0,none⟩) 1 1 B m d none 0 0 (by rw[lW,hx,then_ok,hb,then_ok,if_neg (by simp[he])]) rfl rfl (fun h=>⟨h.1.mono (fun b hb _=>hb.1),h.2.mono (fun b hb _=>hb.1), .nil _ _⟩);simp only[World.setCells,ak,Nat.reduceAdd]at hset hfin;exact bodyPost_ret (v:= .agg #[.int .i64 4, .string ⟨#[]⟩, .slice (some ⟨w1.heap.size,0,none⟩) 1 1, .slice B m d, .slice none 0 0]) (by simp[results,results140,go_sem,hset]) rfl hfin
end
section
open Go.RowKit
theorem eV.lit {w:World} {base:Nat} {x:Ex} {A:Option Addr} {n c:Nat} (hb:base<=w.heap.size) (h:bZ w (fun b=>base<=b) (.slice A n c) x.args):eV (w.alloc (.cells #[.int .i64 x.k, .string (ae x.op), .string (ae x.nm), .string (ae x.tx), .int .i64 x.v, .slice A n c] 131)) base 131 (.slice (some ⟨w.heap.size,0,none⟩) 1 1) [(x, .slice A n c)]:=by
 refine⟨World.ownsRow_lit w _ 1 hb (by simp[maxLen]) rfl,fun p hp=> ?_⟩;rw[cS]at hp;subst hp;exact h.keep (.of_ext (O w _)) (fun b hb hlt=>⟨hb,fun e=>by have e:b=w.heap.size:=M e;omega⟩)
theorem ld (x:Ex) (A:Option Addr) (n c:Nat): ∀u∈qK x (.slice A n c),u.oneCell'=true:=by
 intro u hu;simp only[qK,dH,cU,or_false]at hu;rcases hu with rfl|rfl|rfl|rfl|rfl|rfl<;>rfl
section
variable {w W W':World} {g pb sb:Nat} {en:Int} {pc sc:Array Value} {ty:TypeId} {X:World->Prop} {l l':List bB}
theorem SK.named (K:SK w g en pb pc sb sc ty X l W) {f:Nat} {nm:List UInt8} (hNa:ip f) (hf:4*l.length+1<=f) {x:Ex} {q:List bB} (h:ch f nm l= .ok (x,q)):Calls prog 157 #[.pointer (some ⟨g,0,none⟩), .string (ae nm)] W fun e W'=>
  ∃A n c,e= .returned (.agg #[.int .i64 x.k, .string (ae x.op), .string (ae x.nm), .string (ae x.tx), .int .i64 x.v, .slice A n c])/\Hid (SK w g en pb pc sb sc ty (fun V=>X V/\bZ V (fun b=>sb<b) (.slice (some ⟨W'.heap.size,0,none⟩) 1 1) [x]) q (W'.alloc (.cells #[.int .i64 x.k, .string (ae x.op), .string (ae x.nm), .string (ae x.tx), .int .i64 x.v, .slice A n c] 131))):=by
 have hc:=hNa nm l en W g K.pa hf;rw[h]at hc;refine hc.mono fun e W' hh=> ?_;obtain⟨hG,A,n,c,rfl,hR,hPA⟩:=hh;have hE:=O W' (.cells #[.int .i64 x.k, .string (ae x.op), .string (ae x.nm), .string (ae x.tx), .int .i64 x.v, .slice A n c] 131);have hz:=K.sv.lt;have hz2:=hG.size;exact⟨A,n,c,rfl,G (((K.step hPA hG).ext hE).with (gq (ai W' _ _) (by omega) (hR.keep (.of_ext hE) (fun b hb _=>by omega))) fun k hk V V' hV h=>h.keep (.of_grown hV fun b hb e=>by have:=K.nn;injection e with e;omega) (fun b hb _=>hb))⟩
theorem SK.nerr (K:SK w g en pb pc sb sc ty X l W) {f:Nat} {nm:List UInt8} (hNa:ip f) (hf:4*l.length+1<=f) {q:List bB} {n:Int} (h:ch f nm l= .error (q,n)):Calls prog 157 #[.pointer (some ⟨g,0,none⟩), .string (ae nm)] W fun e W'=>e=bi en q n/\Hid (w.grownBy W' (some g)):=by
 have hc:=hNa nm l en W g K.pa hf;rw[h]at hc;exact hc.mono fun e W' hh=>⟨hh.2,G (ah K.gr hh.1)⟩
theorem SK.exOwn (K:SK w g en pb pc sb sc ty X l W) {f:Nat} (hEx:eF f) (hf:4*l.length+2<=f) {x:Ex} {q:List bB} (h:bT f 1 l= .ok (x,q)):Calls prog 141 #[.pointer (some ⟨g,0,none⟩), .int .i64 1] W fun e W'=>
  ∃A n c,e= .returned (.agg #[.int .i64 x.k, .string (ae x.op), .string (ae x.nm), .string (ae x.tx), .int .i64 x.v, .slice A n c])/\Hid (SK w g en pb pc sb sc ty (fun V=>eV V (sb+1) 131 (.slice (some ⟨W'.heap.size,0,none⟩) 1 1) [(x, .slice A n c)]) q (W'.alloc (.cells #[.int .i64 x.k, .string (ae x.op), .string (ae x.nm), .string (ae x.tx), .int .i64 x.v, .slice A n c] 131))):=by
 have hc:=hEx 1 l en W g K.pa (by decide) (by decide) hf;rw[h]at hc;refine hc.mono fun e W' hh=> ?_;obtain⟨hG,A,n,c,rfl,hR,hPA⟩:=hh;have hz:=K.sv.lt;have hz2:=hG.size;have hn:=K.nn;have hO:=eV.lit (x:=x) (base:=sb+1) (w:=W') (by omega) (hR.mono (fun b hb _=>by omega));exact⟨A,n,c,rfl,G (((K.step hPA hG).ext (O W' _)).app ⟨rfl,rfl,rfl,ag _,fun _ _ _=>rfl⟩ (row:=none) (fun k e=>by cases e) hO fun k hk V V' hV h=>h.grown hV (fun k e=>by injection e with e;omega))⟩
end
theorem pW (f:Nat) (hEx:eF f) (hNa:ip f) (l:List bB) (en:Int) (w:World) (g:Nat) (h:PA w g l en) (hf:4*l.length+2<=f):Calls prog 142 #[.pointer (some ⟨g,0,none⟩)] w (tG g en w (fN f l)):=by
 have hgl:=h.lt;have K:=G (SK.one h #[.int .i64 0, .string ⟨#[]⟩, .slice none 0 0, .slice none 0 0, .slice none 0 0] 76);have hrg:w.heap.size≠g:=by omega
 have hgr:g≠w.heap.size:=by omega
 obtain⟨hrc,hrf,hsc,hsf⟩:=K.out.cells;clear h;go_enter func142,ntmps142;by_cases hk:(bV l).k=1
 rotate_left
 ·go_wp2_with (go_at_call 64;refine(K.out.noname hk).mono ?_;unfold bi;rintro e wx ⟨rfl,HG⟩);exact⟨rfl,cY (by unfold fN;rw[jR hk,bm]) HG.out⟩
 have hlt:=fh (l:=l) (by rw[hk];decide);go_wp2_with (go_at_call 64;refine(K.out.name hk).mono ?_;rintro e w1 ⟨rfl,K⟩;have hz1:=K.out.rb.lt;have K:=G (K.out.open (Y:=fun V=>eV V (w1.heap.size+1) 131 (.slice none 0 0) []) #[.int .i64 2, .string (ae (bV l).t), .slice none 0 0, .slice none 0 0, .slice none 0 0] (fun _=>kg _ _ _) fun _ _ _ _ _ _=>kg _ _ _);have hsg:w1.heap.size≠g:=(by omega);have hgs:g≠w1.heap.size:=(by omega);have hps:w.heap.size≠w1.heap.size:=(by omega);have hsp:w1.heap.size≠w.heap.size:=(by omega);clear hrc hrf hsc hsf;obtain⟨hrc,hrf,hsc,hsf⟩:=K.out.cells)
 cases hlp:b6 fi l.tail with
 |true=>
  have hfn:4*l.tail.length+1<=f:=by omega
  go_wp2_with (go_at_call 115;refine(K.out.is hlp).mono ?_;rintro e wx ⟨rfl,K⟩;clear hrc hrf hsc hsf;obtain⟨hrc,hrf,hsc,hsf⟩:=K.out.cells)
  cases hx:ch f (bV l).t l.tail with
  |error p=>
   obtain⟨q,er⟩:=p;go_wp2_with (go_at_call 157;refine(K.out.nerr hNa hfn hx).mono ?_;unfold bi;rintro e wx ⟨rfl,HG⟩);exact⟨rfl,cY (by unfold fN;rw[bU hk,then_ok,if_pos hlp,hx,bm]) HG.out⟩
  |ok p=>
   obtain⟨x,q⟩:=p;go_wp2_with (go_at_call 157;refine(K.out.named hNa hfn hx).mono ?_;rintro e w3 ⟨A,n,c,rfl,K⟩;clear hrc hrf hsc hsf;obtain⟨hrc,hrf,hsc,hsf⟩:=K.out.cells);obtain⟨hset,hfin⟩:=K.out.fin (r:=fN f l) (.mk 7 [] [x] [] []) 7 ⟨#[]⟩ (some ⟨w3.heap.size,0,none⟩) 1 1 none 0 0 none 0 0 (by unfold fN;rw[bU hk,then_ok,if_pos hlp,hx,then_ok]) rfl rfl (fun h=>⟨h.2.mono (fun b hb _=>by omega), .nil _ _, .nil _ _⟩);simp only[World.setCells,ak,Nat.reduceAdd]at hset hfin;exact bodyPost_ret (v:= .agg #[.int .i64 7, .string ⟨#[]⟩, .slice (some ⟨w3.heap.size,0,none⟩) 1 1, .slice none 0 0, .slice none 0 0]) (by simp[results,results142,go_sem,hset]) rfl hfin
 |false=>
  go_wp2_with (go_at_call 115;refine(K.out.is hlp).mono ?_;rintro e wx ⟨rfl,K⟩;clear hrc hrf hsc hsf;obtain⟨hrc,hrf,hsc,hsf⟩:=K.out.cells)
  cases hls:b6 jD l.tail with
  |true=>
   have hlb:=aW hls;have hfx:4*l.tail.tail.length+2<=f:=by omega
   go_wp2_with (go_at_call 61;refine(K.out.yes hls).mono ?_;rintro e wx ⟨rfl,K⟩;clear hrc hrf hsc hsf;obtain⟨hrc,hrf,hsc,hsf⟩:=K.out.cells)
   cases hx:bT f 1 l.tail.tail with
   |error p=>
    obtain⟨q,er⟩:=p;go_wp2_with (go_at_call 141;refine(K.out.xerr hEx hfx hx).mono ?_;unfold bi;rintro e wx ⟨rfl,HG⟩);exact⟨rfl,cY (by unfold fN;rw[bU hk,then_ok,if_neg (by simp[hlp]),if_pos hls,hx,bm]) HG.out⟩
   |ok p=>
    obtain⟨x,r⟩:=p;have hlx:=(f7 f).1 _ _ _ _ hx;go_wp2_with (go_at_call 141;refine(K.out.exOwn hEx hfx hx).mono ?_;rintro e w5 ⟨A,n,c,rfl,K⟩;clear hrc hrf hsc hsf;obtain⟨hrc,hrf,hsc,hsf⟩:=K.out.cells;have k:=(K.out.set (by omega) 0 (.int .i64 3)).set (by omega) 2 (.slice (some ⟨w5.heap.size,0,none⟩) 1 1);simp only[World.setCells,ak,Nat.reduceAdd,aw,aN,aO]at k;have K:=G k;clear k)
    cases hrs:b6 jq r with
    |true=>
     have hl1:=aW hrs;go_wp2_with (go_at_call 63;refine(K.out.want hrs).mono ?_;rintro e wx ⟨rfl,K⟩;clear hrc hrf hsc hsf;obtain⟨hrc,hrf,hsc,hsf⟩:=K.out.cells)
     cases heq:b6 l9 r.tail with
     |true=>
      have hl2:=aW heq;have hfy:4*r.tail.tail.length+2<=f:=by omega
      go_wp2_with (go_at_call 63;refine(K.out.want heq).mono ?_;rintro e w4 ⟨rfl,K⟩;clear hrc hrf hsc hsf;obtain⟨hrc,hrf,hsc,hsf⟩:=K.out.cells)
      cases hy:bT f 1 r.tail.tail with
      |error p=>
       obtain⟨q,er⟩:=p;refine bC 5 8 [(3,fun v=>v= .agg #[.int .i64 0, .string ⟨#[]⟩, .string ⟨#[]⟩, .string ⟨#[]⟩, .int .i64 0, .slice none 0 0],fun _ _=>False),(4,fun v=> ∃gb,v= .slice (some ⟨gb,0,none⟩) 1 1,fun _ _=>True)] 3 (some g) mixed (by kernel_rfl) ⟨fun _ _ _ h _=>h,fun _ _ _ h _=>h,trivial⟩ ⟨.inl rfl, .inr fun _ _ _ h _=>h,trivial⟩ ?_;repeat (refine sx ?_ (fun w1 hU=> ?_) ?_;rotate_left;(focus have f1:=(K.out.sv.grown (aD hU) (fun e=>hsg (M e))).cell;clear hU;go_simp<;>with_reducible rfl);simp only[bf,be,bc,a_,a8])
       refine ce _ _ (by rfl) rfl ⟨_,rfl⟩ rfl (fun w6 hT hp J hJ=> ?_) ?_
       ·clear hp;have hc:=((K.out.ext hT.un).xerr hEx hfy hy)
        clear hT;go_simp;refine hc.mono ?_;unfold bi;rintro e w7 ⟨rfl,HG⟩;intro a' hd;exact⟨hd,cY (by unfold fN;rw[bU hk,then_ok,if_neg (by simp[hlp]),if_pos hls,hx,then_ok,cB hrs,then_ok,cB heq,then_ok,hy,bm]) HG.out⟩
       rintro _ rfl;simp only[bf,be,bc,a_,a8];refine bw _ _ (by rfl) rfl ⟨_,0,rfl⟩ (by simp) (fun w6 hU hp J hJ=> ?_) ?_
       ·clear hp;go_simp;exact hJ _ _ (O w6 _) ⟨_,rfl⟩ trivial
       rintro _ ⟨gb,rfl⟩;simp only[bf,be,bc,a_,a8];intro w6 hw6 hp;exact(hp _ (.tail _ (.head _))).elim
      |ok p=>
       obtain⟨y,q⟩:=p;have hgd:g<w4.heap.size:=K.out.pa.lt;have hsd:w1.heap.size<w4.heap.size:=K.out.sv.lt
       refine bC 5 8 [(3,fun v=> ∃A n c,v= .agg #[.int .i64 y.k, .string (ae y.op), .string (ae y.nm), .string (ae y.tx), .int .i64 y.v, .slice A n c],fun v wx=> ∀A n c,v= .agg #[.int .i64 y.k, .string (ae y.op), .string (ae y.nm), .string (ae y.tx), .int .i64 y.v, .slice A n c]->bZ wx (fun b=>w4.heap.size<=b) (.slice A n c) y.args/\PA wx g q en),
         (4,fun v=> ∃gb,v= .slice (some ⟨gb,0,none⟩) 1 1,fun v wx=> ∀gb,v= .slice (some ⟨gb,0,none⟩) 1 1->w4.heap.size<=gb/\ ∃A n c,aT wx gb 131 #[.int .i64 y.k, .string (ae y.op), .string (ae y.nm), .string (ae y.tx), .int .i64 y.v, .slice A n c]/\bZ wx (fun b=>w4.heap.size<=b) (.slice A n c) y.args)] 3 (some g) mixed (by kernel_rfl) ⟨fun _ _ _ h hx A n c e=>⟨(h A n c e).1.keep (.of_ext hx) (fun _ hb _=>hb),(h A n c e).2.ext hx⟩,fun _ _ _ h hx gb e=>let⟨q0,A,n,c,q1,q2⟩:=h gb e;⟨q0,A,n,c,q1.ext hx,q2.keep (.of_ext hx) (fun _ hb _=>hb)⟩,trivial⟩
        ⟨.inl rfl, .inr fun _ _ _ h hx gb e=>let⟨q0,A,n,c,q1,q2⟩:=h gb e;⟨q0,A,n,c,q1.grown hx (fun e=>by injection e with e;omega),q2.keep (.of_grown hx fun b hb e=>by injection e with e;omega) (fun _ hb _=>hb)⟩,trivial⟩ ?_
       repeat (refine sx ?_ (fun w1 hU=> ?_) ?_;rotate_left;(focus have f1:=(K.out.sv.grown (aD hU) (fun e=>hsg (M e))).cell;clear hU;go_simp<;>with_reducible rfl);simp only[bf,be,bc,a_,a8])
       refine ce _ _ (by rfl) rfl ⟨_,none,0,0,rfl⟩ rfl (fun w6 hT hp J hJ=> ?_) ?_
       ·clear hp;have hc:=hEx 1 _ en w6 g (K.out.pa.ext hT.un) (by decide) (by decide) hfy;have HT6:=G hT.un;clear hT;go_simp;refine hc.mono ?_;intro e w7 hh;rw[hy]at hh;obtain⟨hG,A,n,c,rfl,hR,hPA⟩:=hh;exact hJ _ _ hG ⟨_,_,_,rfl⟩ (fun A' n' c' e=>by injection e with e;simp only[cI,cw,b_,and_true,true_and]at e;obtain⟨rfl,rfl,rfl⟩:=e;exact⟨hR.mono (fun b hb _=>aS (bJ HT6.out) hb),hPA⟩)
       rintro _ ⟨A2,n2,c2,rfl⟩;simp only[bf,be,bc,a_,a8];refine bw _ _ (by rfl) rfl ⟨_,0,rfl⟩ (by simp) (fun w6 hU hp J hJ=> ?_) ?_
       ·have h3:=(hp _ (.head _) (by kernel_rfl)) A2 n2 c2 rfl;have hz6:=(aD hU).size;clear hp hU;go_simp;exact hJ _ _ (O w6 _) ⟨_,rfl⟩ (fun gb e=>by injection e with e;injection e with e;injection e with e;subst e;exact⟨hz6,A2,n2,c2,ai w6 _ _,h3.1.keep (.of_ext (O w6 _)) (fun _ hb _=>hb)⟩)
       rintro _ ⟨gb,rfl⟩;simp only[bf,be,bc,a_,a8];intro w8 hw8 hp;obtain⟨hgb,A3,n3,c3,hB3,hR3⟩:=hp _ (.head _) gb rfl;have h3:=(hp _ (.tail _ (.head _)) A2 n2 c2 rfl).2;clear hp;simp only[ab,ap];have hw8:=aD hw8;have hz8:=hw8.size;have hrow:=aJ K.out.xx.1;have K:=G (K.out.step h3 hw8);have HA8:=G (hR3.mono (Q:=fun b=>w1.heap.size+1<=b/\some b≠Value.ownBlock (.slice (some ⟨w5.heap.size,0,none⟩) 1 1)) (fun b hb _=>⟨by omega,fun e=>by have:=(hrow b e.symm).2;omega⟩));clear hw8 h3 hR3 hrc hrf hsc hsf;refine cQ zM rfl _ _ rfl (w1.heap.size+1) _ 1 (fe [(x, .slice A n c)]) rfl K.out.xx.1 gb (qK y (.slice A3 n3 c3)) rfl hB3 rfl (ld _ _ _ _) (by omega) (by decide) (by omega) ?_;intro A' cap' w9 hq1 hq2 hq3;have K:=G (K.out.app (Y:=fun V=>eV V (w1.heap.size+1) 131 (.slice (some ⟨A',0,none⟩) 2 cap') [(x, .slice A n c),(y, .slice A3 n3 c3)]) hq2 (fun k e=>(hrow k e).1) (K.out.xx.snoc HA8.out hq1 hq2 hq3) fun k hk V V' hV h=>h.grown hV (fun k e=>by injection e with e;omega));obtain⟨hrc,hrf,hsc,hsf⟩:=K.out.cells;clear hq1 hq2 hq3 hB3 hrow;go_wp2_with fail;have K:=G (K.out.set (by omega) 2 (.slice (some ⟨A',0,none⟩) 2 cap'));obtain⟨hset,hfin⟩:=K.out.fin (r:=fN f l) (.mk 3 (bV l).t [x,y] [] []) 3 (ae (bV l).t) (some ⟨A',0,none⟩) 2 cap' none 0 0 none 0 0 (by unfold fN;rw[bU hk,then_ok,if_neg (by simp[hlp]),if_pos hls,hx,then_ok,cB hrs,then_ok,cB heq,then_ok,hy,then_ok]) rfl rfl (fun h=>⟨by have:=h.rd.mono (Q:=fun b=>w.heap.size<b) (fun b hb _=>by omega);simpa[St.ex]using this, .nil _ _, .nil _ _⟩);simp only[World.setCells,ak,Nat.reduceAdd]at hset hfin;exact bodyPost_ret (v:= .agg #[.int .i64 3, .string (ae (bV l).t), .slice (some ⟨A',0,none⟩) 2 cap', .slice none 0 0, .slice none 0 0]) (by simp[results,results142,go_sem,hset]) rfl hfin
     |false=>
      go_wp2_with (go_at_call 63;refine(K.out.bad heq).mono ?_;unfold bi;rintro e wx ⟨rfl,HG⟩);exact⟨rfl,cY (by unfold fN;rw[bU hk,then_ok,if_neg (by simp[hlp]),if_pos hls,hx,then_ok,cB hrs,then_ok,ew heq,bm]) HG.out⟩
    |false=>
     go_wp2_with (go_at_call 63;refine(K.out.bad hrs).mono ?_;unfold bi;rintro e wx ⟨rfl,HG⟩);exact⟨rfl,cY (by unfold fN;rw[bU hk,then_ok,if_neg (by simp[hlp]),if_pos hls,hx,then_ok,ew hrs,bm]) HG.out⟩
  |false=>
   have hN:=hls;go_wp2_with (go_at_call 61;refine(K.out.no hN).mono ?_;rintro e wx ⟨rfl,K⟩;clear hN;clear hrc hrf hsc hsf;obtain⟨hrc,hrf,hsc,hsf⟩:=K.out.cells)
   cases heq:b6 l9 l.tail with
   |true=>
    have hle:=aW heq;have hfy:4*l.tail.tail.length+2<=f:=by omega
    go_wp2_with (go_at_call 63;refine(K.out.want heq).mono ?_;rintro e w4 ⟨rfl,K⟩;clear hrc hrf hsc hsf;obtain⟨hrc,hrf,hsc,hsf⟩:=K.out.cells)
    cases hy:bT f 1 l.tail.tail with
    |error p=>
     obtain⟨q,er⟩:=p;refine bC 5 8 [(3,fun v=>v= .agg #[.int .i64 0, .string ⟨#[]⟩, .string ⟨#[]⟩, .string ⟨#[]⟩, .int .i64 0, .slice none 0 0],fun _ _=>False),(4,fun v=> ∃gb,v= .slice (some ⟨gb,0,none⟩) 1 1,fun _ _=>True)] 3 (some g) mixed (by kernel_rfl) ⟨fun _ _ _ h _=>h,fun _ _ _ h _=>h,trivial⟩ ⟨.inl rfl, .inr fun _ _ _ h _=>h,trivial⟩ ?_;repeat (refine sx ?_ (fun w1 hU=> ?_) ?_;rotate_left;(focus have f1:=(K.out.sv.grown (aD hU) (fun e=>hsg (M e))).cell;clear hU;go_simp<;>with_reducible rfl);simp only[bf,be,bc,a_,a8])
     refine ce _ _ (by rfl) rfl ⟨_,rfl⟩ rfl (fun w6 hT hp J hJ=> ?_) ?_
     ·clear hp;have hc:=((K.out.ext hT.un).xerr hEx hfy hy)
      clear hT;go_simp;refine hc.mono ?_;unfold bi;rintro e w7 ⟨rfl,HG⟩;intro a' hd;exact⟨hd,cY (by unfold fN;rw[bU hk,then_ok,if_neg (by simp[hlp]),if_neg (by simp[hls]),cB heq,then_ok,hy,bm]) HG.out⟩
     rintro _ rfl;simp only[bf,be,bc,a_,a8];refine bw _ _ (by rfl) rfl ⟨_,0,rfl⟩ (by simp) (fun w6 hU hp J hJ=> ?_) ?_
     ·clear hp;go_simp;exact hJ _ _ (O w6 _) ⟨_,rfl⟩ trivial
     rintro _ ⟨gb,rfl⟩;simp only[bf,be,bc,a_,a8];intro w6 hw6 hp;exact(hp _ (.tail _ (.head _))).elim
    |ok p=>
     obtain⟨y,q⟩:=p;have hgd:g<w4.heap.size:=K.out.pa.lt;have hsd:w1.heap.size<w4.heap.size:=K.out.sv.lt
     refine bC 5 8 [(3,fun v=> ∃A n c,v= .agg #[.int .i64 y.k, .string (ae y.op), .string (ae y.nm), .string (ae y.tx), .int .i64 y.v, .slice A n c],fun v wx=> ∀A n c,v= .agg #[.int .i64 y.k, .string (ae y.op), .string (ae y.nm), .string (ae y.tx), .int .i64 y.v, .slice A n c]->bZ wx (fun b=>w4.heap.size<=b) (.slice A n c) y.args/\PA wx g q en),
       (4,fun v=> ∃gb,v= .slice (some ⟨gb,0,none⟩) 1 1,fun v wx=> ∀gb,v= .slice (some ⟨gb,0,none⟩) 1 1->w4.heap.size<=gb/\ ∃A n c,aT wx gb 131 #[.int .i64 y.k, .string (ae y.op), .string (ae y.nm), .string (ae y.tx), .int .i64 y.v, .slice A n c]/\bZ wx (fun b=>w4.heap.size<=b) (.slice A n c) y.args)] 3 (some g) mixed (by kernel_rfl) ⟨fun _ _ _ h hx A n c e=>⟨(h A n c e).1.keep (.of_ext hx) (fun _ hb _=>hb),(h A n c e).2.ext hx⟩,fun _ _ _ h hx gb e=>let⟨q0,A,n,c,q1,q2⟩:=h gb e;⟨q0,A,n,c,q1.ext hx,q2.keep (.of_ext hx) (fun _ hb _=>hb)⟩,trivial⟩
      ⟨.inl rfl, .inr fun _ _ _ h hx gb e=>let⟨q0,A,n,c,q1,q2⟩:=h gb e;⟨q0,A,n,c,q1.grown hx (fun e=>by injection e with e;omega),q2.keep (.of_grown hx fun b hb e=>by injection e with e;omega) (fun _ hb _=>hb)⟩,trivial⟩ ?_
     repeat (refine sx ?_ (fun w1 hU=> ?_) ?_;rotate_left;(focus have f1:=(K.out.sv.grown (aD hU) (fun e=>hsg (M e))).cell;clear hU;go_simp<;>with_reducible rfl);simp only[bf,be,bc,a_,a8])
     refine ce _ _ (by rfl) rfl ⟨_,none,0,0,rfl⟩ rfl (fun w6 hT hp J hJ=> ?_) ?_
     ·clear hp;have hc:=hEx 1 _ en w6 g (K.out.pa.ext hT.un) (by decide) (by decide) hfy;have HT6:=G hT.un;clear hT;go_simp;refine hc.mono ?_;intro e w7 hh;rw[hy]at hh;obtain⟨hG,A,n,c,rfl,hR,hPA⟩:=hh;exact hJ _ _ hG ⟨_,_,_,rfl⟩ (fun A' n' c' e=>by injection e with e;simp only[cI,cw,b_,and_true,true_and]at e;obtain⟨rfl,rfl,rfl⟩:=e;exact⟨hR.mono (fun b hb _=>aS (bJ HT6.out) hb),hPA⟩)
     rintro _ ⟨A2,n2,c2,rfl⟩;simp only[bf,be,bc,a_,a8];refine bw _ _ (by rfl) rfl ⟨_,0,rfl⟩ (by simp) (fun w6 hU hp J hJ=> ?_) ?_
     ·have h3:=(hp _ (.head _) (by kernel_rfl)) A2 n2 c2 rfl;have hz6:=(aD hU).size;clear hp hU;go_simp;exact hJ _ _ (O w6 _) ⟨_,rfl⟩ (fun gb e=>by injection e with e;injection e with e;injection e with e;subst e;exact⟨hz6,A2,n2,c2,ai w6 _ _,h3.1.keep (.of_ext (O w6 _)) (fun _ hb _=>hb)⟩)
     rintro _ ⟨gb,rfl⟩;simp only[bf,be,bc,a_,a8];intro w8 hw8 hp;obtain⟨hgb,A3,n3,c3,hB3,hR3⟩:=hp _ (.head _) gb rfl;have h3:=(hp _ (.tail _ (.head _)) A2 n2 c2 rfl).2;clear hp;simp only[ab,ap];have hw8:=aD hw8;have hz8:=hw8.size;have hrow:=aJ K.out.xx.1;have K:=G (K.out.step h3 hw8);have HA8:=G (hR3.mono (Q:=fun b=>w1.heap.size+1<=b/\some b≠Value.ownBlock (.slice none 0 0)) (fun b hb _=>⟨by omega,fun e=>by have:=(hrow b e.symm).2;omega⟩));clear hw8 h3 hR3 hrc hrf hsc hsf;refine cQ zM rfl _ _ rfl (w1.heap.size+1) _ 0 (fe []) rfl K.out.xx.1 gb (qK y (.slice A3 n3 c3)) rfl hB3 rfl (ld _ _ _ _) (by omega) (by decide) (by omega) ?_;intro A' cap' w9 hq1 hq2 hq3;have K:=G (K.out.app (Y:=fun V=>eV V (w1.heap.size+1) 131 (.slice (some ⟨A',0,none⟩) 1 cap') [(y, .slice A3 n3 c3)]) hq2 (fun k e=>(hrow k e).1) (K.out.xx.snoc HA8.out hq1 hq2 hq3) fun k hk V V' hV h=>h.grown hV (fun k e=>by injection e with e;omega));obtain⟨hrc,hrf,hsc,hsf⟩:=K.out.cells;clear hq1 hq2 hq3 hB3 hrow;go_wp2_with fail;have K:=G (K.out.set (by omega) 2 (.slice (some ⟨A',0,none⟩) 1 cap'));obtain⟨hset,hfin⟩:=K.out.fin (r:=fN f l) (.mk 2 (bV l).t [y] [] []) 2 (ae (bV l).t) (some ⟨A',0,none⟩) 1 cap' none 0 0 none 0 0 (by unfold fN;rw[bU hk,then_ok,if_neg (by simp[hlp]),if_neg (by simp[hls]),cB heq,then_ok,hy,then_ok]) rfl rfl (fun h=>⟨by have:=h.rd.mono (Q:=fun b=>w.heap.size<b) (fun b hb _=>by omega);simpa[St.ex]using this, .nil _ _, .nil _ _⟩);simp only[World.setCells,ak,Nat.reduceAdd]at hset hfin;exact bodyPost_ret (v:= .agg #[.int .i64 2, .string (ae (bV l).t), .slice (some ⟨A',0,none⟩) 1 cap', .slice none 0 0, .slice none 0 0]) (by simp[results,results142,go_sem,hset]) rfl hfin
   |false=>
    go_wp2_with (go_at_call 63;refine(K.out.bad heq).mono ?_;unfold bi;rintro e wx ⟨rfl,HG⟩);exact⟨rfl,cY (by unfold fN;rw[bU hk,then_ok,if_neg (by simp[hlp]),if_neg (by simp[hls]),ew heq,bm]) HG.out⟩
end
section
open Go.RowKit
theorem sA {w:World} {g:Nat} {l:List bB} {en:Int} (h:PA w g l en):SK w g en w.heap.size #[.int .i64 0, .string ⟨#[]⟩, .slice none 0 0, .slice none 0 0, .slice none 0 0] (w.heap.size+1) #[.int .i64 0, .string ⟨#[]⟩, .slice none 0 0, .slice none 0 0, .slice none 0 0] 76 (fun _=>True) l ((w.alloc (.cells #[.int .i64 0, .string ⟨#[]⟩, .slice none 0 0, .slice none 0 0, .slice none 0 0] 76)).alloc (.cells #[.int .i64 0, .string ⟨#[]⟩, .slice none 0 0, .slice none 0 0, .slice none 0 0] 76)):=by
 have hb:=ai (w.alloc (.cells #[.int .i64 0, .string ⟨#[]⟩, .slice none 0 0, .slice none 0 0, .slice none 0 0] 76)) 76 #[.int .i64 0, .string ⟨#[]⟩, .slice none 0 0, .slice none 0 0, .slice none 0 0];rw[aQ]at hb;have hE:=(O w (.cells #[.int .i64 0, .string ⟨#[]⟩, .slice none 0 0, .slice none 0 0, .slice none 0 0] 76)).alloc' (.cells #[.int .i64 0, .string ⟨#[]⟩, .slice none 0 0, .slice none 0 0, .slice none 0 0] 76);have hl:=h.lt;exact⟨h.ext hE,hE.grownBy _,(ai w _ _).alloc _,hb,by omega,trivial,fun _ _ _ _ _ _=>trivial⟩
section
variable {w W W':World} {g pb sb:Nat} {en:Int} {pc sc:Array Value} {ty:TypeId} {X:World->Prop} {l l':List bB}
theorem SK.simp (K:SK w g en pb pc sb sc ty X l W) {f:Nat} (hEx:eF f) (hNa:ip f) (hf:4*l.length+2<=f) {s:St} {q:List bB} (h:fN f l= .ok (s,q)):Calls prog 142 #[.pointer (some ⟨g,0,none⟩)] W fun e W'=>
  ∃A n c B m d C i j,e= .returned (.agg #[.int .i64 s.k, .string (ae s.nm), .slice A n c, .slice B m d, .slice C i j])/\Hid (SK w g en pb pc sb sc ty (fun V=>X V/\SV.ok V (fun b=>sb<b) ⟨s, .slice A n c, .slice B m d, .slice C i j⟩) q W'):=by
 have hc:=pW f hEx hNa l en W g K.pa hf;rw[h]at hc;refine hc.mono fun e W' hh=> ?_;obtain⟨hG,A,n,c,B,m,d,C,i,j,rfl,hV,hPA⟩:=hh;have hz:=K.sv.lt;exact⟨A,n,c,B,m,d,C,i,j,rfl,G ((K.step hPA hG).with (hV.keep ⟨ag _,fun _ _ _=>rfl⟩ (fun b hb _=>by omega)) fun k hk V V' hV h=>h.keep (.of_grown hV fun b hb e=>by have:=K.nn;injection e with e;omega) (fun b hb _=>hb))⟩
theorem SK.serr (K:SK w g en pb pc sb sc ty X l W) {f:Nat} (hEx:eF f) (hNa:ip f) (hf:4*l.length+2<=f) {q:List bB} {n:Int} (h:fN f l= .error (q,n)):Calls prog 142 #[.pointer (some ⟨g,0,none⟩)] W fun e W'=>e=bi en q n/\Hid (w.grownBy W' (some g)):=by
 have hc:=pW f hEx hNa l en W g K.pa hf;rw[h]at hc;exact hc.mono fun e W' hh=>⟨hh.2,G (ah K.gr hh.1)⟩
end
theorem sy (f:Nat) (hEx:eF f) (hNa:ip f) (hBl:kJ f) (hIf:x8 f):vE (f+1):=by
 intro l en w g h hf;have hgl:=h.lt;have K:=G (sA h);have hrg:w.heap.size≠g:=by omega
 have hsg:w.heap.size+1≠g:=by omega
 have hgr:g≠w.heap.size:=by omega
 have hgs:g≠w.heap.size+1:=by omega
 obtain⟨hrc,hrf,hsc,hsf⟩:=K.out.cells;clear h;go_enter func118,ntmps118
 cases h1:b6 sF l with
 |true=>
  have hlt:=aW h1;have hfi:4*l.tail.length+3<=f:=by omega
  go_wp2_with (go_at_call 61;refine(K.out.yes h1).mono ?_;rintro e wx ⟨rfl,K⟩;clear hrc hrf hsc hsf;obtain⟨hrc,hrf,hsc,hsf⟩:=K.out.cells)
  cases hc:lW f l.tail with
  |error p=>
   obtain⟨q,er⟩:=p;go_wp2_with (go_at_call 140;refine(K.out.ierr hIf hfi hc).mono ?_;unfold bi;rintro e wx ⟨rfl,HG⟩);exact⟨rfl,cY (by rw[de,if_pos h1,hc]) HG.out⟩
  |ok p=>
   obtain⟨s,q⟩:=p;go_wp2_with (go_at_call 140;refine(K.out.if hIf hfi hc).mono ?_;rintro e wx ⟨A1,n1,c1,A2,n2,c2,A3,n3,c3,rfl,K⟩;clear hrc hrf hsc hsf;obtain⟨hrc,hrf,hsc,hsf⟩:=K.out.cells);obtain⟨hset,hfin⟩:=K.out.fin (r:=de (f+1) l) (s) s.k (ae s.nm) A1 n1 c1 A2 n2 c2 A3 n3 c3 (by rw[de,if_pos h1,hc]) rfl rfl (fun h=>h.2.keep ⟨ag _,fun _ _ _=>rfl⟩ (fun b hb _=>by omega));simp only[World.setCells,ak,Nat.reduceAdd]at hset hfin;exact bodyPost_ret (v:= .agg #[.int .i64 s.k, .string (ae s.nm), .slice A1 n1 c1, .slice A2 n2 c2, .slice A3 n3 c3]) (by simp[results,results118,go_sem,hset]) rfl hfin
 |false=>
  have hN:=h1;go_wp2_with (go_at_call 61;refine(K.out.no hN).mono ?_;rintro e wx ⟨rfl,K⟩;clear hN;clear hrc hrf hsc hsf;obtain⟨hrc,hrf,hsc,hsf⟩:=K.out.cells)
  cases h2:b6 lz l with
  |true=>
   have hlt:=aW h2;have hfe:4*l.tail.length+2<=f:=by omega
   go_wp2_with (go_at_call 61;refine(K.out.yes h2).mono ?_;rintro e wx ⟨rfl,K⟩;clear hrc hrf hsc hsf;obtain⟨hrc,hrf,hsc,hsf⟩:=K.out.cells)
   cases hx:bT f 1 l.tail with
   |error p=>
    obtain⟨q,er⟩:=p;go_wp2_with (go_at_call 141;refine(K.out.xerr hEx hfe hx).mono ?_;unfold bi;rintro e wx ⟨rfl,HG⟩);exact⟨rfl,cY (by rw[de,if_neg (by simp[h1]),if_pos h2,hx,bm]) HG.out⟩
   |ok p=>
    obtain⟨x,r⟩:=p;go_wp2_with (go_at_call 141;refine(K.out.expr hEx hfe hx).mono ?_;rintro e w3 ⟨A,n,c,rfl,K⟩;clear hrc hrf hsc hsf;obtain⟨hrc,hrf,hsc,hsf⟩:=K.out.cells);have hlx:=(f7 f).1 _ _ _ _ hx;have hfb:4*r.length+1<=f:=by omega
    cases hb:cZ f r with
    |error p=>
     obtain⟨q,er⟩:=p;go_wp2_with (go_at_call 67;refine(K.out.berr hBl hfb hb).mono ?_;unfold bi;rintro e wx ⟨rfl,HG⟩);exact⟨rfl,cY (by rw[de,if_neg (by simp[h1]),if_pos h2,hx,then_ok,hb,bm]) HG.out⟩
    |ok p=>
     obtain⟨b,q⟩:=p;go_wp2_with (go_at_call 67;refine(K.out.block hBl hfb hb).mono ?_;rintro e wx ⟨B,m,d,rfl,K⟩;clear hrc hrf hsc hsf;obtain⟨hrc,hrf,hsc,hsf⟩:=K.out.cells);obtain⟨hset,hfin⟩:=K.out.fin (r:=de (f+1) l) (.mk 5 [] [x] b []) 5 ⟨#[]⟩ (some ⟨w3.heap.size,0,none⟩) 1 1 B m d none 0 0 (by rw[de,if_neg (by simp[h1]),if_pos h2,hx,then_ok,hb,then_ok]) rfl rfl (fun h=>⟨h.1.2.mono (fun b hb _=>by omega),h.2.mono (fun b hb _=>by omega), .nil _ _⟩);simp only[World.setCells,ak,Nat.reduceAdd]at hset hfin;exact bodyPost_ret (v:= .agg #[.int .i64 5, .string ⟨#[]⟩, .slice (some ⟨w3.heap.size,0,none⟩) 1 1, .slice B m d, .slice none 0 0]) (by simp[results,results118,go_sem,hset]) rfl hfin
  |false=>
   have hN:=h2;go_wp2_with (go_at_call 61;refine(K.out.no hN).mono ?_;rintro e wx ⟨rfl,K⟩;clear hN;clear hrc hrf hsc hsf;obtain⟨hrc,hrf,hsc,hsf⟩:=K.out.cells)
   cases h3:b6 gA l with
   |true=>
    have hlt:=aW h3;go_wp2_with (go_at_call 61;refine(K.out.yes h3).mono ?_;rintro e wx ⟨rfl,K⟩;clear hrc hrf hsc hsf;obtain⟨hrc,hrf,hsc,hsf⟩:=K.out.cells);by_cases hk:(bV l.tail).k=1
    rotate_left
    ·go_wp2_with (go_at_call 64;refine(K.out.noname hk).mono ?_;unfold bi;rintro e wx ⟨rfl,HG⟩);exact⟨rfl,cY (by rw[de,if_neg (by simp[h1]),if_neg (by simp[h2]),if_pos h3,jR hk,bm]) HG.out⟩
    have hlk:=fh (l:=l.tail) (by rw[hk];decide);go_wp2_with (go_at_call 64;refine(K.out.name hk).mono ?_;rintro e wx ⟨rfl,K⟩;clear hrc hrf hsc hsf;obtain⟨hrc,hrf,hsc,hsf⟩:=K.out.cells;have k:=K.out.put5 (by omega) (.int .i64 1) (.string (ae (bV l.tail).t)) (.slice none 0 0) (.slice none 0 0) (.slice none 0 0);simp only[World.setCells,ak,Nat.reduceAdd,aw,aN,aO]at k;have K:=G k;clear k)
    cases he:b6 l9 l.tail.tail with
    |true=>
     have hle:=aW he;have hfe:4*l.tail.tail.tail.length+2<=f:=by omega
     go_wp2_with (go_at_call 61;refine(K.out.yes he).mono ?_;rintro e wx ⟨rfl,K⟩;clear hrc hrf hsc hsf;obtain⟨hrc,hrf,hsc,hsf⟩:=K.out.cells)
     cases hx:bT f 1 l.tail.tail.tail with
     |error p=>
      obtain⟨q,er⟩:=p;go_wp2_with (go_at_call 141;refine(K.out.xerr hEx hfe hx).mono ?_;unfold bi;rintro e wx ⟨rfl,HG⟩);exact⟨rfl,cY (by rw[de,if_neg (by simp[h1]),if_neg (by simp[h2]),if_pos h3,bU hk,then_ok,if_pos he,hx,bm,bm]) HG.out⟩
     |ok p=>
      obtain⟨x,r⟩:=p;go_wp2_with (go_at_call 141;refine(K.out.expr hEx hfe hx).mono ?_;rintro e w3 ⟨A,n,c,rfl,K⟩;clear hrc hrf hsc hsf;obtain⟨hrc,hrf,hsc,hsf⟩:=K.out.cells;have k:=K.out.set (by omega) 2 (.slice (some ⟨w3.heap.size,0,none⟩) 1 1);simp only[World.setCells,ak,Nat.reduceAdd,aw,aN,aO]at k;have K:=G k;clear k)
      cases hs:b6 iu r with
      |true=>
       go_wp2_with (go_at_call 63;refine(K.out.want hs).mono ?_;rintro e wx ⟨rfl,K⟩;clear hrc hrf hsc hsf;obtain⟨hrc,hrf,hsc,hsf⟩:=K.out.cells);obtain⟨hset,hfin⟩:=K.out.fin (r:=de (f+1) l) (.mk 1 (bV l.tail).t [x] [] []) 1 (ae (bV l.tail).t) (some ⟨w3.heap.size,0,none⟩) 1 1 none 0 0 none 0 0 (by rw[de,if_neg (by simp[h1]),if_neg (by simp[h2]),if_pos h3,bU hk,then_ok,if_pos he,hx,then_ok,then_ok,cB hs,then_ok]) rfl rfl (fun h=>⟨h.2.mono (fun b hb _=>by omega), .nil _ _, .nil _ _⟩);simp only[World.setCells,ak,Nat.reduceAdd]at hset hfin;exact bodyPost_ret (v:= .agg #[.int .i64 1, .string (ae (bV l.tail).t), .slice (some ⟨w3.heap.size,0,none⟩) 1 1, .slice none 0 0, .slice none 0 0]) (by simp[results,results118,go_sem,hset]) rfl hfin
      |false=>
       go_wp2_with (go_at_call 63;refine(K.out.bad hs).mono ?_;unfold bi;rintro e wx ⟨rfl,HG⟩);exact⟨rfl,cY (by rw[de,if_neg (by simp[h1]),if_neg (by simp[h2]),if_pos h3,bU hk,then_ok,if_pos he,hx,then_ok,then_ok,ew hs,bm]) HG.out⟩
    |false=>
     have hN:=he;go_wp2_with (go_at_call 61;refine(K.out.no hN).mono ?_;rintro e wx ⟨rfl,K⟩;clear hN;clear hrc hrf hsc hsf;obtain⟨hrc,hrf,hsc,hsf⟩:=K.out.cells)
     cases hs:b6 iu l.tail.tail with
     |true=>
      go_wp2_with (go_at_call 63;refine(K.out.want hs).mono ?_;rintro e wx ⟨rfl,K⟩;clear hrc hrf hsc hsf;obtain⟨hrc,hrf,hsc,hsf⟩:=K.out.cells);obtain⟨hset,hfin⟩:=K.out.fin (r:=de (f+1) l) (.mk 1 (bV l.tail).t [] [] []) 1 (ae (bV l.tail).t) none 0 0 none 0 0 none 0 0 (by rw[de,if_neg (by simp[h1]),if_neg (by simp[h2]),if_pos h3,bU hk,then_ok,if_neg (by simp[he]),then_ok,cB hs,then_ok]) rfl rfl (fun _=>⟨.nil _ _, .nil _ _, .nil _ _⟩);simp only[World.setCells,ak,Nat.reduceAdd]at hset hfin;exact bodyPost_ret (v:= .agg #[.int .i64 1, .string (ae (bV l.tail).t), .slice none 0 0, .slice none 0 0, .slice none 0 0]) (by simp[results,results118,go_sem,hset]) rfl hfin
     |false=>
      go_wp2_with (go_at_call 63;refine(K.out.bad hs).mono ?_;unfold bi;rintro e wx ⟨rfl,HG⟩);exact⟨rfl,cY (by rw[de,if_neg (by simp[h1]),if_neg (by simp[h2]),if_pos h3,bU hk,then_ok,if_neg (by simp[he]),then_ok,ew hs,bm]) HG.out⟩
   |false=>
    have hN:=h3;go_wp2_with (go_at_call 61;refine(K.out.no hN).mono ?_;rintro e wx ⟨rfl,K⟩;clear hN;clear hrc hrf hsc hsf;obtain⟨hrc,hrf,hsc,hsf⟩:=K.out.cells)
    cases h4:b6 j6 l with
    |true=>
     have hlt:=aW h4;go_wp2_with (go_at_call 61;refine(K.out.yes h4).mono ?_;rintro e wx ⟨rfl,K⟩;clear hrc hrf hsc hsf;obtain⟨hrc,hrf,hsc,hsf⟩:=K.out.cells;have k:=K.out.put5 (by omega) (.int .i64 6) (.string ⟨#[]⟩) (.slice none 0 0) (.slice none 0 0) (.slice none 0 0);simp only[World.setCells,ak,Nat.reduceAdd,aw,aN,aO]at k;have K:=G k;clear k)
     cases hs:b6 iu l.tail with
     |true=>
      go_wp2_with (go_at_call 115;refine(K.out.is hs).mono ?_;rintro e wx ⟨rfl,K⟩;clear hrc hrf hsc hsf;obtain⟨hrc,hrf,hsc,hsf⟩:=K.out.cells);go_wp2_with (go_at_call 63;refine(K.out.want hs).mono ?_;rintro e wx ⟨rfl,K⟩;clear hrc hrf hsc hsf;obtain⟨hrc,hrf,hsc,hsf⟩:=K.out.cells);obtain⟨hset,hfin⟩:=K.out.fin (r:=de (f+1) l) (.mk 6 [] [] [] []) 6 ⟨#[]⟩ none 0 0 none 0 0 none 0 0 (by rw[de,if_neg (by simp[h1]),if_neg (by simp[h2]),if_neg (by simp[h3]),if_pos h4,if_pos hs,then_ok,cB hs,then_ok]) rfl rfl (fun _=>⟨.nil _ _, .nil _ _, .nil _ _⟩);simp only[World.setCells,ak,Nat.reduceAdd]at hset hfin;exact bodyPost_ret (v:= .agg #[.int .i64 6, .string ⟨#[]⟩, .slice none 0 0, .slice none 0 0, .slice none 0 0]) (by simp[results,results118,go_sem,hset]) rfl hfin
     |false=>
      have hfe:4*l.tail.length+2<=f:=by omega
      go_wp2_with (go_at_call 115;refine(K.out.is hs).mono ?_;rintro e wx ⟨rfl,K⟩;clear hrc hrf hsc hsf;obtain⟨hrc,hrf,hsc,hsf⟩:=K.out.cells)
      cases hx:bT f 1 l.tail with
      |error p=>
       obtain⟨q,er⟩:=p;go_wp2_with (go_at_call 141;refine(K.out.xerr hEx hfe hx).mono ?_;unfold bi;rintro e wx ⟨rfl,HG⟩);exact⟨rfl,cY (by rw[de,if_neg (by simp[h1]),if_neg (by simp[h2]),if_neg (by simp[h3]),if_pos h4,if_neg (by simp[hs]),hx,bm,bm]) HG.out⟩
      |ok p=>
       obtain⟨x,r⟩:=p;go_wp2_with (go_at_call 141;refine(K.out.expr hEx hfe hx).mono ?_;rintro e w3 ⟨A,n,c,rfl,K⟩;clear hrc hrf hsc hsf;obtain⟨hrc,hrf,hsc,hsf⟩:=K.out.cells;have k:=K.out.set (by omega) 2 (.slice (some ⟨w3.heap.size,0,none⟩) 1 1);simp only[World.setCells,ak,Nat.reduceAdd,aw,aN,aO]at k;have K:=G k;clear k)
       cases ht:b6 iu r with
       |true=>
        go_wp2_with (go_at_call 63;refine(K.out.want ht).mono ?_;rintro e wx ⟨rfl,K⟩;clear hrc hrf hsc hsf;obtain⟨hrc,hrf,hsc,hsf⟩:=K.out.cells);obtain⟨hset,hfin⟩:=K.out.fin (r:=de (f+1) l) (.mk 6 [] [x] [] []) 6 ⟨#[]⟩ (some ⟨w3.heap.size,0,none⟩) 1 1 none 0 0 none 0 0 (by rw[de,if_neg (by simp[h1]),if_neg (by simp[h2]),if_neg (by simp[h3]),if_pos h4,if_neg (by simp[hs]),hx,then_ok,then_ok,cB ht,then_ok]) rfl rfl (fun h=>⟨h.2.mono (fun b hb _=>by omega), .nil _ _, .nil _ _⟩);simp only[World.setCells,ak,Nat.reduceAdd]at hset hfin;exact bodyPost_ret (v:= .agg #[.int .i64 6, .string ⟨#[]⟩, .slice (some ⟨w3.heap.size,0,none⟩) 1 1, .slice none 0 0, .slice none 0 0]) (by simp[results,results118,go_sem,hset]) rfl hfin
       |false=>
        go_wp2_with (go_at_call 63;refine(K.out.bad ht).mono ?_;unfold bi;rintro e wx ⟨rfl,HG⟩);exact⟨rfl,cY (by rw[de,if_neg (by simp[h1]),if_neg (by simp[h2]),if_neg (by simp[h3]),if_pos h4,if_neg (by simp[hs]),hx,then_ok,then_ok,ew ht,bm]) HG.out⟩
    |false=>
     have hfs:4*l.length+2<=f:=by omega
     have hN:=h4;go_wp2_with (go_at_call 61;refine(K.out.no hN).mono ?_;rintro e wx ⟨rfl,K⟩;clear hN;clear hrc hrf hsc hsf;obtain⟨hrc,hrf,hsc,hsf⟩:=K.out.cells)
     cases hc:fN f l with
     |error p=>
      obtain⟨q,er⟩:=p;go_wp2_with (go_at_call 142;refine(K.out.serr hEx hNa hfs hc).mono ?_;unfold bi;rintro e wx ⟨rfl,HG⟩);exact⟨rfl,cY (by rw[kz f l h1 h2 h3 h4,hc,bm]) HG.out⟩
     |ok p=>
      obtain⟨s,r⟩:=p;go_wp2_with (go_at_call 142;refine(K.out.simp hEx hNa hfs hc).mono ?_;rintro e wx ⟨A1,n1,c1,A2,n2,c2,A3,n3,c3,rfl,K⟩;clear hrc hrf hsc hsf;obtain⟨hrc,hrf,hsc,hsf⟩:=K.out.cells;have k:=K.out.put5 (by omega) (.int .i64 s.k) (.string (ae s.nm)) (.slice A1 n1 c1) (.slice A2 n2 c2) (.slice A3 n3 c3);simp only[World.setCells,ak,Nat.reduceAdd,aw,aN,aO]at k;have K:=G k;clear k)
      cases hs:b6 iu r with
      |true=>
       go_wp2_with (go_at_call 63;refine(K.out.want hs).mono ?_;rintro e wx ⟨rfl,K⟩;clear hrc hrf hsc hsf;obtain⟨hrc,hrf,hsc,hsf⟩:=K.out.cells);obtain⟨hset,hfin⟩:=K.out.fin (r:=de (f+1) l) (s) s.k (ae s.nm) A1 n1 c1 A2 n2 c2 A3 n3 c3 (by rw[kz f l h1 h2 h3 h4,hc,then_ok,cB hs,then_ok]) rfl rfl (fun h=>h.2.keep ⟨ag _,fun _ _ _=>rfl⟩ (fun b hb _=>by omega));simp only[World.setCells,ak,Nat.reduceAdd]at hset hfin;exact bodyPost_ret (v:= .agg #[.int .i64 s.k, .string (ae s.nm), .slice A1 n1 c1, .slice A2 n2 c2, .slice A3 n3 c3]) (by simp[results,results118,go_sem,hset]) rfl hfin
      |false=>
       go_wp2_with (go_at_call 63;refine(K.out.bad hs).mono ?_;unfold bi;rintro e wx ⟨rfl,HG⟩);exact⟨rfl,cY (by rw[kz f l h1 h2 h3 h4,hc,then_ok,ew hs,bm]) HG.out⟩
theorem pT: ∀(f:Nat),f<=400000->(∀i,i<=f->vE i)/\kJ f/\x8 f
 |0,_=>by
  refine⟨fun i hi=> ?_,?_,?_⟩
  ·obtain rfl:i=0:=by omega
   intro l en w g h hf;omega
  ·intro l en w g h hf;omega
  ·intro l en w g h hf;omega
 |f+1,hf=>by
  obtain⟨h1,h2,h3⟩:=pT f (by omega);have hE:=uX (f:=f) (by omega);have hS:=sy f hE (tb (by omega)) h2 h3
  exact⟨fun i hi=>by
   rcases dB f i with h|h
   ·obtain rfl:i=f+1:=by omega
    exact hS
   ·exact h1 i h,rD f (by omega) h1,wk f hE h2 h3⟩
theorem ot {f:Nat} (hf:f<=400000):kJ f:=(pT f hf).2.1
end
end Go.Proofs.YtelplgkppalmfaaGreatDoor
