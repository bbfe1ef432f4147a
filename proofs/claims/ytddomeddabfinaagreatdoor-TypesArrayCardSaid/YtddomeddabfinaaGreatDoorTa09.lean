/-
  Parts of the proof: ParN.
-/
import Derived.Test.YtddomeddabfinaaGreatDoorTa00
import Derived.Test.YtddomeddabfinaaGreatDoorTa08
set_option maxRecDepth 100000
set_option maxHeartbeats 8000000
set_option linter.unusedVariables false
set_option linter.unusedSimpArgs false
set_option linter.defProp false
set_option linter.unusedSectionVars false
namespace Go.Proofs.YtddomeddabfinaaGreatDoor
open Go.Proofs.Tryz
open Go.RowKit
structure Fr (base g px:Nat) (w w':World):Prop where
 os:w'.os=w.os
 tape:w'.tape=w.tape
 output:w'.output=w.output
 size:w.heap.size<=w'.heap.size
 block: ∀k,k<base->k≠g->k≠px->w'.heap[k]? =w.heap[k]?
theorem Fr.trans {base g px:Nat} {a b c:World} (h:Fr base g px a b) (k:Fr base g px b c):Fr base g px a c:=
 ⟨k.os.trans h.os,k.tape.trans h.tape,k.output.trans h.output,aT h.size k.size,fun i hi h1 h2=>(k.block i hi h1 h2).trans (h.block i hi h1 h2)⟩
theorem Fr.of_grown {base g px:Nat} {w w':World} {row:Option Nat} (h:w.grownBy w' row) (hb:base<=w.heap.size) (hr: ∀k,row=some k->k=g\/k=px\/base<=k):Fr base g px w w':=
 ⟨h.os,h.tape,h.output,h.size,fun k hk h1 h2=>h.block k (by omega) (fun e=>by rcases hr k e.symm with h|h|h<;>omega)⟩
theorem Fr.grown {base g px:Nat} {w0 w w':World} (h0:w0.grownBy w (some g)) (h:Fr base g px w w') (hp:w0.heap.size<=px) (hb:w0.heap.size<=base):w0.grownBy w' (some g):=
 ⟨h.os.trans h0.os,h.tape.trans h0.tape,h.output.trans h0.output,aT h0.size h.size,fun k hk hn=>(h.block k (by omega) (fun e=>hn (by rw[e])) (by omega)).trans (h0.block k hk hn)⟩
theorem Fr.blk {base g px k:Nat} {t:TypeId} {cs:Array Value} {w w':World} (h:Fr base g px w w') (hB:aQ w k t cs) (hk:k<base) (h1:k≠g) (h2:k≠px):aQ w' k t cs:=(h.block k hk h1 h2).trans hB
theorem De:mU prog 68 70 6 88 (.agg #[.int .i64 0, .string ⟨#[]⟩, .string ⟨#[]⟩, .string ⟨#[]⟩, .int .i64 0, .slice none 0 0]):=⟨underlying68,by kernel_rfl,by rfl,by decide⟩
theorem tm {w:World} {base A n cap:Nat} {e:TypeId} {xs:List Value} {z0 z1 z2 z3 z4 z5:Value} (h:w.ownsRow base e 6 (.slice (some ⟨A,0,none⟩) (n+1) cap) (n+1) (xs++[z0,z1,z2,z3,z4,z5])) (hn:xs.length=n*6) (a b c d f i:Value):
  (w.setCells A (n*6) [a,b,c,d,f,i]).ownsRow base e 6 (.slice (some ⟨A,0,none⟩) (n+1) cap) (n+1) (xs++[a,b,c,d,f,i]):=by
 have st: ∀(zs:List Value) (j:Nat) (u:Value),(xs++zs).set (n*6+j) u=xs++zs.set j u:=fun zs j u=>by
  rw[List.set_append,if_neg (by omega)]
  congr 2
  omega
 have h0:=(h.stored (n*6+0) a).1;rw[st]at h0;have h1:=(h0.stored (n*6+1) b).1;rw[st]at h1;have h2:=(h1.stored (n*6+2) c).1;rw[st]at h2;have h3:=(h2.stored (n*6+3) d).1;rw[st]at h3;have h4:=(h3.stored (n*6+4) f).1;rw[st]at h4;have h5:=(h4.stored (n*6+5) i).1;rw[st]at h5;exact h5
theorem et (w:World) (px i:Nat) (v:Value):w.grownBy (w.setCell ⟨px,i,none⟩ v) (some px):=cS px [v] i w
theorem Dj {w:World} {base A px n cap:Nat} {e t:TypeId} {xs:List Value} {z0 z1 z2 z3 z4 z5 y0 y1 y2 y3 y4 y5:Value} (h:w.ownsRow base e 6 (.slice (some ⟨A,0,none⟩) (n+1) cap) (n+1) (xs++[z0,z1,z2,z3,z4,z5])) (hn:xs.length=n*6) (hx:aQ w px t #[y0,y1,y2,y3,y4,y5]) (hp:px≠A) (a b c d f i v:Value):
  ((w.setCells A (n*6) [a,b,c,d,f,i]).setCell ⟨px,5,none⟩ v).ownsRow base e 6 (.slice (some ⟨A,0,none⟩) (n+1) cap) (n+1) (xs++[a,b,c,d,f,i])/\aQ ((w.setCells A (n*6) [a,b,c,d,f,i]).setCell ⟨px,5,none⟩ v) px t #[y0,y1,y2,y3,y4,v]/\Fr w.heap.size A px w ((w.setCells A (n*6) [a,b,c,d,f,i]).setCell ⟨px,5,none⟩ v):=by
 have hg:=cS A [a,b,c,d,f,i] (n*6) w;have hs:=et (w.setCells A (n*6) [a,b,c,d,f,i]) px 5 v;refine⟨World.ownsRow.kept (tm h hn a b c d f i) hs (.inr fun e=> ?_),?_,(Fr.of_grown hg (ag _) (fun k e=> .inl (O e).symm)).trans (Fr.of_grown hs hg.size (fun k e=> .inr (.inl (O e).symm)))⟩
 ·have e:A=px:=O e;exact hp e.symm
 ·have:=(hx.grown hg (fun e=>hp (O e))).set 5 v;simpa using this
theorem Di {w:World} {base A px n cap:Nat} {e t:TypeId} {xs:List Value} {z0 z1 z2 z3 z4 z5 y0 y1 y2 y3 y4 y5:Value} (h:w.ownsRow base e 6 (.slice (some ⟨A,0,none⟩) (n+1) cap) (n+1) (xs++[z0,z1,z2,z3,z4,z5])) (hn:xs.length=n*6) (hx:aQ w px t #[y0,y1,y2,y3,y4,y5]) (hp:px≠A) (a b c d f i v:Value):
  ((w.setCell ⟨px,5,none⟩ v).setCells A (n*6) [a,b,c,d,f,i]).ownsRow base e 6 (.slice (some ⟨A,0,none⟩) (n+1) cap) (n+1) (xs++[a,b,c,d,f,i])/\aQ ((w.setCell ⟨px,5,none⟩ v).setCells A (n*6) [a,b,c,d,f,i]) px t #[y0,y1,y2,y3,y4,v]/\Fr w.heap.size A px w ((w.setCell ⟨px,5,none⟩ v).setCells A (n*6) [a,b,c,d,f,i]):=by
 have hs:=et w px 5 v;have hg:=cS A [a,b,c,d,f,i] (n*6) (w.setCell ⟨px,5,none⟩ v);refine⟨tm (World.ownsRow.kept h hs (.inr fun e=> ?_)) hn a b c d f i,?_,(Fr.of_grown hs (ag _) (fun k e=> .inr (.inl (O e).symm))).trans (Fr.of_grown hg hs.size (fun k e=> .inl (O e).symm))⟩
 ·have e:A=px:=O e;exact hp e.symm
 ·have:=(hx.set 5 v).grown hg (fun e=>hp (O e));simpa using this
theorem f9.snocK {w w':World} {base:Nat} {e:TypeId} {v:Value} {l:List (Ex×Value)} {x:Ex} {a:Value} {A n cap:Nat} (h:f9 w base e v l) (ha:cu w (fun b=>base<=b/\some b≠v.ownBlock) a x.args) (hl:l.length=n)
  (hn:w'.ownsRow base e 6 (.slice (some ⟨A,0,none⟩) (n+1) cap) (n+1) (fQ l++uS x a)) (hk:cw (fun b=>base<=b/\some b≠v.ownBlock) w w') (hA:some A=v.ownBlock\/A=w.heap.size):
  f9 w' base e (.slice (some ⟨A,0,none⟩) (n+1) cap) (l++[(x,a)]):=by
 subst hl;have hq: ∀b,(base<=b/\some b≠v.ownBlock)->b<w.heap.size->(base<=b/\some b≠Value.ownBlock (.slice (some ⟨A,0,none⟩) (l.length+1) cap)):=fun b hb hlt=>by
  refine⟨hb.1,fun e=> ?_⟩;have e:b=A:=O e;rcases hA with hA|hA
  ·exact hb.2 (by rw[e,hA])
  ·omega
 refine⟨by rw[Z,oZ];simpa[fQ]using hn,fun p hp=> ?_⟩;rcases List.mem_append.1 hp with hp|hp
 ·exact(h.2 p hp).keep hk hq
 ·rw[cA]at hp;subst hp;exact ha.keep hk hq
theorem zP {w w8 w9 W:World} {base g px A' n cap cap' m:Nat} {C A:Option Addr} {c:Nat} {nm:List UInt8} {acc:List (Ex×Value)} {x:Ex} {q:List bK} {en:Int} (hn:acc.length=n) (hbase:base<=w.heap.size) (hg:g<px) (hpx:px<base)
  (hG8:w.grownBy w8 (some g)) (hO8:f9 w8 base 70 (.slice C n cap) acc) (h3:cu w8 (fun b=>w.heap.size<=b) (.slice A m c) x.args) (h4:PA w8 g q en) (hO:f9 w base 70 (.slice C n cap) acc)
  (hq2:w8.grownBy w9 (Value.ownBlock (.slice C n cap))) (hq3:some A'=Value.ownBlock (.slice C n cap)\/A'=w8.heap.size)
  (hW:W.ownsRow base 70 6 (.slice (some ⟨A',0,none⟩) (n+1) cap') (n+1) (fQ acc++uS x (.slice A m c))) (hX:aQ W px 70 #[.int .i64 5, .string ⟨#[]⟩, .string (ah nm), .string ⟨#[]⟩, .int .i64 0, .slice (some ⟨A',0,none⟩) (n+1) cap'])
  (hF:Fr w9.heap.size A' px w9 W):
  Fr base g px w W/\PA W g q en/\ ∃C' cap' a,aQ W px 70 #[.int .i64 5, .string ⟨#[]⟩, .string (ah nm), .string ⟨#[]⟩, .int .i64 0, .slice C' (n+1) cap']/\f9 W base 70 (.slice C' (n+1) cap') (acc++[(x,a)]):=by
 have hr: ∀k,Value.ownBlock (.slice C n cap)=some k->base<=k/\k<w.heap.size:=fun k hk=>World.ownsRow.lt hO.1 k hk;have hA8:base<=A':=by
  have:=hG8.size;rcases hq3 with h|h
  ·exact(hr A' h.symm).1
  ·omega
 have hz8:=hG8.size;have hz9:=hq2.size;have hF9:Fr base g px w w9:=(Fr.of_grown hG8 hbase (fun k e=>by injection e with e;omega)).trans (Fr.of_grown hq2 (by omega) (fun k e=>by have:=hr k e;omega));have hFW:Fr base g px w W:=⟨hF.os.trans hF9.os,hF.tape.trans hF9.tape,hF.output.trans hF9.output,aT hF9.size hF.size,fun k hk h1 h2=>(hF.block k (by omega) (by omega) h2).trans (hF9.block k hk h1 h2)⟩
 have hP9:=h4.grown hq2 (fun k e=>by have:=hr k e;omega);refine⟨hFW,?_,_,cap',_,hX,hO8.snocK (h3.mono fun b hb _=>⟨by omega,fun e=>by have:=hr b e.symm;omega⟩) hn hW ⟨by have:=hF.size;omega,fun b hP hb=> ?_⟩ hq3⟩
 ·obtain⟨A1,c1,hb,ht,hn1⟩:=hP9;have hbg: ∀k,k<=g->k<w9.heap.size->W.heap[k]? =w9.heap[k]? :=fun k hk hk'=>hF.block k hk' (by omega) (by omega);refine⟨A1,c1,(hbg g (ag _) hb.lt).trans hb,⟨ht.le,ht.max,?_⟩,hn1⟩;by_cases hl:q=[]
  ·exact .inl hl
  rcases ht.rd with h0|⟨b,off,ha,hlt,hc⟩
  ·exact absurd h0 hl
  ·have hbk:=hbg b (by have:=hn1 b off ha hl;omega) hlt;have cc: ∀o,W.cell? ⟨b,o,none⟩=w9.cell? ⟨b,o,none⟩:=fun o=>World.cell?_of_block (w:=w9) (a:=⟨b,o,none⟩) hbk;exact .inr ⟨b,off,ha,by have:=hF.size;omega,fun i hi=>let⟨q0,q1,q2,q3⟩:=hc i hi;⟨(cc _).trans q0,(cc _).trans q1,(cc _).trans q2,(cc _).trans q3⟩⟩
 ·refine(hF.block b (by omega) (fun e=> ?_) (by omega)).trans (hq2.block b hb hP.2);rcases hq3 with h|h
  ·exact hP.2 (by rw[e,h])
  ·omega
theorem Bq (f:Nat) (hEx:eA f) (base g px pb:Nat) (nm:List UInt8) (l:List bK) (en:Int) (w:World) (acc:List (Ex×Value)) (C:Option Addr) (n cap:Nat)
  (hP:PA w g l en) (hb:aQ w pb 153 #[.pointer (some ⟨g,0,none⟩)]) (hx:aQ w px 70 #[.int .i64 5, .string ⟨#[]⟩, .string (ah nm), .string ⟨#[]⟩, .int .i64 0, .slice C n cap])
  (hO:f9 w base 70 (.slice C n cap) acc) (hn:acc.length=n) (hbase:base<=w.heap.size) (hg:g<px) (hgp:g<pb) (hpp:pb≠px) (hpx:px<base) (hpb:pb<base) (hf:4*l.length+2<=f) (hnb:n<=100000)
  (x:Ex) (q:List bK) (he:bN f 1 l= .ok (x,q)):
  Calls prog 223 #[.pointer (some ⟨px,0,none⟩), .pointer (some ⟨pb,0,none⟩)] w fun e w'=>e= .returned (.tuple #[])/\Fr base g px w w'/\PA w' g q en/\
   ∃C' cap' a,aQ w' px 70 #[.int .i64 5, .string ⟨#[]⟩, .string (ah nm), .string ⟨#[]⟩, .int .i64 0, .slice C' (n+1) cap']/\f9 w' base 70 (.slice C' (n+1) cap') (acc++[(x,a)]):=by
 have HP:=G hP;have HB:=G hb;have HX:=G hx;have HO:=G hO;have hgw:g<w.heap.size:=hP.lt;have hxg:px≠g:=by omega
 have hbg:pb≠g:=by omega
 clear hP hb hx hO;go_enter func223,ntmps223
 refine jD 6 0 [(3,fun v=> ∃A n c,v= .agg #[.int .i64 x.k, .string (ah x.op), .string (ah x.nm), .string (ah x.tx), .int .i64 x.v, .slice A n c],fun v wx=> ∀A n c,v= .agg #[.int .i64 x.k, .string (ah x.op), .string (ah x.nm), .string (ah x.tx), .int .i64 x.v, .slice A n c]->cu wx (fun b=>w.heap.size<=b) (.slice A n c) x.args/\PA wx g q en),
   (5,fun v=> ∃gb,v= .slice (some ⟨gb,0,none⟩) 1 1,fun v wx=> ∀gb,v= .slice (some ⟨gb,0,none⟩) 1 1->w.heap.size<=gb/\aQ wx gb 70 #[.int .i64 0, .string ⟨#[]⟩, .string ⟨#[]⟩, .string ⟨#[]⟩, .int .i64 0, .slice none 0 0])] 3 (some g) mixed (by kernel_rfl)
  ⟨fun _ _ _ h hx A n c e=>⟨(h A n c e).1.keep (.of_ext hx) (fun _ hb _=>hb),(h A n c e).2.ext hx⟩,fun _ _ _ h hx gb e=>⟨(h gb e).1,(h gb e).2.ext hx⟩,trivial⟩
  ⟨.inl rfl, .inr fun _ _ _ h hx gb e=>⟨(h gb e).1,(h gb e).2.grown hx (fun e'=>by have:=(h gb e).1;injection e' with e';omega)⟩,trivial⟩ ?_
 repeat (refine sx ?_ (fun w1 hU=> ?_) ?_;rotate_left;(focus have f1:=(HX.out.grown (aE hU) (fun e=>hxg (O e))).cell;have f2:=(HB.out.grown (aE hU) (fun e=>hbg (O e))).cell;clear hU;go_simp<;>with_reducible rfl);simp only[aY,aX,aW,aV,aU])
 refine bG _ _ (by rfl) rfl ⟨_,none,0,0,rfl⟩ rfl (fun w6 hT hp K hK=> ?_) ?_
 ·clear hp;have hc:=hEx 1 l en w6 g (HP.out.ext hT.un) (by decide) (by decide) hf;have HT6:=G hT.un;clear hT;go_simp;refine hc.mono ?_;intro e w7 hh;rw[he]at hh;obtain⟨hG,A,n,c,rfl,hR,hPA⟩:=hh;exact hK _ _ hG ⟨_,_,_,rfl⟩ (fun A' n' c' e=>by injection e with e;simp only[eV,dV,dY,and_true,true_and]at e;obtain⟨rfl,rfl,rfl⟩:=e;exact⟨hR.mono (fun b hb _=>aT (df HT6.out) hb),hPA⟩)
 rintro _ ⟨A,m,c,rfl⟩;simp only[aY,aX,aW,aV,aU];repeat (refine sx ?_ (fun w1 hU=> ?_) ?_;rotate_left;(focus have f1:=(HX.out.grown (aE hU) (fun e=>hxg (O e))).cell;have f2:=(HB.out.grown (aE hU) (fun e=>hbg (O e))).cell;clear hU;go_simp<;>with_reducible rfl);simp only[aY,aX,aW,aV,aU])
 refine bZ _ _ (by rfl) rfl ⟨_,0,rfl⟩ (by simp) (fun w6 hU hp K hK=> ?_) ?_
 ·have hz6:=(aE hU).size;clear hp hU;go_simp;exact hK _ _ (I w6 _) ⟨_,rfl⟩ (fun gb e=>by injection e with e;injection e with e;injection e with e;subst e;exact⟨hz6,am w6 _ _⟩)
 rintro _ ⟨gb,rfl⟩;simp only[aY,aX,aW,aV,aU];intro w8 hw8 hp;obtain⟨hz5,h5⟩:=hp _ (.head _) gb rfl;obtain⟨h3,h4⟩:=hp _ (.tail _ (.head _)) A m c rfl;clear hp;have hG8:=aE hw8;have hx8:=HX.out.grown hG8 (fun e=>hxg (O e));have hO8:=HO.out.grown hG8 (fun k e=>by injection e with e;omega);have hz8:=hG8.size;refine bh [6] (by kernel_rfl) (by simp) (fun i hi=> ?_);obtain rfl:i=6:=by simpa using hi
 refine aR rfl (by rfl) ?_;refine yA De _ _ rfl base _ n (fQ acc) rfl (by rw[<-hn];exact hn▸hO8.1) gb [.int .i64 0, .string ⟨#[]⟩, .string ⟨#[]⟩, .string ⟨#[]⟩, .int .i64 0, .slice none 0 0] rfl h5 rfl (by decide) (by omega) (by decide) (by omega) ?_;intro A' cap' w9 hq1 hq2 hq3;have hni:(n:Int)<(n:Int)+1:=by omega
 have hle:(fQ acc).length=n*6:=by rw[lL,hn]
 have hc9: ∀i,i<6->w9.cell? ⟨A',n*6+i,none⟩=([.int .i64 0, .string ⟨#[]⟩, .string ⟨#[]⟩, .string ⟨#[]⟩, .int .i64 0, .slice none 0 0]:List Value)[i]? :=fun i hi=>by
  rw[hq1.cellAt (n*6+i) (by omega),cC (by omega)]
  congr 1
  omega
 have e0:=hc9 0 (by omega);have e1:=hc9 1 (by omega);have e2:=hc9 2 (by omega);have e3:=hc9 3 (by omega);have e4:=hc9 4 (by omega);have e5:=hc9 5 (by omega);have g0:=hq1.frozenAt (n*6);have g1:=hq1.frozenAt (n*6+1);have g2:=hq1.frozenAt (n*6+2);have g3:=hq1.frozenAt (n*6+3);have g4:=hq1.frozenAt (n*6+4);have g5:=hq1.frozenAt (n*6+5);rw[br]at e0;have hrow: ∀k,Value.ownBlock (.slice C n cap)=some k->base<=k/\k<w.heap.size:=fun k hk=>World.ownsRow.lt HO.out.1 k hk;have hAb:base<=A':=by
  rcases hq3 with h|h
  ·exact(hrow A' h.symm).1
  ·omega
 have hx9:=hx8.grown hq2 (fun e=>by have:=hrow px e.symm;omega);have hpxc:=hx9.cell;have hpxf:=hx9.frozen;have hAp:A'≠px:=by omega
 have hpA:px≠A':=by omega
 have hz9:=hq2.size;have CF:=G (fun W cap'=>zP (W:=W) (cap':=cap') (nm:=nm) hn hbase hg hpx hG8 hO8 h3 h4 HO.out hq2 hq3);have PA':=G (Dj hq1 hle hx9 hpA (.int .i64 x.k) (.string (ah x.op)) (.string (ah x.nm)) (.string (ah x.tx)) (.int .i64 x.v) (.slice A m c) (.slice (some ⟨A',0,none⟩) (n+1) cap'));have PB':=G (Di hq1 hle hx9 hpA (.int .i64 x.k) (.string (ah x.op)) (.string (ah x.nm)) (.string (ah x.tx)) (.int .i64 x.v) (.slice A m c) (.slice (some ⟨A',0,none⟩) (n+1) cap'));clear hc9 hx9 hrow;refine bh [7,9] (by kernel_rfl) (by simp) (fun i hi=> ?_);have hi:i=7\/i=9:=by simpa using hi
 rcases hi with rfl|rfl
 ·refine aR rfl (by rfl) ?_;go_simp;try simp only[aY,aX,aW,aV,aU]
  refine bh [8,9] (by kernel_rfl) (by simp) (fun i hi=> ?_);have hi:i=8\/i=9:=by simpa using hi
  rcases hi with rfl|rfl
  ·refine aR rfl (by rfl) ?_;go_simp;try simp only[aY,aX,aW,aV,aU]
   refine bh [9] (by kernel_rfl) (by simp) (fun i hi=> ?_);obtain rfl:i=9:=by simpa using hi
   refine aR rfl (by rfl) ?_;go_simp;try simp only[aY,aX,aW,aV,aU]
   refine bh [10] (by kernel_rfl) (by simp) (fun i hi=> ?_);obtain rfl:i=10:=by simpa using hi
   refine aR rfl (by rfl) ?_;go_simp;try simp only[aY,aX,aW,aV,aU]
   refine je (by kernel_rfl) ?_;obtain⟨q1,q2,q3⟩:=PA'.out;have fin:=CF.out _ _ q1 q2 q3;simp only[World.setCells,eb,Nat.reduceAdd]at fin
   go_end0
   obtain⟨f1,f2,C',c',a,f3,f4⟩:=fin;first|exact⟨rfl,f1,f2,C',c',a,f3,f4⟩|exact⟨rfl,f1,f2,C',c',f3,a,f4⟩
  ·refine aR rfl (by rfl) ?_;go_simp;try simp only[aY,aX,aW,aV,aU]
   refine bh [8,10] (by kernel_rfl) (by simp) (fun i hi=> ?_);have hi:i=8\/i=10:=by simpa using hi
   rcases hi with rfl|rfl
   ·refine aR rfl (by rfl) ?_;go_simp;try simp only[aY,aX,aW,aV,aU]
    refine bh [10] (by kernel_rfl) (by simp) (fun i hi=> ?_);obtain rfl:i=10:=by simpa using hi
    refine aR rfl (by rfl) ?_;go_simp;try simp only[aY,aX,aW,aV,aU]
    refine je (by kernel_rfl) ?_;obtain⟨q1,q2,q3⟩:=PA'.out;have fin:=CF.out _ _ q1 q2 q3;simp only[World.setCells,eb,Nat.reduceAdd]at fin
    go_end0
    obtain⟨f1,f2,C',c',a,f3,f4⟩:=fin;first|exact⟨rfl,f1,f2,C',c',a,f3,f4⟩|exact⟨rfl,f1,f2,C',c',f3,a,f4⟩
   ·refine aR rfl (by rfl) ?_;go_simp;try simp only[aY,aX,aW,aV,aU]
    refine bh [8] (by kernel_rfl) (by simp) (fun i hi=> ?_);obtain rfl:i=8:=by simpa using hi
    refine aR rfl (by rfl) ?_;go_simp;try simp only[aY,aX,aW,aV,aU]
    refine je (by kernel_rfl) ?_;obtain⟨q1,q2,q3⟩:=PB'.out;have fin:=CF.out _ _ q1 q2 q3;simp only[World.setCells,eb,Nat.reduceAdd]at fin
    go_end0
    obtain⟨f1,f2,C',c',a,f3,f4⟩:=fin;first|exact⟨rfl,f1,f2,C',c',a,f3,f4⟩|exact⟨rfl,f1,f2,C',c',f3,a,f4⟩
 ·refine aR rfl (by rfl) ?_;go_simp;try simp only[aY,aX,aW,aV,aU]
  refine bh [7,10] (by kernel_rfl) (by simp) (fun i hi=> ?_);have hi:i=7\/i=10:=by simpa using hi
  rcases hi with rfl|rfl
  ·refine aR rfl (by rfl) ?_;go_simp;try simp only[aY,aX,aW,aV,aU]
   refine bh [8,10] (by kernel_rfl) (by simp) (fun i hi=> ?_);have hi:i=8\/i=10:=by simpa using hi
   rcases hi with rfl|rfl
   ·refine aR rfl (by rfl) ?_;go_simp;try simp only[aY,aX,aW,aV,aU]
    refine bh [10] (by kernel_rfl) (by simp) (fun i hi=> ?_);obtain rfl:i=10:=by simpa using hi
    refine aR rfl (by rfl) ?_;go_simp;try simp only[aY,aX,aW,aV,aU]
    refine je (by kernel_rfl) ?_;obtain⟨q1,q2,q3⟩:=PA'.out;have fin:=CF.out _ _ q1 q2 q3;simp only[World.setCells,eb,Nat.reduceAdd]at fin
    go_end0
    obtain⟨f1,f2,C',c',a,f3,f4⟩:=fin;first|exact⟨rfl,f1,f2,C',c',a,f3,f4⟩|exact⟨rfl,f1,f2,C',c',f3,a,f4⟩
   ·refine aR rfl (by rfl) ?_;go_simp;try simp only[aY,aX,aW,aV,aU]
    refine bh [8] (by kernel_rfl) (by simp) (fun i hi=> ?_);obtain rfl:i=8:=by simpa using hi
    refine aR rfl (by rfl) ?_;go_simp;try simp only[aY,aX,aW,aV,aU]
    refine je (by kernel_rfl) ?_;obtain⟨q1,q2,q3⟩:=PB'.out;have fin:=CF.out _ _ q1 q2 q3;simp only[World.setCells,eb,Nat.reduceAdd]at fin
    go_end0
    obtain⟨f1,f2,C',c',a,f3,f4⟩:=fin;first|exact⟨rfl,f1,f2,C',c',a,f3,f4⟩|exact⟨rfl,f1,f2,C',c',f3,a,f4⟩
  ·refine aR rfl (by rfl) ?_;go_simp;try simp only[aY,aX,aW,aV,aU]
   refine bh [7] (by kernel_rfl) (by simp) (fun i hi=> ?_);obtain rfl:i=7:=by simpa using hi
   refine aR rfl (by rfl) ?_;go_simp;try simp only[aY,aX,aW,aV,aU]
   refine bh [8] (by kernel_rfl) (by simp) (fun i hi=> ?_);obtain rfl:i=8:=by simpa using hi
   refine aR rfl (by rfl) ?_;go_simp;try simp only[aY,aX,aW,aV,aU]
   refine je (by kernel_rfl) ?_;obtain⟨q1,q2,q3⟩:=PB'.out;have fin:=CF.out _ _ q1 q2 q3;simp only[World.setCells,eb,Nat.reduceAdd]at fin
   go_end0
   obtain⟨f1,f2,C',c',a,f3,f4⟩:=fin;first|exact⟨rfl,f1,f2,C',c',a,f3,f4⟩|exact⟨rfl,f1,f2,C',c',f3,a,f4⟩
def cF:=@Fr.of_grown
def jg:=@Fr.grown
end Go.Proofs.YtddomeddabfinaaGreatDoor
