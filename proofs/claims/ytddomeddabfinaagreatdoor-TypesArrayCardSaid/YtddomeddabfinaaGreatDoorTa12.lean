/-
  Parts of the proof: ParW ParX ParY.
-/
import Derived.Test.YtddomeddabfinaaGreatDoorTa00
import Derived.Test.YtddomeddabfinaaGreatDoorTa11
import Derived.LoopN
set_option maxRecDepth 100000
set_option maxHeartbeats 8000000
set_option linter.unusedVariables false
set_option linter.unusedSimpArgs false
set_option linter.unusedSectionVars false
namespace Go.Proofs.YtddomeddabfinaaGreatDoor
open Go.Proofs.Tryz
section
open Go.RowKit
theorem PA.set2 {w:World} {g:Nat} {l:List bK} {en:Int} {ps i:Nat} {v:Value} (h:PA w g l en) (hp:g<ps): ∃A c,aQ w g 155 #[.slice A l.length c, .int .i64 en]/\aQ (w.setCell ⟨ps,i,none⟩ v) g 155 #[.slice A l.length c, .int .i64 en]/\tT (w.setCell ⟨ps,i,none⟩ v) A c l/\ ∀b off,A=some ⟨b,off,none⟩->l≠ []->b<g:=by
 obtain⟨A,c,hb,ht,hn⟩:=h.grown (et w ps i v) (fun k e=>by injection e with e;omega);refine⟨A,c,?_,hb,ht,hn⟩;exact(Below.heap_setCell w ⟨ps,i,none⟩ v g (by show g≠ps;omega)).symm.trans hb
def Ag (g:Nat) (en:Int) (w:World) (r:PR Vr) (e:Ending) (w':World):Prop:=
 w.grownBy w' (some g)/\match r with
 | .ok (v,q)=>e= .returned (.agg #[.string (ah v.nm), .int .i64 v.sz])/\PA w' g q en
 | .error (q,n)=>e=aZ en q n
theorem jq {g:Nat} {en:Int} {w w':World} {r:PR Vr} {q:List bK} {n:Int} (hr:r= .error (q,n)) (hG:w.grownBy w' (some g)):Ag g en w r (aZ en q n) w':=by
 subst hr;exact⟨hG,rfl⟩
theorem Bl {w W:World} {g pr:Nat} {en:Int} {q:List bK} {z0 z1:Value} {r:PR Vr} (v:Vr) (sn:ByteArray) (z:Int) (hr:r= .ok (v,q)) (hn:ah v.nm=sn) (hz:v.sz=z) (hpr:w.heap.size<=pr) (hB:aQ W pr 85 #[z0,z1]) (hG:w.grownBy W (some g)) (hPA:PA W g q en) (hg:g<w.heap.size):
  (∀o,(W.setCells pr 0 [.string sn, .int .i64 z]).cell? ⟨pr,o,none⟩=(#[.string sn, .int .i64 z]:Array Value)[o]?)/\Ag g en w r (.returned (.agg #[.string sn, .int .i64 z])) (W.setCells pr 0 [.string sn, .int .i64 z]):=by
 subst hr hn hz;have hc:=cS pr [.string (ah v.nm), .int .i64 v.sz] 0 W;have hb:=(hB.set 0 (.string (ah v.nm))).set 1 (.int .i64 v.sz);exact⟨fun o=>by have:=hb.cell o;simpa[World.setCells]using this,dq hG hc hpr,rfl,hPA.grown hc fun k e=>by injection e with e;omega⟩
section
variable {w W W':World} {g pb sb:Nat} {en:Int} {pc sc:Array Value} {ty:TypeId} {X:World->Prop} {l l':List bK}
theorem SK.next (K:SK w g en pb pc sb sc ty X l W) {k v fr:Int} {tx:List UInt8} (h:cg l=⟨k,tx,v,fr⟩):Calls prog 146 #[.pointer (some ⟨g,0,none⟩)] W fun e W'=>e= .returned (.agg #[.int .i64 k, .string (ah tx), .int .i64 v, .int .i64 fr])/\Hid (SK w g en pb pc sb sc ty X l (W'.alloc (.cells #[.int .i64 k, .string (ah tx), .int .i64 v, .int .i64 fr] 206))):=by
 have:=d9 g l en W K.pa;rw[h]at this;exact this.mono fun e W' hh=>⟨hh.1,G (K.ext (hh.2.alloc' _))⟩
theorem SK.fail (K:SK w g en pb pc sb sc ty X l W) (n:Int):Calls prog 147 #[.pointer (some ⟨g,0,none⟩), .int .i64 n] W fun e W'=>e=aZ en l n/\Hid (w.grownBy W' (some g)):=
 (nS g l en n W K.pa).mono fun e W' hh=>⟨hh.1,G (ak K.gr (hh.2.grownBy _))⟩
theorem SK.finV {z0 z1:Value} (K:SK w g en w.heap.size #[z0,z1] sb sc 85 X l W) {r:PR Vr} (v:Vr) (sn:ByteArray) (z:Int) (hr:r= .ok (v,l)) (hn:ah v.nm=sn) (hz:v.sz=z):
  (∀o,(W.setCells w.heap.size 0 [.string sn, .int .i64 z]).cell? ⟨w.heap.size,o,none⟩=(#[.string sn, .int .i64 z]:Array Value)[o]?)/\Ag g en w r (.returned (.agg #[.string sn, .int .i64 z])) (W.setCells w.heap.size 0 [.string sn, .int .i64 z]):=
 Bl v sn z hr hn hz (ag _) K.rb K.gr K.pa K.nn.1
end
theorem sT (l:List bK) (en:Int) (w:World) (g:Nat) (h:PA w g l en):Calls prog 99 #[.pointer (some ⟨g,0,none⟩)] w (Ag g en w (i_ l)):=by
 have hgl:=h.lt;have K:=G (SK.one h #[.string ⟨#[]⟩, .int .i64 0] 85);have hrg:w.heap.size≠g:=by omega
 have hgr:g≠w.heap.size:=by omega
 obtain⟨hrc,hrf,hsc,hsf⟩:=K.out.cells;clear h;go_enter func99,ntmps99;by_cases hk:(cg l).k=1
 rotate_left
 ·go_wp2_with (go_at_call 101;refine(K.out.noname hk).mono ?_;unfold aZ;rintro e wx ⟨rfl,HG⟩);exact⟨rfl,jq (by unfold i_;rw[j8 hk,bI]) HG.out⟩
 go_wp2_with (go_at_call 101;refine(K.out.name hk).mono ?_;rintro e w1 ⟨rfl,K⟩;have hz1:=K.out.rb.lt;have K:=G (K.out.open (Y:=fun _=>True) #[.string (ah (cg l).t), .int .i64 0] (fun _=>trivial) fun _ _ _ _ _ _=>trivial);have hsg:w1.heap.size≠g:=(by omega);have hgs:g≠w1.heap.size:=(by omega);have hps:w.heap.size≠w1.heap.size:=(by omega);have hsp:w1.heap.size≠w.heap.size:=(by omega);clear hrc hrf hsc hsf;obtain⟨hrc,hrf,hsc,hsf⟩:=K.out.cells)
 cases hb:cI pL l.tail with
 |true=>
  go_wp2_with (go_at_call 98;refine(K.out.yes hb).mono ?_;rintro e wx ⟨rfl,K⟩;clear hrc hrf hsc hsf;obtain⟨hrc,hrf,hsc,hsf⟩:=K.out.cells);obtain⟨⟨k,tx,v,fr⟩,hdt⟩: ∃t,cg l.tail.tail=t:=⟨_,rfl⟩
  by_cases h3:k=3
  rotate_left
  ·have hb3:(k==3)=false:=beq_eq_false_iff_ne.2 h3;have hb3n:(k !=3)=true:=by rw[bne,hb3];rfl
   go_wp2_with (go_at_call 146;refine(K.out.next hdt).mono ?_;rintro e wx ⟨rfl,K⟩;clear hrc hrf hsc hsf;obtain⟨hrc,hrf,hsc,hsf⟩:=K.out.cells);go_wp2_with (go_at_call 147;refine(K.out.fail 3).mono ?_;unfold aZ;rintro e wx ⟨rfl,HG⟩);exact⟨rfl,jq (by unfold i_;rw[bH hk,then_ok,if_pos hb,hdt];dsimp only;rw[if_neg h3,bI]) HG.out⟩
  subst h3;by_cases hv1: ¬v<1
  rotate_left
  ·have hv1:v<1:=by omega
   go_wp2_with (go_at_call 146;refine(K.out.next hdt).mono ?_;rintro e wx ⟨rfl,K⟩;clear hrc hrf hsc hsf;obtain⟨hrc,hrf,hsc,hsf⟩:=K.out.cells);go_wp2_with (go_at_call 147;refine(K.out.fail 2).mono ?_;unfold aZ;rintro e wx ⟨rfl,HG⟩);exact⟨rfl,jq (by unfold i_;rw[bH hk,then_ok,if_pos hb,hdt];dsimp only;rw[if_pos rfl,if_pos (.inl hv1),bI]) HG.out⟩
  by_cases hv2: ¬2000<v
  rotate_left
  ·have hv2:2000<v:=by omega
   go_wp2_with (go_at_call 146;refine(K.out.next hdt).mono ?_;rintro e wx ⟨rfl,K⟩;clear hrc hrf hsc hsf;obtain⟨hrc,hrf,hsc,hsf⟩:=K.out.cells);go_wp2_with (go_at_call 147;refine(K.out.fail 2).mono ?_;unfold aZ;rintro e wx ⟨rfl,HG⟩);exact⟨rfl,jq (by unfold i_;rw[bH hk,then_ok,if_pos hb,hdt];dsimp only;rw[if_pos rfl,if_pos (.inr hv2),bI]) HG.out⟩
  obtain⟨t0,r,hlr⟩:=lJ (show(cg l.tail.tail).k=3 by rw[hdt]) (by decide);obtain rfl:t0=⟨3,tx,v,fr⟩:=by rw[hlr]at hdt;exact hdt
  have hrt:l.tail.tail.tail=r:=by rw[hlr];rfl
  go_wp2_with (go_at_call 146;refine(K.out.next hdt).mono ?_;rintro e wx ⟨rfl,K⟩;clear hrc hrf hsc hsf;obtain⟨hrc,hrf,hsc,hsf⟩:=K.out.cells;have hpp:=K.out.pa;rw[hlr]at hpp;obtain⟨A,c,hb0,hb1,ht,hn⟩:=hpp.set2 (ps:=w1.heap.size) (i:=1) (v:= .int .i64 v) (by omega);obtain⟨b,off,rfl,hlt,_⟩:=ht.at_ 0 (by simp);have hbc:=hb0.cell;have hbf:=hb0.frozen;rw[hlr]at K;clear hpp hb0);all_goals
   first|have hq:=PA.next_a hb1 ht (hn b off rfl (by simp)) hlt (by assumption)|have hq:=PA.next_b hb1 ht (hn b off rfl (by simp)) hlt (by assumption)
   have k:=(K.out.set (by omega) 1 (.int .i64 v)).step hq.1 hq.2;simp only[a8,bL,bV]at k;have K:=G k;clear hb1 ht hn hlt hbc hbf hrc hrf hsc hsf hq k;generalize World.setCell _ _ _=w4 at*
   cases hr:cI rE r with
   |true=>
    obtain⟨hrc,hrf,hsc,hsf⟩:=K.out.cells;go_wp2_with (go_at_call 100;refine(K.out.want hr).mono ?_;rintro e wx ⟨rfl,K⟩;clear hrc hrf hsc hsf;obtain⟨hrc,hrf,hsc,hsf⟩:=K.out.cells)
    cases hs:cI uu r.tail with
    |true=>
     go_wp2_with (go_at_call 100;refine(K.out.want hs).mono ?_;rintro e wx ⟨rfl,K⟩;clear hrc hrf hsc hsf;obtain⟨hrc,hrf,hsc,hsf⟩:=K.out.cells);obtain⟨hset,hfin⟩:=K.out.finV (r:=i_ l) (⟨(cg l).t,v⟩) (ah (cg l).t) v (by unfold i_;rw[bH hk,then_ok,if_pos hb,hdt];dsimp only;rw[if_pos rfl,if_neg (by omega),hrt,co hr,then_ok,then_ok,co hs,then_ok]) rfl rfl;simp only[World.setCells,aA]at hset hfin;exact bodyPost_ret (v:= .agg #[.string (ah (cg l).t), .int .i64 v]) (by simp[results,results99,go_sem,hset]) rfl hfin
    |false=>
     go_wp2_with (go_at_call 100;refine(K.out.bad hs).mono ?_;unfold aZ;rintro e wx ⟨rfl,HG⟩);exact⟨rfl,jq (by unfold i_;rw[bH hk,then_ok,if_pos hb,hdt];dsimp only;rw[if_pos rfl,if_neg (by omega),hrt,co hr,then_ok,then_ok,em hs,bI]) HG.out⟩
   |false=>
    go_wp2_with (go_at_call 100;refine(K.out.bad hr).mono ?_;unfold aZ;rintro e wx ⟨rfl,HG⟩);exact⟨rfl,jq (by unfold i_;rw[bH hk,then_ok,if_pos hb,hdt];dsimp only;rw[if_pos rfl,if_neg (by omega),hrt,em hr,bI,bI]) HG.out⟩
 |false=>
  have hN:=hb;go_wp2_with (go_at_call 98;refine(K.out.no hN).mono ?_;rintro e wx ⟨rfl,K⟩;clear hN;clear hrc hrf hsc hsf;obtain⟨hrc,hrf,hsc,hsf⟩:=K.out.cells)
  cases hs:cI uu l.tail with
  |true=>
   go_wp2_with (go_at_call 100;refine(K.out.want hs).mono ?_;rintro e wx ⟨rfl,K⟩;clear hrc hrf hsc hsf;obtain⟨hrc,hrf,hsc,hsf⟩:=K.out.cells);obtain⟨hset,hfin⟩:=K.out.finV (r:=i_ l) (⟨(cg l).t,0⟩) (ah (cg l).t) 0 (by unfold i_;rw[bH hk,then_ok,if_neg (by simp[hb]),then_ok,co hs,then_ok]) rfl rfl;simp only[World.setCells,aA]at hset hfin;exact bodyPost_ret (v:= .agg #[.string (ah (cg l).t), .int .i64 0]) (by simp[results,results99,go_sem,hset]) rfl hfin
  |false=>
   go_wp2_with (go_at_call 100;refine(K.out.bad hs).mono ?_;unfold aZ;rintro e wx ⟨rfl,HG⟩);exact⟨rfl,jq (by unfold i_;rw[bH hk,then_ok,if_neg (by simp[hb]),then_ok,em hs,bI]) HG.out⟩
end
section
open Go.RowKit
def lk (w:World) (P:Nat->Prop) (v:Value) (ls:List (List UInt8)):Prop:=
 ∃A c,v= .slice A ls.length c/\(ls=[]\/ls.length<=c/\c<=maxLen/\ ∃b o,A=some ⟨b,o,none⟩/\P b/\b<w.heap.size/\ ∀i,(h:i<ls.length)->w.cell? ⟨b,o+i,none⟩=some (.string (ah ls[i])))
theorem lk.nil_ (w:World) (P:Nat->Prop):lk w P (.slice none 0 0) []:=⟨none,0,rfl, .inl rfl⟩
theorem lk.keep {w w':World} {P Q:Nat->Prop} {v:Value} {ls:List (List UInt8)} (h:lk w P v ls) (hk:cw P w w') (hQ: ∀b,P b->b<w.heap.size->Q b):lk w' Q v ls:=by
 obtain⟨A,c,rfl,h⟩:=h;refine⟨A,c,rfl,h.imp id fun⟨h1,h2,b,o,ha,hP,hb,hc⟩=>⟨h1,h2,b,o,ha,hQ b hP hb,az hb hk.size,fun i hi=>(hk.cell _ hP hb).trans (hc i hi)⟩⟩
theorem lk.mono {w:World} {P Q:Nat->Prop} {v:Value} {ls:List (List UInt8)} (h:lk w P v ls) (hQ: ∀b,P b->b<w.heap.size->Q b):lk w Q v ls:=h.keep ⟨ag _,fun _ _ _=>rfl⟩ hQ
def oO (ls:List (List UInt8)):List Value:=ls.map fun x=> .string (ah x)
def sP (w:World) (base:Nat) (v:Value) (ls:List (List UInt8)):Prop:=w.ownsRow base 9 1 v ls.length (oO ls)
theorem sP.rd {w:World} {base:Nat} {v:Value} {ls:List (List UInt8)} (h:sP w base v ls):lk w (fun b=>base<=b) v ls:=by
 rcases h.2 with⟨rfl,h0⟩|⟨g,cap,cur,rfl,hb,hg,hnc,hcm,hcs,ht⟩
 ·have:ls=[]:=aH h0;subst this;exact .nil_ _ _
 ·refine⟨_,cap,rfl, .inr ⟨hnc,hcm,g,0,rfl,hb,(Array.getElem?_eq_some_iff.1 hg).1,fun i hi=> ?_⟩⟩;rw[aA,cell_of_row w g i cur 9 (0,0) hg];have h3:(oO ls)[i]? =some (.string (ah ls[i])):=by simp[oO,hi]
  rw[<-ht,cB]at h3;rw[if_pos (by omega)]at h3;simpa using h3
theorem DL:mU prog 56 9 1 16 (.string ⟨#[]⟩):=⟨underlying56,by kernel_rfl,by rfl,by decide⟩
theorem xb (base g pf pb:Nat) (nm:List UInt8) (l:List bK) (en:Int) (w:World) (C:Option Addr) (n cap:Nat)
  (hP:PA w g l en) (hb:aQ w pb 153 #[.pointer (some ⟨g,0,none⟩)]) (hx:aQ w pf 59 #[.string (ah nm), .slice C n cap, .slice none 0 0])
  (hbase:base<=w.heap.size) (hg:g<pf) (hgp:g<pb) (hk: ¬(cg l).k=1):
  Calls prog 103 #[.pointer (some ⟨pf,0,none⟩), .pointer (some ⟨pb,0,none⟩)] w fun e w'=>e=aZ en l 3/\Fr base g pf w w':=by
 have HP:=G hP;have HB:=G hb;have HX:=G hx;have hgw:g<w.heap.size:=hP.lt;have hxg:pf≠g:=by omega
 have hbg:pb≠g:=by omega
 clear hP hb hx;go_enter func103,ntmps103;refine bO 5 0 [(3,fun v=>v= .string ⟨#[]⟩,fun _ _=>False),(4,fun v=> ∃gb,v= .slice (some ⟨gb,0,none⟩) 1 1,fun _ _=>True)] 3 (some g) mixed (by kernel_rfl)
  ⟨fun _ _ _ h _=>h,fun _ _ _ h _=>h,trivial⟩ ⟨.inl rfl, .inr fun _ _ _ h _=>h,trivial⟩ ?_
 repeat (refine sx ?_ (fun w1 hU=> ?_) ?_;rotate_left;(focus have f1:=(HX.out.grown (aE hU) (fun e=>hxg (O e))).cell;have f2:=(HB.out.grown (aE hU) (fun e=>hbg (O e))).cell;clear hU;go_simp<;>with_reducible rfl);simp only[aY,aX,aW,aV,aU])
 refine bG _ _ (by rfl) rfl ⟨_,rfl⟩ rfl (fun w6 hT hp K hK=> ?_) ?_
 ·clear hp;have hc:=nM g l en w6 (HP.out.ext hT.un) hk;have HT6:=G hT.un;clear hT;go_simp;refine hc.mono ?_;unfold aZ;rintro e w7 ⟨rfl,hG⟩;intro a' hd;exact⟨hd,rfl,cF (ak (HT6.out.grownBy _) hG) hbase (fun k e=>by injection e with e;omega)⟩
 rintro _ rfl;simp only[aY,aX,aW,aV,aU];refine bZ _ _ (by rfl) rfl ⟨_,0,rfl⟩ (by simp) (fun w6 hU hp K hK=> ?_) ?_
 ·clear hp;go_simp;exact hK _ _ (I w6 _) ⟨_,rfl⟩ trivial
 rintro _ ⟨gb,rfl⟩;simp only[aY,aX,aW,aV,aU];intro w8 hw8 hp;exact(hp _ (.tail _ (.head _))).elim
theorem zl (base g pf pb:Nat) (nm:List UInt8) (l:List bK) (en:Int) (w:World) (acc:List (List UInt8)) (C:Option Addr) (n cap:Nat)
  (hP:PA w g l en) (hb:aQ w pb 153 #[.pointer (some ⟨g,0,none⟩)]) (hx:aQ w pf 59 #[.string (ah nm), .slice C n cap, .slice none 0 0])
  (hO:sP w base (.slice C n cap) acc) (hn:acc.length=n) (hbase:base<=w.heap.size) (hg:g<pf) (hgp:g<pb) (hpf:pf<base) (hnb:n<=100000) (hk:(cg l).k=1):
  Calls prog 103 #[.pointer (some ⟨pf,0,none⟩), .pointer (some ⟨pb,0,none⟩)] w fun e w'=>e= .returned (.tuple #[])/\Fr base g pf w w'/\PA w' g l.tail en/\
   ∃C' cap',aQ w' pf 59 #[.string (ah nm), .slice C' (n+1) cap', .slice none 0 0]/\sP w' base (.slice C' (n+1) cap') (acc++[(cg l).t]):=by
 have HP:=G hP;have HB:=G hb;have HX:=G hx;have HO:=G (show w.ownsRow base 9 1 (.slice C n cap) n (oO acc) by have:=hO;unfold sP at this;rwa [hn]at this);have hgw:g<w.heap.size:=hP.lt;have hxg:pf≠g:=by omega
 have hbg:pb≠g:=by omega
 clear hP hb hx hO;go_enter func103,ntmps103;refine bO 5 0 [(3,fun v=>v= .string (ah (cg l).t),fun v wx=>PA wx g l.tail en),(4,fun v=> ∃gb,v= .slice (some ⟨gb,0,none⟩) 1 1,fun v wx=> ∀gb,v= .slice (some ⟨gb,0,none⟩) 1 1->w.heap.size<=gb/\aQ wx gb 9 #[.string (ah (cg l).t)])] 3 (some g) mixed (by kernel_rfl)
  ⟨fun _ _ _ h hx=>h.ext hx,fun _ _ _ h hx gb e=>⟨(h gb e).1,(h gb e).2.ext hx⟩,trivial⟩ ⟨.inl rfl, .inr fun _ _ _ h hx gb e=>⟨(h gb e).1,(h gb e).2.grown hx (fun e'=>by have:=(h gb e).1;injection e' with e';omega)⟩,trivial⟩ ?_
 repeat (refine sx ?_ (fun w1 hU=> ?_) ?_;rotate_left;(focus have f1:=(HX.out.grown (aE hU) (fun e=>hxg (O e))).cell;have f2:=(HB.out.grown (aE hU) (fun e=>hbg (O e))).cell;clear hU;go_simp<;>with_reducible rfl);simp only[aY,aX,aW,aV,aU])
 refine bG _ _ (by rfl) rfl ⟨_,rfl⟩ rfl (fun w6 hT hp K hK=> ?_) ?_
 ·clear hp;have hc:=io g l en w6 (HP.out.ext hT.un) hk;clear hT;go_simp;refine hc.mono ?_;rintro e w7 ⟨rfl,h1,hG⟩;exact hK _ _ hG rfl h1
 rintro _ rfl;simp only[aY,aX,aW,aV,aU];refine bZ _ _ (by rfl) rfl ⟨_,0,rfl⟩ (by simp) (fun w6 hU hp K hK=> ?_) ?_
 ·have hz6:=(aE hU).size;clear hp hU;go_simp;exact hK _ _ (I w6 _) ⟨_,rfl⟩ (fun gb e=>by injection e with e;injection e with e;injection e with e;subst e;exact⟨hz6,am w6 _ _⟩)
 rintro _ ⟨gb,rfl⟩;simp only[aY,aX,aW,aV,aU];intro w8 hw8 hp;obtain⟨hgb,hB3⟩:=hp _ (.head _) gb rfl;have h3:=hp _ (.tail _ (.head _));clear hp;simp only[aa,an];have hw8:=aE hw8;have hz8:=hw8.size;have hrow:=World.ownsRow.lt HO.out;have hrw:=fun k hk=>(hrow k hk).1
 have hO8:=HO.out.kept hw8 (by
  cases ho:Value.ownBlock (.slice C n cap)with
  |none=>exact .inl rfl
  |some k=>exact .inr fun e=>by have:=hrw k ho;injection e with e;omega)
 have HF8:=G (cF hw8 hbase (fun k e=>by injection e with e;omega):Fr base g pf w w8);have HX8:=G (HX.out.grown hw8 (fun e=>hxg (O e)));have HP8:=G (show PA w8 g l.tail en from h3);clear hw8 h3 hrow;refine eX DL rfl _ _ rfl base _ n (oO acc) rfl hO8 gb [.string (ah (cg l).t)] rfl hB3 rfl (by simp[Value.oneCell']) (by omega) (by decide) (by omega) ?_;intro A' cap' w9 hq1 hq2 hq3;have hx9:=HX8.out.grown hq2 (fun e=>by have:=hrw _ e.symm;omega);have hp9:=HP8.out.grown hq2 (fun k e=>by have:=hrw k e;omega);have hF9:=HF8.out.trans (cF hq2 (by omega) (fun k e=> .inr (.inr (hrw k e))));have hxc:=hx9.cell;have hxf:=hx9.frozen;have hs:=et w9 pf 1 (.slice (some ⟨A',0,none⟩) (n+1) cap');have hz9:=hq2.size;have hb9:base<=w9.heap.size:=by omega
 have hAb:base<=A':=by
  rcases hq3 with h|h
  ·exact hrw A' h.symm
  ·omega
 have HX9:=G (hx9.set 1 (.slice (some ⟨A',0,none⟩) (n+1) cap'));have HP9:=G (hp9.grown hs (fun k e=>by injection e with e;omega));have HF9:=G (hF9.trans (cF hs hb9 (fun k e=> .inr (.inl (O e).symm))));have HO9:=G (World.ownsRow.kept hq1 hs (.inr (fun e=>by have e:A'=pf:=O e;omega)));clear hq1 hq2 hq3 hs hF9 hp9 hx9 hO8 hB3;go_wp2_with fail
 go_end0
 refine⟨rfl,HF9.out,HP9.out,some ⟨A',0,none⟩,cap',by simpa using HX9.out,?_⟩;have:=HO9.out;unfold sP;rw[Z,hn];simpa[oO]using this
def Ds (base g pf:Nat) (nm:List UInt8) (en:Int) (w:World) (r:PR (List (List UInt8))) (e:Ending) (w':World):Prop:=
 Fr base g pf w w'/\match r with
 | .ok (a,q)=>e= .returned (.tuple #[])/\PA w' g q en/\ ∃C n cap,aQ w' pf 59 #[.string (ah nm), .slice C n cap, .slice none 0 0]/\lk w' (fun b=>base<=b) (.slice C n cap) a
 | .error (q,n)=>e=aZ en q n
theorem kV (f:Nat) (base g pf pb:Nat) (nm:List UInt8) (l:List bK) (en:Int) (w:World)
  (hP:PA w g l en) (hb:aQ w pb 153 #[.pointer (some ⟨g,0,none⟩)]) (hx:aQ w pf 59 #[.string (ah nm), .slice none 0 0, .slice none 0 0])
  (hbase:base<=w.heap.size) (hg:g<pf) (hgp:g<pb) (hpp:pb≠pf) (hpf:pf<base) (hpb:pb<base) (hf:l.length+1<=f) (hnb:l.length<=100000):
  Calls prog 102 #[.pointer (some ⟨g,0,none⟩), .func (Fn.func 103) #[] #[.pointer (some ⟨pf,0,none⟩), .pointer (some ⟨pb,0,none⟩)]] w (Ds base g pf nm en w (eY f l)):=by
 have HP:=G hP;have HB:=G hb;have HX:=G hx;have HG:=G (cf g l en ko w hP);clear hP hb hx
 cases hrp:cI ko l with
 |true=>
  rw[hrp]at HG;simp only[if_true]at HG;have HR:=G (show eY f l= .ok ([],l.tail)from by unfold eY;rw[if_pos hrp]);go_enter func102,ntmps102;go_wp2_with (go_at_call 98;refine HG.out.mono ?_;rintro e w1 ⟨rfl,h1,h2⟩;have H1:=G h1;have H2:=G h2;clear h1 h2 HG)
  go_end0
  rw[HR.out];exact⟨cF H2.out hbase (fun k e=>by injection e with e;omega),rfl,H1.out,_,_,_,HX.out.grown H2.out (fun e=>by injection e with e;omega), .nil_ _ _⟩
 |false=>
  rw[hrp]at HG;simp only[aK,if_false]at HG;have HR:=G (show eY f l=eP f [] l from by unfold eY;rw[if_neg (by rw[hrp];simp)]);go_enter func102,ntmps102;go_wp2_with (go_at_call 98;refine HG.out.mono ?_;rintro e w1 ⟨rfl,h1,h2⟩;have H1:=G h1;have H2:=G h2;clear h1 h2 HG)
  go_loopw [] (fun wr=> ∃(k:Nat) (acc:List (List UInt8)) (r:List bK) (C:Option Addr) (n cap:Nat),r.length+1<=k/\acc.length=n/\n+r.length<=l.length/\Hid (eP k acc r=eY f l)/\Hid (PA wr g r en)/\Hid (aQ wr pf 59 #[.string (ah nm), .slice C n cap, .slice none 0 0])/\
   Hid (sP wr base (.slice C n cap) acc)/\Hid (Fr base g pf w wr)) (fun wr=>tokN g wr)
  case atStart=>exact⟨f,[],l,none,0,0,hf,rfl,by omega,G HR.out.symm,H1,G (HX.out.grown H2.out (fun e=>by injection e with e;omega)),G (World.ownsRow_nil _ _ _ _),G (cF H2.out hbase (fun k e=>by injection e with e;omega))⟩
  case round=>
   obtain⟨k,acc,r,C,n,cap,hk,hn,hnl,HRes,HPr,HXr,HOr,HFr⟩:=hrel;obtain⟨k,rfl⟩: ∃k',k=k'+1:=⟨k-1,by omega⟩
   have HBr:=G (HFr.out.blk HB.out hpb (by omega) (by omega));have hbr:base<=wr.heap.size:=by have:=HFr.out.size;omega
   have HSt:=G (show eP (k+1) acc r=(gW r).then fun x q=>if cI ko q then .ok (acc++[x],q.tail)else(bT wF q).then fun _ q=>eP k (acc++[x]) q from by rw[eP]);by_cases hkn:(cg r).k=1
   rotate_left
   ·have HRR:=G (show eY f l= .error (r,3)from by rw[<-HRes.out,HSt.out,j8 hkn];rfl);have HC:=G (xb base g pf pb nm r en wr C n cap HPr.out HBr.out HXr.out hbr hg hgp hkn);unfold aZ at HC;go_wp2_with (go_at_call 103;refine HC.out.mono ?_;rintro e w3 ⟨rfl,hF⟩;have HF3:=G (HFr.out.trans hF);clear hF HC);exact⟨rfl,by rw[HRR.out];exact⟨HF3.out,rfl⟩⟩
   ·have hlt:=gK (l:=r) (by rw[hkn];decide);have HC:=G (zl base g pf pb nm r en wr acc C n cap HPr.out HBr.out HXr.out HOr.out hn hbr hg hgp hpf (by omega) hkn);have HS2:=G (show eY f l=if cI ko r.tail then .ok (acc++[(cg r).t],r.tail.tail)else(bT wF r.tail).then fun _ q=>eP k (acc++[(cg r).t]) q from by rw[<-HRes.out,HSt.out,bH hkn];rfl);clear HRes HSt
    cases hr2:cI ko r.tail with
    |true=>
     have HRR:=G (show eY f l= .ok (acc++[(cg r).t],r.tail.tail)from by rw[HS2.out,if_pos hr2])
     go_wp2_with (first
      |(go_at_call 103;refine HC.out.mono ?_;rintro e w3 ⟨rfl,hF,hP3,C3,cap3,hX3,hO3⟩;have HF3:=G (HFr.out.trans hF);have HP3:=G hP3;have HX3:=G hX3;have HO3:=G hO3;clear hF HC hP3 hX3 hO3)
      |(go_at_call 98;refine(cf g r.tail en ko _ HP3.out).mono ?_;rw[hr2];simp only[if_true];rintro e w4 ⟨rfl,h1,h2⟩;have HP4:=G h1;have HG4:=G h2;clear h1 h2))
     go_end0
     rw[HRR.out];have hb3:base<=w3.heap.size:=by have:=HF3.out.size;omega
     exact⟨HF3.out.trans (cF HG4.out hb3 (fun k e=>by injection e with e;omega)),rfl,HP4.out,_,_,_,HX3.out.grown HG4.out (fun e=>by injection e with e;omega),HO3.out.rd.keep (.of_grown HG4.out fun b hb e=>by injection e with e;omega) (fun _ hb _=>hb)⟩
    |false=>
     cases hcm:cI wF r.tail with
     |false=>
      have HRR:=G (show eY f l= .error (r.tail,3)from by rw[HS2.out,if_neg (by rw[hr2];simp),em hcm];rfl)
      go_wp2_with (first
       |(go_at_call 103;refine HC.out.mono ?_;rintro e w3 ⟨rfl,hF,hP3,C3,cap3,hX3,hO3⟩;have HF3:=G (HFr.out.trans hF);have HP3:=G hP3;clear hF HC hP3 hX3 hO3)
       |(go_at_call 98;refine(cf g r.tail en ko _ HP3.out).mono ?_;rw[hr2];simp only[aK,if_false];rintro e w4 ⟨rfl,h1,h2⟩;have HP4:=G h1;have HG4:=G h2;clear h1 h2 HP3)
       |(go_at_call 100;refine(fS g r.tail en wF _ HP4.out hcm).mono ?_;unfold aZ;rintro e w5 ⟨rfl,hG⟩;have HG5:=G (ak HG4.out hG);clear hG))
      have hb3:base<=w3.heap.size:=by have:=HF3.out.size;omega
      exact⟨rfl,by rw[HRR.out];exact⟨HF3.out.trans (cF HG5.out hb3 (fun k e=>by injection e with e;omega)),rfl⟩⟩
     |true=>
      have HRR:=G (show eP k (acc++[(cg r).t]) r.tail.tail=eY f l from by rw[HS2.out,if_neg (by rw[hr2];simp),co hcm];rfl);have hqt:=bq hcm
      go_wp2_with (first
       |(go_at_call 103;refine HC.out.mono ?_;rintro e w3 ⟨rfl,hF,hP3,C3,cap3,hX3,hO3⟩;have HF3:=G (HFr.out.trans hF);have HP3:=G hP3;have HX3:=G hX3;have HO3:=G hO3;clear hF HC hP3 hX3 hO3)
       |(go_at_call 98;refine(cf g r.tail en ko _ HP3.out).mono ?_;rw[hr2];simp only[aK,if_false];rintro e w4 ⟨rfl,h1,h2⟩;have HP4:=G h1;have HG4:=G h2;clear h1 h2 HP3)
       |(go_at_call 100;refine(d7 g r.tail en wF _ HP4.out hcm).mono ?_;rintro e w5 ⟨rfl,h1,h2⟩;have HP5:=G h1;have HG5:=G (ak HG4.out h2);clear h1 h2))
      have hb3:base<=w3.heap.size:=by have:=HF3.out.size;omega
      have hrow:=World.ownsRow.lt HO3.out;go_roundw
      case rel=>exact⟨k,acc++[(cg r).t],r.tail.tail,C3,n+1,cap3,by omega,by simp[hn],by omega,HRR,HP5,G (HX3.out.grown HG5.out (fun e=>by injection e with e;omega)),G (World.ownsRow.kept HO3.out HG5.out (by
       cases ho:Value.ownBlock (.slice C3 (n+1) cap3)with
       |none=>exact .inl rfl
       |some k=>exact .inr fun e=>by have:=(hrow k ho).1;injection e with e;omega)),G (HF3.out.trans (cF HG5.out hb3 (fun k e=>by injection e with e;omega)))⟩
      case measure=>rw[HPr.out.tokN,HP5.out.tokN];omega
end
section
open Go.RowKit
structure FV where
 c:Fc
 p:Value
 b:Value
def Ax (p:FV):List Value:=[.string (ah p.c.nm),p.p,p.b]
def jJ (l:List FV):List Value:=l.flatMap Ax
def An (v:Vr):List Value:=[.string (ah v.nm), .int .i64 v.sz]
def jF (l:List Vr):List Value:=l.flatMap An
theorem uQ (a b:List FV):jJ (a++b)=jJ a++jJ b:=by simp[jJ]
theorem tX (a b:List Vr):jF (a++b)=jF a++jF b:=by simp[jF]
theorem ks: ∀(l:List FV) (i:Nat) (h:i<l.length) (k:Nat),k<3->(jJ l)[i*3+k]? =(Ax l[i])[k]?
 | [],i,h,k,hk=>by simp at h
 |p::l,0,h,k,hk=>by
  simp only[jJ,bS,a_,aA,aB];rw[cU (by simp[Ax];omega)]
 |p::l,i+1,h,k,hk=>by
  have:=ks l i (by simpa using h) k hk;simp only[jJ,bS,aP]at this⊢;rw[cC (by simp[Ax];omega),<-this]
  congr 1
  simp[Ax];omega
theorem l6: ∀(l:List Vr) (i:Nat) (h:i<l.length) (k:Nat),k<2->(jF l)[i*2+k]? =(An l[i])[k]?
 | [],i,h,k,hk=>by simp at h
 |p::l,0,h,k,hk=>by
  simp only[jF,bS,a_,aA,aB];rw[cU (by simp[An];omega)]
 |p::l,i+1,h,k,hk=>by
  have:=l6 l i (by simpa using h) k hk;simp only[jF,bS,aP]at this⊢;rw[cC (by simp[An];omega),<-this]
  congr 1
  simp[An];omega
def FV.ok (w:World) (P:Nat->Prop) (p:FV):Prop:=lk w P p.p p.c.ps/\cK w P p.b p.c.body
theorem FV.ok.keep {w w':World} {P Q:Nat->Prop} {p:FV} (h:p.ok w P) (hk:cw P w w') (hQ: ∀b,P b->b<w.heap.size->Q b):p.ok w' Q:=⟨h.1.keep hk hQ,h.2.keep hk hQ⟩
def li (w:World) (P:Nat->Prop) (v:Value) (vs:List Vr):Prop:=
 ∃A c,v= .slice A vs.length c/\(vs=[]\/vs.length<=c/\c<=maxLen/\ ∃b o,A=some ⟨b,o,none⟩/\P b/\b<w.heap.size/\ ∀i,(h:i<vs.length)->w.cell? ⟨b,o+i*2,none⟩=some (.string (ah vs[i].nm))/\w.cell? ⟨b,o+i*2+1,none⟩=some (.int .i64 vs[i].sz))
theorem li.keep {w w':World} {P Q:Nat->Prop} {v:Value} {vs:List Vr} (h:li w P v vs) (hk:cw P w w') (hQ: ∀b,P b->b<w.heap.size->Q b):li w' Q v vs:=by
 obtain⟨A,c,rfl,h⟩:=h;exact⟨A,c,rfl,h.imp id fun⟨h1,h2,b,o,ha,hP,hb,hc⟩=>⟨h1,h2,b,o,ha,hQ b hP hb,az hb hk.size,fun i hi=>⟨(hk.cell _ hP hb).trans (hc i hi).1,(hk.cell _ hP hb).trans (hc i hi).2⟩⟩⟩
def lW (w:World) (P:Nat->Prop) (v:Value) (fs:List Fc):Prop:=
 ∃A c,v= .slice A fs.length c/\(fs=[]\/fs.length<=c/\c<=maxLen/\ ∃b o,A=some ⟨b,o,none⟩/\P b/\b<w.heap.size/\ ∃pv bv:Nat->Value,∀i,(h:i<fs.length)->w.cell? ⟨b,o+i*3,none⟩=some (.string (ah fs[i].nm))/\w.cell? ⟨b,o+i*3+1,none⟩=some (pv i)/\w.cell? ⟨b,o+i*3+2,none⟩=some (bv i)/\
  lk w P (pv i) fs[i].ps/\cK w P (bv i) fs[i].body)
theorem lW.keep {w w':World} {P Q:Nat->Prop} {v:Value} {fs:List Fc} (h:lW w P v fs) (hk:cw P w w') (hQ: ∀b,P b->b<w.heap.size->Q b):lW w' Q v fs:=by
 obtain⟨A,c,rfl,h⟩:=h
 exact⟨A,c,rfl,h.imp id fun⟨h1,h2,b,o,ha,hP,hb,pv,bv,hc⟩=>⟨h1,h2,b,o,ha,hQ b hP hb,az hb hk.size,pv,bv,fun i hi=>let⟨q0,q1,q2,q3,q4⟩:=hc i hi
  ⟨(hk.cell _ hP hb).trans q0,(hk.cell _ hP hb).trans q1,(hk.cell _ hP hb).trans q2,q3.keep hk hQ,q4.keep hk hQ⟩⟩⟩
def jQ (w:World) (base:Nat) (vv fv:Value) (vs:List Vr) (fs:List FV):Prop:=
 w.ownsRow base 85 2 vv vs.length (jF vs)/\w.ownsRow base 59 3 fv fs.length (jJ fs)/\(∀k,vv.ownBlock=some k->fv.ownBlock≠some k)/\ ∀p,p∈fs->p.ok w (fun b=>base<=b/\some b≠vv.ownBlock/\some b≠fv.ownBlock)
theorem jQ.nil_ (w:World) (base:Nat):jQ w base (.slice none 0 0) (.slice none 0 0) [] []:=⟨World.ownsRow_nil _ _ _ _,World.ownsRow_nil _ _ _ _,fun k hk=>(by cases hk),fun p hp=>(by cases hp)⟩
theorem i6 {w w':World} {base:Nat} {e:TypeId} {size n:Nat} {v:Value} {xs:List Value} (h:w.ownsRow base e size v n xs) (hk: ∀b,base<=b->b<w.heap.size->v.ownBlock=some b->w'.heap[b]? =w.heap[b]?):w'.ownsRow base e size v n xs:=by
 refine⟨h.1,?_⟩;rcases h.2 with h0|⟨g,cap,cur,hv,hb,hg,hr⟩
 ·exact .inl h0
 ·exact .inr ⟨g,cap,cur,hv,hb,(hk g hb (Array.getElem?_eq_some_iff.1 hg).1 (by rw[hv];rfl)).trans hg,hr⟩
theorem jQ.keepW {w w':World} {base:Nat} {vv fv:Value} {vs:List Vr} {fs:List FV} (h:jQ w base vv fv vs fs) (hz:w.heap.size<=w'.heap.size) (hk: ∀b,base<=b->b<w.heap.size->w'.heap[b]? =w.heap[b]?):jQ w' base vv fv vs fs:=
 ⟨i6 h.1 (fun b h1 h2 _=>hk b h1 h2),i6 h.2.1 (fun b h1 h2 _=>hk b h1 h2),h.2.2.1,fun p hp=>(h.2.2.2 p hp).keep ⟨hz,fun b hb hlt=>hk b hb.1 hlt⟩ (fun b hb _=>hb)⟩
theorem jQ.grown {w w':World} {base:Nat} {vv fv:Value} {vs:List Vr} {fs:List FV} {row:Option Nat} (h:jQ w base vv fv vs fs) (hg:w.grownBy w' row) (hr: ∀k,row=some k->k<base):jQ w' base vv fv vs fs:=
 h.keepW hg.size fun b h1 h2=>hg.block b h2 (fun e=>by have:=hr b e.symm;omega)
theorem jQ.snocV {w w':World} {base:Nat} {vv fv:Value} {vs:List Vr} {fs:List FV} {v:Vr} {A n cap:Nat} (h:jQ w base vv fv vs fs) (hl:vs.length=n) (hn:w'.ownsRow base 85 2 (.slice (some ⟨A,0,none⟩) (n+1) cap) (n+1) (jF vs++An v))
  (hg:w.grownBy w' vv.ownBlock) (hA:some A=vv.ownBlock\/A=w.heap.size):jQ w' base (.slice (some ⟨A,0,none⟩) (n+1) cap) fv (vs++[v]) fs:=by
 subst hl;obtain⟨h1,h2,h3,h4⟩:=h;have hl2:=World.ownsRow.lt h2;refine⟨by rw[Z,tX];simpa[jF]using hn,i6 h2 (fun b _ hb hv=>hg.block b hb (fun e=>h3 b e.symm hv)),fun k hk e=> ?_,fun p hp=>(h4 p hp).keep (.of_grown hg fun b hb=>hb.2.1) fun b hb hlt=>⟨hb.1,fun e=> ?_,hb.2.2⟩⟩
 ·have hk:A=k:=O hk;subst hk;rcases hA with hA|hA
  ·exact h3 A hA.symm e
  ·have:=(hl2 A e).2;omega
 ·have e:b=A:=O e;subst e;rcases hA with hA|hA
  ·exact hb.2.1 hA
  ·omega
theorem jQ.snocF {w w':World} {base:Nat} {vv fv:Value} {vs:List Vr} {fs:List FV} {p:FV} {A n cap:Nat} (h:jQ w base vv fv vs fs) (hp:p.ok w (fun b=>base<=b/\some b≠vv.ownBlock/\some b≠fv.ownBlock)) (hl:fs.length=n) (hn:w'.ownsRow base 59 3 (.slice (some ⟨A,0,none⟩) (n+1) cap) (n+1) (jJ fs++Ax p))
  (hg:w.grownBy w' fv.ownBlock) (hA:some A=fv.ownBlock\/A=w.heap.size):jQ w' base vv (.slice (some ⟨A,0,none⟩) (n+1) cap) vs (fs++[p]):=by
 subst hl;obtain⟨h1,h2,h3,h4⟩:=h;have hl1:=World.ownsRow.lt h1
 have hq: ∀b,(base<=b/\some b≠vv.ownBlock/\some b≠fv.ownBlock)->b<w.heap.size->(base<=b/\some b≠vv.ownBlock/\some b≠Value.ownBlock (.slice (some ⟨A,0,none⟩) (fs.length+1) cap)):=fun b hb hlt=>⟨hb.1,hb.2.1,fun e=>by
  have e:b=A:=O e;subst e;rcases hA with hA|hA
  ·exact hb.2.2 hA
  ·omega⟩
 refine⟨i6 h1 (fun b _ hb hv=>hg.block b hb (fun e=>h3 b hv e.symm)),by rw[Z,uQ];simpa[jJ]using hn,fun k hk e=> ?_,fun q hq'=> ?_⟩
 ·have e:A=k:=O e;subst e;rcases hA with hA|hA
  ·exact h3 A hk hA.symm
  ·have:=(hl1 A hk).2;omega
 ·rcases List.mem_append.1 hq' with hq'|hq'
  ·exact(h4 q hq').keep (.of_grown hg fun b hb=>hb.2.2) hq
  ·rw[cA]at hq';subst hq';exact hp.keep (.of_grown hg fun b hb=>hb.2.2) hq
theorem jQ.rd {w:World} {base:Nat} {vv fv:Value} {vs:List Vr} {fs:List FV} (h:jQ w base vv fv vs fs):li w (fun b=>base<=b) vv vs/\lW w (fun b=>base<=b) fv (fs.map (·.c)):=by
 obtain⟨h1,h2,_,h4⟩:=h;constructor
 ·rcases h1.2 with⟨rfl,h0⟩|⟨g,cap,cur,rfl,hb,hg,hnc,hcm,hcs,ht⟩
  ·have:vs=[]:=aH h0;subst this;exact⟨none,0,rfl, .inl rfl⟩
  ·have cell: ∀j y,(jF vs)[j]? =some y->w.cell? ⟨g,j,none⟩=some y:=fun j y hy=>by
    rw[cell_of_row w g j cur 85 (0,0) hg];rw[<-ht,cB]at hy;split at hy
    ·simpa using hy
    ·cases hy
   exact⟨_,cap,rfl, .inr ⟨hnc,hcm,g,0,rfl,hb,(Array.getElem?_eq_some_iff.1 hg).1,fun i hi=>by
    rw[aA]
    exact⟨cell _ _ (l6 vs i hi 0 (by omega)),cell _ _ (l6 vs i hi 1 (by omega))⟩⟩⟩
 ·rcases h2.2 with⟨rfl,h0⟩|⟨g,cap,cur,rfl,hb,hg,hnc,hcm,hcs,ht⟩
  ·have:fs=[]:=aH h0;subst this;exact⟨none,0,rfl, .inl rfl⟩
  ·have cell: ∀j y,(jJ fs)[j]? =some y->w.cell? ⟨g,j,none⟩=some y:=fun j y hy=>by
    rw[cell_of_row w g j cur 59 (0,0) hg];rw[<-ht,cB]at hy;split at hy
    ·simpa using hy
    ·cases hy
   refine⟨some ⟨g,0,none⟩,cap,by simp, .inr ⟨by simpa using hnc,hcm,g,0,rfl,hb,(Array.getElem?_eq_some_iff.1 hg).1,fun i=>if h:i<fs.length then fs[i].p else .slice none 0 0,fun i=>if h:i<fs.length then fs[i].b else .slice none 0 0,fun i hi=> ?_⟩⟩;have hi':i<fs.length:=by simpa using hi
   have e0:(fs.map (·.c))[i]=fs[i].c:=by simp
   have hm:=(h4 fs[i] (ap hi')).keep (P:=fun b=>base<=b/\some b≠vv.ownBlock/\some b≠Value.ownBlock (.slice (some ⟨g,0,none⟩) fs.length cap)) (w':=w) ⟨ag _,fun _ _ _=>rfl⟩ (Q:=fun b=>base<=b) (fun b hb _=>hb.1);rw[e0];simp only[aA,dif_pos hi'];exact⟨cell _ _ (ks fs i hi' 0 (by omega)),cell _ _ (ks fs i hi' 1 (by omega)),cell _ _ (ks fs i hi' 2 (by omega)),hm.1,hm.2⟩
theorem DI:mU prog 31 85 2 24 (.agg #[.string ⟨#[]⟩, .int .i64 0]):=⟨underlying31,by kernel_rfl,by rfl,by decide⟩
theorem DM:mU prog 32 59 3 64 (.agg #[.string ⟨#[]⟩, .slice none 0 0, .slice none 0 0]):=⟨underlying32,by kernel_rfl,by rfl,by decide⟩
def BF (g:Nat) (en:Int) (w:World) (r:PR Pg) (e:Ending) (w':World):Prop:=
 w.grownBy w' (some g)/\match r with
 | .ok (p,q)=> ∃A n c B m d,e= .returned (.agg #[.slice A n c, .slice B m d])/\li w' (fun b=>w.heap.size<=b) (.slice A n c) p.vs/\lW w' (fun b=>w.heap.size<=b) (.slice B m d) p.fs
 | .error (q,n)=>e=aZ en q n
theorem kq {g:Nat} {en:Int} {w w':World} {r:PR Pg} {q:List bK} {n:Int} (hr:r= .error (q,n)) (hG:w.grownBy w' (some g)):BF g en w r (aZ en q n) w':=by
 subst hr;exact⟨hG,rfl⟩
end
end Go.Proofs.YtddomeddabfinaaGreatDoor
