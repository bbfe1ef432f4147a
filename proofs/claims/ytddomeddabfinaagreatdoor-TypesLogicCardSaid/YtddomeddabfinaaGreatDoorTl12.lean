/-
  Parts of the proof: ParW ParX ParY.
-/
import Derived.Test.YtddomeddabfinaaGreatDoorTl11
import Derived.LoopN
set_option maxRecDepth 100000
set_option maxHeartbeats 8000000
set_option linter.unusedVariables false
set_option linter.unusedSimpArgs false
set_option linter.unusedSectionVars false
namespace Go.Proofs.YtddomeddabfinaaGreatDoor
open Go.Proofs.Tryz
open Go.RowKit
theorem PA.set2 {w:World} {g:Nat} {l:List Tok} {en:Int} {ps i:Nat} {v:Value} (h:PA w g l en) (hp:g<ps): ∃A c,Blk w g 155 #[.slice A l.length c, .int .i64 en]/\Blk (w.setCell ⟨ps,i,none⟩ v) g 155 #[.slice A l.length c, .int .i64 en]/\Tks (w.setCell ⟨ps,i,none⟩ v) A c l/\ ∀b off,A=some ⟨b,off,none⟩->l≠ []->b<g:=by
 obtain⟨A,c,hb,ht,hn⟩:=h.grown (grown_set w ps i v) (fun k e=>by injection e with e;omega);refine⟨A,c,?_,hb,ht,hn⟩;exact(Below.heap_setCell w ⟨ps,i,none⟩ v g (by show g≠ps;omega)).symm.trans hb
def RVar (g:Nat) (en:Int) (w:World) (r:PR Vr) (e:Ending) (w':World):Prop:=
 w.grownBy w' (some g)/\match r with
 | .ok (v,q)=>e= .returned (.agg #[.string (str v.nm), .int .i64 v.sz])/\PA w' g q en
 | .error (q,n)=>e=wrongV en q n
theorem rvr_err {g:Nat} {en:Int} {w w':World} {r:PR Vr} {q:List Tok} {n:Int} (hr:r= .error (q,n)) (hG:w.grownBy w' (some g)):RVar g en w r (wrongV en q n) w':=by
 subst hr;exact⟨hG,rfl⟩
theorem fin_vr {w W:World} {g pr:Nat} {en:Int} {q:List Tok} {z0 z1:Value} {r:PR Vr} (v:Vr) (sn:ByteArray) (z:Int) (hr:r= .ok (v,q)) (hn:str v.nm=sn) (hz:v.sz=z) (hpr:w.heap.size<=pr) (hB:Blk W pr 85 #[z0,z1]) (hG:w.grownBy W (some g)) (hPA:PA W g q en) (hg:g<w.heap.size):
  (∀o,(W.setCells pr 0 [.string sn, .int .i64 z]).cell? ⟨pr,o,none⟩=(#[.string sn, .int .i64 z]:Array Value)[o]?)/\RVar g en w r (.returned (.agg #[.string sn, .int .i64 z])) (W.setCells pr 0 [.string sn, .int .i64 z]):=by
 subst hr hn hz;have hc:=grown_cells pr [.string (str v.nm), .int .i64 v.sz] 0 W;have hb:=(hB.set 0 (.string (str v.nm))).set 1 (.int .i64 v.sz);exact⟨fun o=>by have:=hb.cell o;simpa[World.setCells]using this,grown_new hG hc hpr,rfl,hPA.grown hc fun k e=>by injection e with e;omega⟩
section
variable {w W W':World} {g pb sb:Nat} {en:Int} {pc sc:Array Value} {ty:TypeId} {X:World->Prop} {l l':List Tok}
theorem SK.next (K:SK w g en pb pc sb sc ty X l W) {k v fr:Int} {tx:List UInt8} (h:hdT l=⟨k,tx,v,fr⟩):Calls prog 146 #[.pointer (some ⟨g,0,none⟩)] W fun e W'=>e= .returned (.agg #[.int .i64 k, .string (str tx), .int .i64 v, .int .i64 fr])/\Hid (SK w g en pb pc sb sc ty X l (W'.alloc (.cells #[.int .i64 k, .string (str tx), .int .i64 v, .int .i64 fr] 206))):=by
 have:=next_any g l en W K.pa;rw[h]at this;exact this.mono fun e W' hh=>⟨hh.1,hide (K.ext (hh.2.alloc' _))⟩
theorem SK.fail (K:SK w g en pb pc sb sc ty X l W) (n:Int):Calls prog 147 #[.pointer (some ⟨g,0,none⟩), .int .i64 n] W fun e W'=>e=wrongV en l n/\Hid (w.grownBy W' (some g)):=
 (fail_any g l en n W K.pa).mono fun e W' hh=>⟨hh.1,hide (grown_trans K.gr (hh.2.grownBy _))⟩
theorem SK.finV {z0 z1:Value} (K:SK w g en w.heap.size #[z0,z1] sb sc 85 X l W) {r:PR Vr} (v:Vr) (sn:ByteArray) (z:Int) (hr:r= .ok (v,l)) (hn:str v.nm=sn) (hz:v.sz=z):
  (∀o,(W.setCells w.heap.size 0 [.string sn, .int .i64 z]).cell? ⟨w.heap.size,o,none⟩=(#[.string sn, .int .i64 z]:Array Value)[o]?)/\RVar g en w r (.returned (.agg #[.string sn, .int .i64 z])) (W.setCells w.heap.size 0 [.string sn, .int .i64 z]):=
 fin_vr v sn z hr hn hz (Nat.le_refl _) K.rb K.gr K.pa K.nn.1
end
theorem var_any (l:List Tok) (en:Int) (w:World) (g:Nat) (h:PA w g l en):Calls prog 99 #[.pointer (some ⟨g,0,none⟩)] w (RVar g en w (pVar l)):=by
 have hgl:=h.lt;have K:=hide (SK.one h #[.string ⟨#[]⟩, .int .i64 0] 85);have hrg:w.heap.size≠g:=by omega
 have hgr:g≠w.heap.size:=by omega
 obtain⟨hrc,hrf,hsc,hsf⟩:=K.out.cells;clear h;go_enter func99,ntmps99;by_cases hk:(hdT l).k=1
 rotate_left
 ·go_wp2_with (go_at_call 101;refine(K.out.noname hk).mono ?_;unfold wrongV;rintro e wx ⟨rfl,HG⟩);exact⟨rfl,rvr_err (by unfold pVar;rw[nameL_no hk,then_err]) HG.out⟩
 go_wp2_with (go_at_call 101;refine(K.out.name hk).mono ?_;rintro e w1 ⟨rfl,K⟩;have hz1:=K.out.rb.lt;have K:=hide (K.out.open (Y:=fun _=>True) #[.string (str (hdT l).t), .int .i64 0] (fun _=>trivial) fun _ _ _ _ _ _=>trivial);have hsg:w1.heap.size≠g:=(by omega);have hgs:g≠w1.heap.size:=(by omega);have hps:w.heap.size≠w1.heap.size:=(by omega);have hsp:w1.heap.size≠w.heap.size:=(by omega);clear hrc hrf hsc hsf;obtain⟨hrc,hrf,hsc,hsf⟩:=K.out.cells)
 cases hb:isL sLs l.tail with
 |true=>
  go_wp2_with (go_at_call 98;refine(K.out.yes hb).mono ?_;rintro e wx ⟨rfl,K⟩;clear hrc hrf hsc hsf;obtain⟨hrc,hrf,hsc,hsf⟩:=K.out.cells);obtain⟨⟨k,tx,v,fr⟩,hdt⟩: ∃t,hdT l.tail.tail=t:=⟨_,rfl⟩
  by_cases h3:k=3
  rotate_left
  ·have hb3:(k==3)=false:=beq_eq_false_iff_ne.2 h3;have hb3n:(k !=3)=true:=by rw[bne,hb3];rfl
   go_wp2_with (go_at_call 146;refine(K.out.next hdt).mono ?_;rintro e wx ⟨rfl,K⟩;clear hrc hrf hsc hsf;obtain⟨hrc,hrf,hsc,hsf⟩:=K.out.cells);go_wp2_with (go_at_call 147;refine(K.out.fail 3).mono ?_;unfold wrongV;rintro e wx ⟨rfl,HG⟩);exact⟨rfl,rvr_err (by unfold pVar;rw[nameL_yes hk,then_ok,if_pos hb,hdt];dsimp only;rw[if_neg h3,then_err]) HG.out⟩
  subst h3;by_cases hv1: ¬v<1
  rotate_left
  ·have hv1:v<1:=by omega
   go_wp2_with (go_at_call 146;refine(K.out.next hdt).mono ?_;rintro e wx ⟨rfl,K⟩;clear hrc hrf hsc hsf;obtain⟨hrc,hrf,hsc,hsf⟩:=K.out.cells);go_wp2_with (go_at_call 147;refine(K.out.fail 2).mono ?_;unfold wrongV;rintro e wx ⟨rfl,HG⟩);exact⟨rfl,rvr_err (by unfold pVar;rw[nameL_yes hk,then_ok,if_pos hb,hdt];dsimp only;rw[if_pos rfl,if_pos (.inl hv1),then_err]) HG.out⟩
  by_cases hv2: ¬2000<v
  rotate_left
  ·have hv2:2000<v:=by omega
   go_wp2_with (go_at_call 146;refine(K.out.next hdt).mono ?_;rintro e wx ⟨rfl,K⟩;clear hrc hrf hsc hsf;obtain⟨hrc,hrf,hsc,hsf⟩:=K.out.cells);go_wp2_with (go_at_call 147;refine(K.out.fail 2).mono ?_;unfold wrongV;rintro e wx ⟨rfl,HG⟩);exact⟨rfl,rvr_err (by unfold pVar;rw[nameL_yes hk,then_ok,if_pos hb,hdt];dsimp only;rw[if_pos rfl,if_pos (.inr hv2),then_err]) HG.out⟩
  obtain⟨t0,r,hlr⟩:=hd_cons (show(hdT l.tail.tail).k=3 by rw[hdt]) (by decide);obtain rfl:t0=⟨3,tx,v,fr⟩:=by rw[hlr]at hdt;exact hdt
  have hrt:l.tail.tail.tail=r:=by rw[hlr];rfl
  go_wp2_with (go_at_call 146;refine(K.out.next hdt).mono ?_;rintro e wx ⟨rfl,K⟩;clear hrc hrf hsc hsf;obtain⟨hrc,hrf,hsc,hsf⟩:=K.out.cells;have hpp:=K.out.pa;rw[hlr]at hpp;obtain⟨A,c,hb0,hb1,ht,hn⟩:=hpp.set2 (ps:=w1.heap.size) (i:=1) (v:= .int .i64 v) (by omega);obtain⟨b,off,rfl,hlt,_⟩:=ht.at_ 0 (by simp);have hbc:=hb0.cell;have hbf:=hb0.frozen;rw[hlr]at K;clear hpp hb0);all_goals
   first|have hq:=PA.next_a hb1 ht (hn b off rfl (by simp)) hlt (by assumption)|have hq:=PA.next_b hb1 ht (hn b off rfl (by simp)) hlt (by assumption)
   have k:=(K.out.set (by omega) 1 (.int .i64 v)).step hq.1 hq.2;simp only[List.setIfInBounds_toArray,List.set_cons_zero,List.set_cons_succ]at k;have K:=hide k;clear hb1 ht hn hlt hbc hbf hrc hrf hsc hsf hq k;generalize World.setCell _ _ _=w4 at*
   cases hr:isL sRs r with
   |true=>
    obtain⟨hrc,hrf,hsc,hsf⟩:=K.out.cells;go_wp2_with (go_at_call 100;refine(K.out.want hr).mono ?_;rintro e wx ⟨rfl,K⟩;clear hrc hrf hsc hsf;obtain⟨hrc,hrf,hsc,hsf⟩:=K.out.cells)
    cases hs:isL sSc r.tail with
    |true=>
     go_wp2_with (go_at_call 100;refine(K.out.want hs).mono ?_;rintro e wx ⟨rfl,K⟩;clear hrc hrf hsc hsf;obtain⟨hrc,hrf,hsc,hsf⟩:=K.out.cells);obtain⟨hset,hfin⟩:=K.out.finV (r:=pVar l) (⟨(hdT l).t,v⟩) (str (hdT l).t) v (by unfold pVar;rw[nameL_yes hk,then_ok,if_pos hb,hdt];dsimp only;rw[if_pos rfl,if_neg (by omega),hrt,wantL_yes hr,then_ok,then_ok,wantL_yes hs,then_ok]) rfl rfl;simp only[World.setCells,Nat.zero_add]at hset hfin;exact bodyPost_ret (v:= .agg #[.string (str (hdT l).t), .int .i64 v]) (by simp[results,results99,go_sem,hset]) rfl hfin
    |false=>
     go_wp2_with (go_at_call 100;refine(K.out.bad hs).mono ?_;unfold wrongV;rintro e wx ⟨rfl,HG⟩);exact⟨rfl,rvr_err (by unfold pVar;rw[nameL_yes hk,then_ok,if_pos hb,hdt];dsimp only;rw[if_pos rfl,if_neg (by omega),hrt,wantL_yes hr,then_ok,then_ok,wantL_no hs,then_err]) HG.out⟩
   |false=>
    go_wp2_with (go_at_call 100;refine(K.out.bad hr).mono ?_;unfold wrongV;rintro e wx ⟨rfl,HG⟩);exact⟨rfl,rvr_err (by unfold pVar;rw[nameL_yes hk,then_ok,if_pos hb,hdt];dsimp only;rw[if_pos rfl,if_neg (by omega),hrt,wantL_no hr,then_err,then_err]) HG.out⟩
 |false=>
  have hN:=hb;go_wp2_with (go_at_call 98;refine(K.out.no hN).mono ?_;rintro e wx ⟨rfl,K⟩;clear hN;clear hrc hrf hsc hsf;obtain⟨hrc,hrf,hsc,hsf⟩:=K.out.cells)
  cases hs:isL sSc l.tail with
  |true=>
   go_wp2_with (go_at_call 100;refine(K.out.want hs).mono ?_;rintro e wx ⟨rfl,K⟩;clear hrc hrf hsc hsf;obtain⟨hrc,hrf,hsc,hsf⟩:=K.out.cells);obtain⟨hset,hfin⟩:=K.out.finV (r:=pVar l) (⟨(hdT l).t,0⟩) (str (hdT l).t) 0 (by unfold pVar;rw[nameL_yes hk,then_ok,if_neg (by simp[hb]),then_ok,wantL_yes hs,then_ok]) rfl rfl;simp only[World.setCells,Nat.zero_add]at hset hfin;exact bodyPost_ret (v:= .agg #[.string (str (hdT l).t), .int .i64 0]) (by simp[results,results99,go_sem,hset]) rfl hfin
  |false=>
   go_wp2_with (go_at_call 100;refine(K.out.bad hs).mono ?_;unfold wrongV;rintro e wx ⟨rfl,HG⟩);exact⟨rfl,rvr_err (by unfold pVar;rw[nameL_yes hk,then_ok,if_neg (by simp[hb]),then_ok,wantL_no hs,then_err]) HG.out⟩
end Go.Proofs.YtddomeddabfinaaGreatDoor
namespace Go.Proofs.YtddomeddabfinaaGreatDoor
open Go.Proofs.Tryz
open Go.RowKit
def RdN (w:World) (P:Nat->Prop) (v:Value) (ls:List (List UInt8)):Prop:=
 ∃A c,v= .slice A ls.length c/\(ls=[]\/ls.length<=c/\c<=maxLen/\ ∃b o,A=some ⟨b,o,none⟩/\P b/\b<w.heap.size/\ ∀i,(h:i<ls.length)->w.cell? ⟨b,o+i,none⟩=some (.string (str ls[i])))
theorem RdN.nil_ (w:World) (P:Nat->Prop):RdN w P (.slice none 0 0) []:=⟨none,0,rfl, .inl rfl⟩
theorem RdN.keep {w w':World} {P Q:Nat->Prop} {v:Value} {ls:List (List UInt8)} (h:RdN w P v ls) (hk:KeepP P w w') (hQ: ∀b,P b->b<w.heap.size->Q b):RdN w' Q v ls:=by
 obtain⟨A,c,rfl,h⟩:=h;refine⟨A,c,rfl,h.imp id fun⟨h1,h2,b,o,ha,hP,hb,hc⟩=>⟨h1,h2,b,o,ha,hQ b hP hb,Nat.lt_of_lt_of_le hb hk.size,fun i hi=>(hk.cell _ hP hb).trans (hc i hi)⟩⟩
theorem RdN.mono {w:World} {P Q:Nat->Prop} {v:Value} {ls:List (List UInt8)} (h:RdN w P v ls) (hQ: ∀b,P b->b<w.heap.size->Q b):RdN w Q v ls:=h.keep ⟨Nat.le_refl _,fun _ _ _=>rfl⟩ hQ
def nmRow (ls:List (List UInt8)):List Value:=ls.map fun x=> .string (str x)
def OwnN (w:World) (base:Nat) (v:Value) (ls:List (List UInt8)):Prop:=w.ownsRow base 9 1 v ls.length (nmRow ls)
theorem OwnN.rd {w:World} {base:Nat} {v:Value} {ls:List (List UInt8)} (h:OwnN w base v ls):RdN w (fun b=>base<=b) v ls:=by
 rcases h.2 with⟨rfl,h0⟩|⟨g,cap,cur,rfl,hb,hg,hnc,hcm,hcs,ht⟩
 ·have:ls=[]:=List.eq_nil_of_length_eq_zero h0;subst this;exact .nil_ _ _
 ·refine⟨_,cap,rfl, .inr ⟨hnc,hcm,g,0,rfl,hb,(Array.getElem?_eq_some_iff.1 hg).1,fun i hi=> ?_⟩⟩;rw[Nat.zero_add,cell_of_row w g i cur 9 (0,0) hg];have h3:(nmRow ls)[i]? =some (.string (str ls[i])):=by simp[nmRow,hi]
  rw[<-ht,List.getElem?_take]at h3;rw[if_pos (by omega)]at h3;simpa using h3
theorem sst:RowT prog 56 9 1 16 (.string ⟨#[]⟩):=⟨underlying56,by kernel_rfl,by rfl,by decide⟩
theorem nclo_bad (base g pf pb:Nat) (nm:List UInt8) (l:List Tok) (en:Int) (w:World) (C:Option Addr) (n cap:Nat)
  (hP:PA w g l en) (hb:Blk w pb 153 #[.pointer (some ⟨g,0,none⟩)]) (hx:Blk w pf 59 #[.string (str nm), .slice C n cap, .slice none 0 0])
  (hbase:base<=w.heap.size) (hg:g<pf) (hgp:g<pb) (hk: ¬(hdT l).k=1):
  Calls prog 103 #[.pointer (some ⟨pf,0,none⟩), .pointer (some ⟨pb,0,none⟩)] w fun e w'=>e=wrongV en l 3/\Fr base g pf w w':=by
 have HP:=hide hP;have HB:=hide hb;have HX:=hide hx;have hgw:g<w.heap.size:=hP.lt;have hxg:pf≠g:=by omega
 have hbg:pb≠g:=by omega
 clear hP hb hx;go_enter func103,ntmps103;refine wp_region_app 5 0 [(3,fun v=>v= .string ⟨#[]⟩,fun _ _=>False),(4,fun v=> ∃gb,v= .slice (some ⟨gb,0,none⟩) 1 1,fun _ _=>True)] 3 (some g) mixed (by kernel_rfl)
  ⟨fun _ _ _ h _=>h,fun _ _ _ h _=>h,trivial⟩ ⟨.inl rfl, .inr fun _ _ _ h _=>h,trivial⟩ ?_
 repeat (refine sx ?_ (fun w1 hU=> ?_) ?_;rotate_left;(focus have f1:=(HX.out.grown (grown_un hU) (fun e=>hxg (Option.some.inj e))).cell;have f2:=(HB.out.grown (grown_un hU) (fun e=>hbg (Option.some.inj e))).cell;clear hU;go_simp<;>with_reducible rfl);simp only[pq0,pq1,pq2,pq3,pq4])
 refine seq_late _ _ (by rfl) rfl ⟨_,rfl⟩ rfl (fun w6 hT hp K hK=> ?_) ?_
 ·clear hp;have hc:=name_bad g l en w6 (HP.out.ext hT.un) hk;have HT6:=hide hT.un;clear hT;go_simp;refine hc.mono ?_;unfold wrongV;rintro e w7 ⟨rfl,hG⟩;intro a' hd;exact⟨hd,rfl,Fr.of_grown (grown_trans (HT6.out.grownBy _) hG) hbase (fun k e=>by injection e with e;omega)⟩
 rintro _ rfl;simp only[pq0,pq1,pq2,pq3,pq4];refine seq_opaque _ _ (by rfl) rfl ⟨_,0,rfl⟩ (by simp) (fun w6 hU hp K hK=> ?_) ?_
 ·clear hp;go_simp;exact hK _ _ (Ext.alloc w6 _) ⟨_,rfl⟩ trivial
 rintro _ ⟨gb,rfl⟩;simp only[pq0,pq1,pq2,pq3,pq4];intro w8 hw8 hp;exact(hp _ (.tail _ (.head _))).elim
theorem nclo_ok (base g pf pb:Nat) (nm:List UInt8) (l:List Tok) (en:Int) (w:World) (acc:List (List UInt8)) (C:Option Addr) (n cap:Nat)
  (hP:PA w g l en) (hb:Blk w pb 153 #[.pointer (some ⟨g,0,none⟩)]) (hx:Blk w pf 59 #[.string (str nm), .slice C n cap, .slice none 0 0])
  (hO:OwnN w base (.slice C n cap) acc) (hn:acc.length=n) (hbase:base<=w.heap.size) (hg:g<pf) (hgp:g<pb) (hpf:pf<base) (hnb:n<=100000) (hk:(hdT l).k=1):
  Calls prog 103 #[.pointer (some ⟨pf,0,none⟩), .pointer (some ⟨pb,0,none⟩)] w fun e w'=>e= .returned (.tuple #[])/\Fr base g pf w w'/\PA w' g l.tail en/\
   ∃C' cap',Blk w' pf 59 #[.string (str nm), .slice C' (n+1) cap', .slice none 0 0]/\OwnN w' base (.slice C' (n+1) cap') (acc++[(hdT l).t]):=by
 have HP:=hide hP;have HB:=hide hb;have HX:=hide hx;have HO:=hide (show w.ownsRow base 9 1 (.slice C n cap) n (nmRow acc) by have:=hO;unfold OwnN at this;rwa [hn]at this);have hgw:g<w.heap.size:=hP.lt;have hxg:pf≠g:=by omega
 have hbg:pb≠g:=by omega
 clear hP hb hx hO;go_enter func103,ntmps103;refine wp_region_app 5 0 [(3,fun v=>v= .string (str (hdT l).t),fun v wx=>PA wx g l.tail en),(4,fun v=> ∃gb,v= .slice (some ⟨gb,0,none⟩) 1 1,fun v wx=> ∀gb,v= .slice (some ⟨gb,0,none⟩) 1 1->w.heap.size<=gb/\Blk wx gb 9 #[.string (str (hdT l).t)])] 3 (some g) mixed (by kernel_rfl)
  ⟨fun _ _ _ h hx=>h.ext hx,fun _ _ _ h hx gb e=>⟨(h gb e).1,(h gb e).2.ext hx⟩,trivial⟩ ⟨.inl rfl, .inr fun _ _ _ h hx gb e=>⟨(h gb e).1,(h gb e).2.grown hx (fun e'=>by have:=(h gb e).1;injection e' with e';omega)⟩,trivial⟩ ?_
 repeat (refine sx ?_ (fun w1 hU=> ?_) ?_;rotate_left;(focus have f1:=(HX.out.grown (grown_un hU) (fun e=>hxg (Option.some.inj e))).cell;have f2:=(HB.out.grown (grown_un hU) (fun e=>hbg (Option.some.inj e))).cell;clear hU;go_simp<;>with_reducible rfl);simp only[pq0,pq1,pq2,pq3,pq4])
 refine seq_late _ _ (by rfl) rfl ⟨_,rfl⟩ rfl (fun w6 hT hp K hK=> ?_) ?_
 ·clear hp;have hc:=name_ok g l en w6 (HP.out.ext hT.un) hk;clear hT;go_simp;refine hc.mono ?_;rintro e w7 ⟨rfl,h1,hG⟩;exact hK _ _ hG rfl h1
 rintro _ rfl;simp only[pq0,pq1,pq2,pq3,pq4];refine seq_opaque _ _ (by rfl) rfl ⟨_,0,rfl⟩ (by simp) (fun w6 hU hp K hK=> ?_) ?_
 ·have hz6:=(grown_un hU).size;clear hp hU;go_simp;exact hK _ _ (Ext.alloc w6 _) ⟨_,rfl⟩ (fun gb e=>by injection e with e;injection e with e;injection e with e;subst e;exact⟨hz6,Blk.new w6 _ _⟩)
 rintro _ ⟨gb,rfl⟩;simp only[pq0,pq1,pq2,pq3,pq4];intro w8 hw8 hp;obtain⟨hgb,hB3⟩:=hp _ (.head _) gb rfl;have h3:=hp _ (.tail _ (.head _));clear hp;simp only[List.drop_succ_cons,List.drop_zero];have hw8:=grown_un hw8;have hz8:=hw8.size;have hrow:=World.ownsRow.lt HO.out;have hrw:=fun k hk=>(hrow k hk).1
 have hO8:=HO.out.kept hw8 (by
  cases ho:Value.ownBlock (.slice C n cap)with
  |none=>exact .inl rfl
  |some k=>exact .inr fun e=>by have:=hrw k ho;injection e with e;omega)
 have HF8:=hide (Fr.of_grown hw8 hbase (fun k e=>by injection e with e;omega):Fr base g pf w w8);have HX8:=hide (HX.out.grown hw8 (fun e=>hxg (Option.some.inj e)));have HP8:=hide (show PA w8 g l.tail en from h3);clear hw8 h3 hrow;refine wpList_app1 sst rfl _ _ rfl base _ n (nmRow acc) rfl hO8 gb [.string (str (hdT l).t)] rfl hB3 rfl (by simp[Value.oneCell']) (by omega) (by decide) (by omega) ?_;intro A' cap' w9 hq1 hq2 hq3;have hx9:=HX8.out.grown hq2 (fun e=>by have:=hrw _ e.symm;omega);have hp9:=HP8.out.grown hq2 (fun k e=>by have:=hrw k e;omega);have hF9:=HF8.out.trans (Fr.of_grown hq2 (by omega) (fun k e=> .inr (.inr (hrw k e))));have hxc:=hx9.cell;have hxf:=hx9.frozen;have hs:=grown_set w9 pf 1 (.slice (some ⟨A',0,none⟩) (n+1) cap');have hz9:=hq2.size;have hb9:base<=w9.heap.size:=by omega
 have hAb:base<=A':=by
  rcases hq3 with h|h
  ·exact hrw A' h.symm
  ·omega
 have HX9:=hide (hx9.set 1 (.slice (some ⟨A',0,none⟩) (n+1) cap'));have HP9:=hide (hp9.grown hs (fun k e=>by injection e with e;omega));have HF9:=hide (hF9.trans (Fr.of_grown hs hb9 (fun k e=> .inr (.inl (Option.some.inj e).symm))));have HO9:=hide (World.ownsRow.kept hq1 hs (.inr (fun e=>by have e:A'=pf:=Option.some.inj e;omega)));clear hq1 hq2 hq3 hs hF9 hp9 hx9 hO8 hB3;go_wp2_with fail
 go_end0
 refine⟨rfl,HF9.out,HP9.out,some ⟨A',0,none⟩,cap',by simpa using HX9.out,?_⟩;have:=HO9.out;unfold OwnN;rw[List.length_append,hn];simpa[nmRow]using this
def RNam (base g pf:Nat) (nm:List UInt8) (en:Int) (w:World) (r:PR (List (List UInt8))) (e:Ending) (w':World):Prop:=
 Fr base g pf w w'/\match r with
 | .ok (a,q)=>e= .returned (.tuple #[])/\PA w' g q en/\ ∃C n cap,Blk w' pf 59 #[.string (str nm), .slice C n cap, .slice none 0 0]/\RdN w' (fun b=>base<=b) (.slice C n cap) a
 | .error (q,n)=>e=wrongV en q n
theorem list_names (f:Nat) (base g pf pb:Nat) (nm:List UInt8) (l:List Tok) (en:Int) (w:World)
  (hP:PA w g l en) (hb:Blk w pb 153 #[.pointer (some ⟨g,0,none⟩)]) (hx:Blk w pf 59 #[.string (str nm), .slice none 0 0, .slice none 0 0])
  (hbase:base<=w.heap.size) (hg:g<pf) (hgp:g<pb) (hpp:pb≠pf) (hpf:pf<base) (hpb:pb<base) (hf:l.length+1<=f) (hnb:l.length<=100000):
  Calls prog 102 #[.pointer (some ⟨g,0,none⟩), .func (Fn.func 103) #[] #[.pointer (some ⟨pf,0,none⟩), .pointer (some ⟨pb,0,none⟩)]] w (RNam base g pf nm en w (pNames f l)):=by
 have HP:=hide hP;have HB:=hide hb;have HX:=hide hx;have HG:=hide (got_any g l en sRp w hP);clear hP hb hx
 cases hrp:isL sRp l with
 |true=>
  rw[hrp]at HG;simp only[if_true]at HG;have HR:=hide (show pNames f l= .ok ([],l.tail)from by unfold pNames;rw[if_pos hrp]);go_enter func102,ntmps102;go_wp2_with (go_at_call 98;refine HG.out.mono ?_;rintro e w1 ⟨rfl,h1,h2⟩;have H1:=hide h1;have H2:=hide h2;clear h1 h2 HG)
  go_end0
  rw[HR.out];exact⟨Fr.of_grown H2.out hbase (fun k e=>by injection e with e;omega),rfl,H1.out,_,_,_,HX.out.grown H2.out (fun e=>by injection e with e;omega), .nil_ _ _⟩
 |false=>
  rw[hrp]at HG;simp only[Bool.false_eq_true,if_false]at HG;have HR:=hide (show pNames f l=pNames1 f [] l from by unfold pNames;rw[if_neg (by rw[hrp];simp)]);go_enter func102,ntmps102;go_wp2_with (go_at_call 98;refine HG.out.mono ?_;rintro e w1 ⟨rfl,h1,h2⟩;have H1:=hide h1;have H2:=hide h2;clear h1 h2 HG)
  go_loopw [] (fun wr=> ∃(k:Nat) (acc:List (List UInt8)) (r:List Tok) (C:Option Addr) (n cap:Nat),r.length+1<=k/\acc.length=n/\n+r.length<=l.length/\Hid (pNames1 k acc r=pNames f l)/\Hid (PA wr g r en)/\Hid (Blk wr pf 59 #[.string (str nm), .slice C n cap, .slice none 0 0])/\
   Hid (OwnN wr base (.slice C n cap) acc)/\Hid (Fr base g pf w wr)) (fun wr=>tokN g wr)
  case atStart=>exact⟨f,[],l,none,0,0,hf,rfl,by omega,hide HR.out.symm,H1,hide (HX.out.grown H2.out (fun e=>by injection e with e;omega)),hide (World.ownsRow_nil _ _ _ _),hide (Fr.of_grown H2.out hbase (fun k e=>by injection e with e;omega))⟩
  case round=>
   obtain⟨k,acc,r,C,n,cap,hk,hn,hnl,HRes,HPr,HXr,HOr,HFr⟩:=hrel;obtain⟨k,rfl⟩: ∃k',k=k'+1:=⟨k-1,by omega⟩
   have HBr:=hide (HFr.out.blk HB.out hpb (by omega) (by omega));have hbr:base<=wr.heap.size:=by have:=HFr.out.size;omega
   have HSt:=hide (show pNames1 (k+1) acc r=(nameL r).then fun x q=>if isL sRp q then .ok (acc++[x],q.tail)else(wantL sCm q).then fun _ q=>pNames1 k (acc++[x]) q from by rw[pNames1]);by_cases hkn:(hdT r).k=1
   rotate_left
   ·have HRR:=hide (show pNames f l= .error (r,3)from by rw[<-HRes.out,HSt.out,nameL_no hkn];rfl);have HC:=hide (nclo_bad base g pf pb nm r en wr C n cap HPr.out HBr.out HXr.out hbr hg hgp hkn);unfold wrongV at HC;go_wp2_with (go_at_call 103;refine HC.out.mono ?_;rintro e w3 ⟨rfl,hF⟩;have HF3:=hide (HFr.out.trans hF);clear hF HC);exact⟨rfl,by rw[HRR.out];exact⟨HF3.out,rfl⟩⟩
   ·have hlt:=tail_lt (l:=r) (by rw[hkn];decide);have HC:=hide (nclo_ok base g pf pb nm r en wr acc C n cap HPr.out HBr.out HXr.out HOr.out hn hbr hg hgp hpf (by omega) hkn);have HS2:=hide (show pNames f l=if isL sRp r.tail then .ok (acc++[(hdT r).t],r.tail.tail)else(wantL sCm r.tail).then fun _ q=>pNames1 k (acc++[(hdT r).t]) q from by rw[<-HRes.out,HSt.out,nameL_yes hkn];rfl);clear HRes HSt
    cases hr2:isL sRp r.tail with
    |true=>
     have HRR:=hide (show pNames f l= .ok (acc++[(hdT r).t],r.tail.tail)from by rw[HS2.out,if_pos hr2])
     go_wp2_with (first
      |(go_at_call 103;refine HC.out.mono ?_;rintro e w3 ⟨rfl,hF,hP3,C3,cap3,hX3,hO3⟩;have HF3:=hide (HFr.out.trans hF);have HP3:=hide hP3;have HX3:=hide hX3;have HO3:=hide hO3;clear hF HC hP3 hX3 hO3)
      |(go_at_call 98;refine(got_any g r.tail en sRp _ HP3.out).mono ?_;rw[hr2];simp only[if_true];rintro e w4 ⟨rfl,h1,h2⟩;have HP4:=hide h1;have HG4:=hide h2;clear h1 h2))
     go_end0
     rw[HRR.out];have hb3:base<=w3.heap.size:=by have:=HF3.out.size;omega
     exact⟨HF3.out.trans (Fr.of_grown HG4.out hb3 (fun k e=>by injection e with e;omega)),rfl,HP4.out,_,_,_,HX3.out.grown HG4.out (fun e=>by injection e with e;omega),HO3.out.rd.keep (.of_grown HG4.out fun b hb e=>by injection e with e;omega) (fun _ hb _=>hb)⟩
    |false=>
     cases hcm:isL sCm r.tail with
     |false=>
      have HRR:=hide (show pNames f l= .error (r.tail,3)from by rw[HS2.out,if_neg (by rw[hr2];simp),wantL_no hcm];rfl)
      go_wp2_with (first
       |(go_at_call 103;refine HC.out.mono ?_;rintro e w3 ⟨rfl,hF,hP3,C3,cap3,hX3,hO3⟩;have HF3:=hide (HFr.out.trans hF);have HP3:=hide hP3;clear hF HC hP3 hX3 hO3)
       |(go_at_call 98;refine(got_any g r.tail en sRp _ HP3.out).mono ?_;rw[hr2];simp only[Bool.false_eq_true,if_false];rintro e w4 ⟨rfl,h1,h2⟩;have HP4:=hide h1;have HG4:=hide h2;clear h1 h2 HP3)
       |(go_at_call 100;refine(want_bad g r.tail en sCm _ HP4.out hcm).mono ?_;unfold wrongV;rintro e w5 ⟨rfl,hG⟩;have HG5:=hide (grown_trans HG4.out hG);clear hG))
      have hb3:base<=w3.heap.size:=by have:=HF3.out.size;omega
      exact⟨rfl,by rw[HRR.out];exact⟨HF3.out.trans (Fr.of_grown HG5.out hb3 (fun k e=>by injection e with e;omega)),rfl⟩⟩
     |true=>
      have HRR:=hide (show pNames1 k (acc++[(hdT r).t]) r.tail.tail=pNames f l from by rw[HS2.out,if_neg (by rw[hr2];simp),wantL_yes hcm];rfl);have hqt:=isL_tail hcm
      go_wp2_with (first
       |(go_at_call 103;refine HC.out.mono ?_;rintro e w3 ⟨rfl,hF,hP3,C3,cap3,hX3,hO3⟩;have HF3:=hide (HFr.out.trans hF);have HP3:=hide hP3;have HX3:=hide hX3;have HO3:=hide hO3;clear hF HC hP3 hX3 hO3)
       |(go_at_call 98;refine(got_any g r.tail en sRp _ HP3.out).mono ?_;rw[hr2];simp only[Bool.false_eq_true,if_false];rintro e w4 ⟨rfl,h1,h2⟩;have HP4:=hide h1;have HG4:=hide h2;clear h1 h2 HP3)
       |(go_at_call 100;refine(want_ok g r.tail en sCm _ HP4.out hcm).mono ?_;rintro e w5 ⟨rfl,h1,h2⟩;have HP5:=hide h1;have HG5:=hide (grown_trans HG4.out h2);clear h1 h2))
      have hb3:base<=w3.heap.size:=by have:=HF3.out.size;omega
      have hrow:=World.ownsRow.lt HO3.out;go_roundw
      case rel=>exact⟨k,acc++[(hdT r).t],r.tail.tail,C3,n+1,cap3,by omega,by simp[hn],by omega,HRR,HP5,hide (HX3.out.grown HG5.out (fun e=>by injection e with e;omega)),hide (World.ownsRow.kept HO3.out HG5.out (by
       cases ho:Value.ownBlock (.slice C3 (n+1) cap3)with
       |none=>exact .inl rfl
       |some k=>exact .inr fun e=>by have:=(hrow k ho).1;injection e with e;omega)),hide (HF3.out.trans (Fr.of_grown HG5.out hb3 (fun k e=>by injection e with e;omega)))⟩
      case measure=>rw[HPr.out.tokN,HP5.out.tokN];omega
end Go.Proofs.YtddomeddabfinaaGreatDoor
namespace Go.Proofs.YtddomeddabfinaaGreatDoor
open Go.Proofs.Tryz
open Go.RowKit
structure FV where
 c:Fc
 p:Value
 b:Value
def fcC (p:FV):List Value:=[.string (str p.c.nm),p.p,p.b]
def fcRow (l:List FV):List Value:=l.flatMap fcC
def vrC (v:Vr):List Value:=[.string (str v.nm), .int .i64 v.sz]
def vrRow (l:List Vr):List Value:=l.flatMap vrC
theorem fcRow_app (a b:List FV):fcRow (a++b)=fcRow a++fcRow b:=by simp[fcRow]
theorem vrRow_app (a b:List Vr):vrRow (a++b)=vrRow a++vrRow b:=by simp[vrRow]
theorem fcRow_get: ∀(l:List FV) (i:Nat) (h:i<l.length) (k:Nat),k<3->(fcRow l)[i*3+k]? =(fcC l[i])[k]?
 | [],i,h,k,hk=>by simp at h
 |p::l,0,h,k,hk=>by
  simp only[fcRow,List.flatMap_cons,Nat.zero_mul,Nat.zero_add,List.getElem_cons_zero];rw[List.getElem?_append_left (by simp[fcC];omega)]
 |p::l,i+1,h,k,hk=>by
  have:=fcRow_get l i (by simpa using h) k hk;simp only[fcRow,List.flatMap_cons,List.getElem_cons_succ]at this⊢;rw[List.getElem?_append_right (by simp[fcC];omega),<-this]
  congr 1
  simp[fcC];omega
theorem vrRow_get: ∀(l:List Vr) (i:Nat) (h:i<l.length) (k:Nat),k<2->(vrRow l)[i*2+k]? =(vrC l[i])[k]?
 | [],i,h,k,hk=>by simp at h
 |p::l,0,h,k,hk=>by
  simp only[vrRow,List.flatMap_cons,Nat.zero_mul,Nat.zero_add,List.getElem_cons_zero];rw[List.getElem?_append_left (by simp[vrC];omega)]
 |p::l,i+1,h,k,hk=>by
  have:=vrRow_get l i (by simpa using h) k hk;simp only[vrRow,List.flatMap_cons,List.getElem_cons_succ]at this⊢;rw[List.getElem?_append_right (by simp[vrC];omega),<-this]
  congr 1
  simp[vrC];omega
def FV.ok (w:World) (P:Nat->Prop) (p:FV):Prop:=RdN w P p.p p.c.ps/\RdS w P p.b p.c.body
theorem FV.ok.keep {w w':World} {P Q:Nat->Prop} {p:FV} (h:p.ok w P) (hk:KeepP P w w') (hQ: ∀b,P b->b<w.heap.size->Q b):p.ok w' Q:=⟨h.1.keep hk hQ,h.2.keep hk hQ⟩
def RdV (w:World) (P:Nat->Prop) (v:Value) (vs:List Vr):Prop:=
 ∃A c,v= .slice A vs.length c/\(vs=[]\/vs.length<=c/\c<=maxLen/\ ∃b o,A=some ⟨b,o,none⟩/\P b/\b<w.heap.size/\ ∀i,(h:i<vs.length)->w.cell? ⟨b,o+i*2,none⟩=some (.string (str vs[i].nm))/\w.cell? ⟨b,o+i*2+1,none⟩=some (.int .i64 vs[i].sz))
theorem RdV.keep {w w':World} {P Q:Nat->Prop} {v:Value} {vs:List Vr} (h:RdV w P v vs) (hk:KeepP P w w') (hQ: ∀b,P b->b<w.heap.size->Q b):RdV w' Q v vs:=by
 obtain⟨A,c,rfl,h⟩:=h;exact⟨A,c,rfl,h.imp id fun⟨h1,h2,b,o,ha,hP,hb,hc⟩=>⟨h1,h2,b,o,ha,hQ b hP hb,Nat.lt_of_lt_of_le hb hk.size,fun i hi=>⟨(hk.cell _ hP hb).trans (hc i hi).1,(hk.cell _ hP hb).trans (hc i hi).2⟩⟩⟩
def RdF (w:World) (P:Nat->Prop) (v:Value) (fs:List Fc):Prop:=
 ∃A c,v= .slice A fs.length c/\(fs=[]\/fs.length<=c/\c<=maxLen/\ ∃b o,A=some ⟨b,o,none⟩/\P b/\b<w.heap.size/\ ∃pv bv:Nat->Value,∀i,(h:i<fs.length)->w.cell? ⟨b,o+i*3,none⟩=some (.string (str fs[i].nm))/\w.cell? ⟨b,o+i*3+1,none⟩=some (pv i)/\w.cell? ⟨b,o+i*3+2,none⟩=some (bv i)/\
  RdN w P (pv i) fs[i].ps/\RdS w P (bv i) fs[i].body)
theorem RdF.keep {w w':World} {P Q:Nat->Prop} {v:Value} {fs:List Fc} (h:RdF w P v fs) (hk:KeepP P w w') (hQ: ∀b,P b->b<w.heap.size->Q b):RdF w' Q v fs:=by
 obtain⟨A,c,rfl,h⟩:=h
 exact⟨A,c,rfl,h.imp id fun⟨h1,h2,b,o,ha,hP,hb,pv,bv,hc⟩=>⟨h1,h2,b,o,ha,hQ b hP hb,Nat.lt_of_lt_of_le hb hk.size,pv,bv,fun i hi=>let⟨q0,q1,q2,q3,q4⟩:=hc i hi
  ⟨(hk.cell _ hP hb).trans q0,(hk.cell _ hP hb).trans q1,(hk.cell _ hP hb).trans q2,q3.keep hk hQ,q4.keep hk hQ⟩⟩⟩
def OwnP (w:World) (base:Nat) (vv fv:Value) (vs:List Vr) (fs:List FV):Prop:=
 w.ownsRow base 85 2 vv vs.length (vrRow vs)/\w.ownsRow base 59 3 fv fs.length (fcRow fs)/\(∀k,vv.ownBlock=some k->fv.ownBlock≠some k)/\ ∀p,p∈fs->p.ok w (fun b=>base<=b/\some b≠vv.ownBlock/\some b≠fv.ownBlock)
theorem OwnP.nil_ (w:World) (base:Nat):OwnP w base (.slice none 0 0) (.slice none 0 0) [] []:=⟨World.ownsRow_nil _ _ _ _,World.ownsRow_nil _ _ _ _,fun k hk=>(by cases hk),fun p hp=>(by cases hp)⟩
theorem row_keep {w w':World} {base:Nat} {e:TypeId} {size n:Nat} {v:Value} {xs:List Value} (h:w.ownsRow base e size v n xs) (hk: ∀b,base<=b->b<w.heap.size->v.ownBlock=some b->w'.heap[b]? =w.heap[b]?):w'.ownsRow base e size v n xs:=by
 refine⟨h.1,?_⟩;rcases h.2 with h0|⟨g,cap,cur,hv,hb,hg,hr⟩
 ·exact .inl h0
 ·exact .inr ⟨g,cap,cur,hv,hb,(hk g hb (Array.getElem?_eq_some_iff.1 hg).1 (by rw[hv];rfl)).trans hg,hr⟩
theorem OwnP.keepW {w w':World} {base:Nat} {vv fv:Value} {vs:List Vr} {fs:List FV} (h:OwnP w base vv fv vs fs) (hz:w.heap.size<=w'.heap.size) (hk: ∀b,base<=b->b<w.heap.size->w'.heap[b]? =w.heap[b]?):OwnP w' base vv fv vs fs:=
 ⟨row_keep h.1 (fun b h1 h2 _=>hk b h1 h2),row_keep h.2.1 (fun b h1 h2 _=>hk b h1 h2),h.2.2.1,fun p hp=>(h.2.2.2 p hp).keep ⟨hz,fun b hb hlt=>hk b hb.1 hlt⟩ (fun b hb _=>hb)⟩
theorem OwnP.grown {w w':World} {base:Nat} {vv fv:Value} {vs:List Vr} {fs:List FV} {row:Option Nat} (h:OwnP w base vv fv vs fs) (hg:w.grownBy w' row) (hr: ∀k,row=some k->k<base):OwnP w' base vv fv vs fs:=
 h.keepW hg.size fun b h1 h2=>hg.block b h2 (fun e=>by have:=hr b e.symm;omega)
theorem OwnP.snocV {w w':World} {base:Nat} {vv fv:Value} {vs:List Vr} {fs:List FV} {v:Vr} {A n cap:Nat} (h:OwnP w base vv fv vs fs) (hl:vs.length=n) (hn:w'.ownsRow base 85 2 (.slice (some ⟨A,0,none⟩) (n+1) cap) (n+1) (vrRow vs++vrC v))
  (hg:w.grownBy w' vv.ownBlock) (hA:some A=vv.ownBlock\/A=w.heap.size):OwnP w' base (.slice (some ⟨A,0,none⟩) (n+1) cap) fv (vs++[v]) fs:=by
 subst hl;obtain⟨h1,h2,h3,h4⟩:=h;have hl2:=World.ownsRow.lt h2;refine⟨by rw[List.length_append,vrRow_app];simpa[vrRow]using hn,row_keep h2 (fun b _ hb hv=>hg.block b hb (fun e=>h3 b e.symm hv)),fun k hk e=> ?_,fun p hp=>(h4 p hp).keep (.of_grown hg fun b hb=>hb.2.1) fun b hb hlt=>⟨hb.1,fun e=> ?_,hb.2.2⟩⟩
 ·have hk:A=k:=Option.some.inj hk;subst hk;rcases hA with hA|hA
  ·exact h3 A hA.symm e
  ·have:=(hl2 A e).2;omega
 ·have e:b=A:=Option.some.inj e;subst e;rcases hA with hA|hA
  ·exact hb.2.1 hA
  ·omega
theorem OwnP.snocF {w w':World} {base:Nat} {vv fv:Value} {vs:List Vr} {fs:List FV} {p:FV} {A n cap:Nat} (h:OwnP w base vv fv vs fs) (hp:p.ok w (fun b=>base<=b/\some b≠vv.ownBlock/\some b≠fv.ownBlock)) (hl:fs.length=n) (hn:w'.ownsRow base 59 3 (.slice (some ⟨A,0,none⟩) (n+1) cap) (n+1) (fcRow fs++fcC p))
  (hg:w.grownBy w' fv.ownBlock) (hA:some A=fv.ownBlock\/A=w.heap.size):OwnP w' base vv (.slice (some ⟨A,0,none⟩) (n+1) cap) vs (fs++[p]):=by
 subst hl;obtain⟨h1,h2,h3,h4⟩:=h;have hl1:=World.ownsRow.lt h1
 have hq: ∀b,(base<=b/\some b≠vv.ownBlock/\some b≠fv.ownBlock)->b<w.heap.size->(base<=b/\some b≠vv.ownBlock/\some b≠Value.ownBlock (.slice (some ⟨A,0,none⟩) (fs.length+1) cap)):=fun b hb hlt=>⟨hb.1,hb.2.1,fun e=>by
  have e:b=A:=Option.some.inj e;subst e;rcases hA with hA|hA
  ·exact hb.2.2 hA
  ·omega⟩
 refine⟨row_keep h1 (fun b _ hb hv=>hg.block b hb (fun e=>h3 b hv e.symm)),by rw[List.length_append,fcRow_app];simpa[fcRow]using hn,fun k hk e=> ?_,fun q hq'=> ?_⟩
 ·have e:A=k:=Option.some.inj e;subst e;rcases hA with hA|hA
  ·exact h3 A hk hA.symm
  ·have:=(hl1 A hk).2;omega
 ·rcases List.mem_append.1 hq' with hq'|hq'
  ·exact(h4 q hq').keep (.of_grown hg fun b hb=>hb.2.2) hq
  ·rw[List.mem_singleton]at hq';subst hq';exact hp.keep (.of_grown hg fun b hb=>hb.2.2) hq
theorem OwnP.rd {w:World} {base:Nat} {vv fv:Value} {vs:List Vr} {fs:List FV} (h:OwnP w base vv fv vs fs):RdV w (fun b=>base<=b) vv vs/\RdF w (fun b=>base<=b) fv (fs.map (·.c)):=by
 obtain⟨h1,h2,_,h4⟩:=h;constructor
 ·rcases h1.2 with⟨rfl,h0⟩|⟨g,cap,cur,rfl,hb,hg,hnc,hcm,hcs,ht⟩
  ·have:vs=[]:=List.eq_nil_of_length_eq_zero h0;subst this;exact⟨none,0,rfl, .inl rfl⟩
  ·have cell: ∀j y,(vrRow vs)[j]? =some y->w.cell? ⟨g,j,none⟩=some y:=fun j y hy=>by
    rw[cell_of_row w g j cur 85 (0,0) hg];rw[<-ht,List.getElem?_take]at hy;split at hy
    ·simpa using hy
    ·cases hy
   exact⟨_,cap,rfl, .inr ⟨hnc,hcm,g,0,rfl,hb,(Array.getElem?_eq_some_iff.1 hg).1,fun i hi=>by
    rw[Nat.zero_add]
    exact⟨cell _ _ (vrRow_get vs i hi 0 (by omega)),cell _ _ (vrRow_get vs i hi 1 (by omega))⟩⟩⟩
 ·rcases h2.2 with⟨rfl,h0⟩|⟨g,cap,cur,rfl,hb,hg,hnc,hcm,hcs,ht⟩
  ·have:fs=[]:=List.eq_nil_of_length_eq_zero h0;subst this;exact⟨none,0,rfl, .inl rfl⟩
  ·have cell: ∀j y,(fcRow fs)[j]? =some y->w.cell? ⟨g,j,none⟩=some y:=fun j y hy=>by
    rw[cell_of_row w g j cur 59 (0,0) hg];rw[<-ht,List.getElem?_take]at hy;split at hy
    ·simpa using hy
    ·cases hy
   refine⟨some ⟨g,0,none⟩,cap,by simp, .inr ⟨by simpa using hnc,hcm,g,0,rfl,hb,(Array.getElem?_eq_some_iff.1 hg).1,fun i=>if h:i<fs.length then fs[i].p else .slice none 0 0,fun i=>if h:i<fs.length then fs[i].b else .slice none 0 0,fun i hi=> ?_⟩⟩;have hi':i<fs.length:=by simpa using hi
   have e0:(fs.map (·.c))[i]=fs[i].c:=by simp
   have hm:=(h4 fs[i] (List.getElem_mem hi')).keep (P:=fun b=>base<=b/\some b≠vv.ownBlock/\some b≠Value.ownBlock (.slice (some ⟨g,0,none⟩) fs.length cap)) (w':=w) ⟨Nat.le_refl _,fun _ _ _=>rfl⟩ (Q:=fun b=>base<=b) (fun b hb _=>hb.1);rw[e0];simp only[Nat.zero_add,dif_pos hi'];exact⟨cell _ _ (fcRow_get fs i hi' 0 (by omega)),cell _ _ (fcRow_get fs i hi' 1 (by omega)),cell _ _ (fcRow_get fs i hi' 2 (by omega)),hm.1,hm.2⟩
theorem vrt:RowT prog 31 85 2 24 (.agg #[.string ⟨#[]⟩, .int .i64 0]):=⟨underlying31,by kernel_rfl,by rfl,by decide⟩
theorem fct:RowT prog 32 59 3 64 (.agg #[.string ⟨#[]⟩, .slice none 0 0, .slice none 0 0]):=⟨underlying32,by kernel_rfl,by rfl,by decide⟩
def RPrg (g:Nat) (en:Int) (w:World) (r:PR Pg) (e:Ending) (w':World):Prop:=
 w.grownBy w' (some g)/\match r with
 | .ok (p,q)=> ∃A n c B m d,e= .returned (.agg #[.slice A n c, .slice B m d])/\RdV w' (fun b=>w.heap.size<=b) (.slice A n c) p.vs/\RdF w' (fun b=>w.heap.size<=b) (.slice B m d) p.fs
 | .error (q,n)=>e=wrongV en q n
theorem rpg_err {g:Nat} {en:Int} {w w':World} {r:PR Pg} {q:List Tok} {n:Int} (hr:r= .error (q,n)) (hG:w.grownBy w' (some g)):RPrg g en w r (wrongV en q n) w':=by
 subst hr;exact⟨hG,rfl⟩
end Go.Proofs.YtddomeddabfinaaGreatDoor
