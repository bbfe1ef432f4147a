/-
  Parts of the proof: ParO ParQ ParR ParS.
-/
import Derived.LoopN
import Derived.Test.YtddomeddabfinaaGreatDoorTl09
set_option maxRecDepth 100000
set_option maxHeartbeats 8000000
set_option linter.unusedVariables false
set_option linter.unusedSimpArgs false
set_option linter.unusedSectionVars false
namespace Go.Proofs.YtddomeddabfinaaGreatDoor
open Go.Proofs.Tryz
open Go.RowKit
theorem clo_bad (f:Nat) (hEx:CExpr f) (base g px pb:Nat) (nm:List UInt8) (l:List Tok) (en:Int) (w:World) (C:Option Addr) (n cap:Nat)
  (hP:PA w g l en) (hb:Blk w pb 153 #[.pointer (some ⟨g,0,none⟩)]) (hx:Blk w px 70 #[.int .i64 5, .string ⟨#[]⟩, .string (str nm), .string ⟨#[]⟩, .int .i64 0, .slice C n cap])
  (hbase:base<=w.heap.size) (hg:g<px) (hgp:g<pb) (hf:4*l.length+2<=f)
  (q:List Tok) (er:Int) (he:pExpr f 1 l= .error (q,er)):
  Calls prog 223 #[.pointer (some ⟨px,0,none⟩), .pointer (some ⟨pb,0,none⟩)] w fun e w'=>e=wrongV en q er/\Fr base g px w w':=by
 have HP:=hide hP;have HB:=hide hb;have HX:=hide hx;have hgw:g<w.heap.size:=hP.lt;have hxg:px≠g:=by omega
 have hbg:pb≠g:=by omega
 clear hP hb hx;go_enter func223,ntmps223;refine wp_region_app_r 6 0 [(3,fun v=>v= .agg #[.int .i64 0, .string ⟨#[]⟩, .string ⟨#[]⟩, .string ⟨#[]⟩, .int .i64 0, .slice none 0 0],fun _ _=>False),(5,fun v=> ∃gb,v= .slice (some ⟨gb,0,none⟩) 1 1,fun _ _=>True)] 3 (some g) mixed (by kernel_rfl)
  ⟨fun _ _ _ h _=>h,fun _ _ _ h _=>h,trivial⟩ ⟨.inl rfl, .inr fun _ _ _ h _=>h,trivial⟩ ?_
 repeat (refine sx ?_ (fun w1 hU=> ?_) ?_;rotate_left;(focus have f1:=(HX.out.grown (grown_un hU) (fun e=>hxg (Option.some.inj e))).cell;have f2:=(HB.out.grown (grown_un hU) (fun e=>hbg (Option.some.inj e))).cell;clear hU;go_simp<;>with_reducible rfl);simp only[pq0,pq1,pq2,pq3,pq4])
 refine seq_late _ _ (by rfl) rfl ⟨_,rfl⟩ rfl (fun w6 hT hp K hK=> ?_) ?_
 ·clear hp;have hc:=hEx 1 l en w6 g (HP.out.ext hT.un) (by decide) (by decide) hf;have HT6:=hide hT.un;clear hT;go_simp;refine hc.mono ?_;intro e w7 hh;rw[he]at hh;obtain⟨hG,rfl⟩:=hh;unfold wrongV;intro a' hd;exact⟨hd,rfl,Fr.of_grown (grown_trans (HT6.out.grownBy _) hG) hbase (fun k e=>by injection e with e;omega)⟩
 rintro _ rfl;simp only[pq0,pq1,pq2,pq3,pq4];repeat (refine sx ?_ (fun w1 hU=> ?_) ?_;rotate_left;(focus have f1:=(HX.out.grown (grown_un hU) (fun e=>hxg (Option.some.inj e))).cell;have f2:=(HB.out.grown (grown_un hU) (fun e=>hbg (Option.some.inj e))).cell;clear hU;go_simp<;>with_reducible rfl);simp only[pq0,pq1,pq2,pq3,pq4])
 refine seq_opaque _ _ (by rfl) rfl ⟨_,0,rfl⟩ (by simp) (fun w6 hU hp K hK=> ?_) ?_
 ·clear hp;go_simp;exact hK _ _ (Ext.alloc w6 _) ⟨_,rfl⟩ trivial
 rintro _ ⟨gb,rfl⟩;simp only[pq0,pq1,pq2,pq3,pq4];intro w8 hw8 hp;exact(hp _ (.tail _ (.head _))).elim
def tokN (g:Nat) (w:World):Nat:=match w.cell? ⟨g,0,none⟩with
 |some (.slice _ n _)=>n
 | _=>0
theorem PA.tokN {w:World} {g:Nat} {l:List Tok} {en:Int} (h:PA w g l en):tokN g w=l.length:=by
 obtain⟨A,c,hb,_⟩:=h;unfold YtddomeddabfinaaGreatDoor.tokN;rw[hb.cell];rfl
def RArg (base g px:Nat) (nm:List UInt8) (en:Int) (w:World) (r:PR (List Ex)) (e:Ending) (w':World):Prop:=
 Fr base g px w w'/\match r with
 | .ok (a,q)=>e= .returned (.tuple #[])/\PA w' g q en/\ ∃C n cap,Blk w' px 70 #[.int .i64 5, .string ⟨#[]⟩, .string (str nm), .string ⟨#[]⟩, .int .i64 0, .slice C n cap]/\RdE w' (fun b=>base<=b) (.slice C n cap) a
 | .error (q,n)=>e=wrongV en q n
theorem list_args (f:Nat) (hEx: ∀i,i<=f->CExpr i) (base g px pb:Nat) (nm:List UInt8) (l:List Tok) (en:Int) (w:World)
  (hP:PA w g l en) (hb:Blk w pb 153 #[.pointer (some ⟨g,0,none⟩)]) (hx:Blk w px 70 #[.int .i64 5, .string ⟨#[]⟩, .string (str nm), .string ⟨#[]⟩, .int .i64 0, .slice none 0 0])
  (hbase:base<=w.heap.size) (hg:g<px) (hgp:g<pb) (hpp:pb≠px) (hpx:px<base) (hpb:pb<base) (hf:4*l.length+4<=f+1) (hnb:l.length<=100000):
  Calls prog 102 #[.pointer (some ⟨g,0,none⟩), .func (Fn.func 223) #[] #[.pointer (some ⟨px,0,none⟩), .pointer (some ⟨pb,0,none⟩)]] w (RArg base g px nm en w (pArgs (f+1) l)):=by
 have HP:=hide hP;have HB:=hide hb;have HX:=hide hx;have HG:=hide (got_any g l en sRp w hP);clear hP hb hx
 cases hrp:isL sRp l with
 |true=>
  rw[hrp]at HG;simp only[if_true]at HG;have HR:=hide (show pArgs (f+1) l= .ok ([],l.tail)from by rw[pArgs,if_pos hrp]);go_enter func102,ntmps102;go_wp2_with (go_at_call 98;refine HG.out.mono ?_;rintro e w1 ⟨rfl,h1,h2⟩;have H1:=hide h1;have H2:=hide h2;clear h1 h2 HG)
  go_end0
  rw[HR.out];exact⟨Fr.of_grown H2.out hbase (fun k e=>by injection e with e;omega),rfl,H1.out,_,_,_,HX.out.grown H2.out (fun e=>by injection e with e;omega), .nil _ _⟩
 |false=>
  rw[hrp]at HG;simp only[Bool.false_eq_true,if_false]at HG;have HR:=hide (show pArgs (f+1) l=pArgs1 f [] l from by rw[pArgs,if_neg (by rw[hrp];simp)]);have hf':4*l.length+3<=f:=by omega
  clear hf;go_enter func102,ntmps102;go_wp2_with (go_at_call 98;refine HG.out.mono ?_;rintro e w1 ⟨rfl,h1,h2⟩;have H1:=hide h1;have H2:=hide h2;clear h1 h2 HG)
  go_loopw [] (fun wr=> ∃(k:Nat) (acc:List (Ex×Value)) (r:List Tok) (C:Option Addr) (n cap:Nat),4*r.length+3<=k/\k<=f/\acc.length=n/\n+r.length<=l.length/\Hid (pArgs1 k (acc.map (·.1)) r=pArgs (f+1) l)/\Hid (PA wr g r en)/\Hid (Blk wr px 70 #[.int .i64 5, .string ⟨#[]⟩, .string (str nm), .string ⟨#[]⟩, .int .i64 0, .slice C n cap])/\
   Hid (OwnE wr base 70 (.slice C n cap) acc)/\Hid (Fr base g px w wr)) (fun wr=>tokN g wr)
  case atStart=>exact⟨f,[],l,none,0,0,hf',Nat.le_refl _,rfl,by omega,hide HR.out.symm,H1,hide (HX.out.grown H2.out (fun e=>by injection e with e;omega)),hide (OwnE.nil_ _ _ _),hide (Fr.of_grown H2.out hbase (fun k e=>by injection e with e;omega))⟩
  case round=>
   obtain⟨k,acc,r,C,n,cap,hk,hkf,hn,hnl,HRes,HPr,HXr,HOr,HFr⟩:=hrel;obtain⟨k,rfl⟩: ∃k',k=k'+1:=⟨k-1,by omega⟩
   have HBr:=hide (HFr.out.blk HB.out hpb (by omega) (by omega));have hbr:base<=wr.heap.size:=by have:=HFr.out.size;omega
   have hf2:4*r.length+2<=k:=by omega
   have HSt:=hide (show pArgs1 (k+1) (acc.map (·.1)) r=(pExpr k 1 r).then fun x q=>if isL sRp q then .ok (acc.map (·.1)++[x],q.tail)else(wantL sCm q).then fun _ q=>pArgs1 k (acc.map (·.1)++[x]) q from by rw[pArgs1])
   cases he:pExpr k 1 r with
   |error p=>
    obtain⟨q,er⟩:=p;have HRR:=hide (show pArgs (f+1) l= .error (q,er)from by rw[<-HRes.out,HSt.out,he];rfl);have HC:=hide (clo_bad k (hEx k (by omega)) base g px pb nm r en wr C n cap HPr.out HBr.out HXr.out hbr hg hgp hf2 q er he);unfold wrongV at HC;go_wp2_with (go_at_call 223;refine HC.out.mono ?_;rintro e w3 ⟨rfl,hF⟩;have HF3:=hide (HFr.out.trans hF);clear hF HC);exact⟨rfl,by rw[HRR.out];exact⟨HF3.out,rfl⟩⟩
   |ok p=>
    obtain⟨x,q⟩:=p;have hlt:=(expr_lt k).1 _ _ _ _ he;have HC:=hide (clo_ok k (hEx k (by omega)) base g px pb nm r en wr acc C n cap HPr.out HBr.out HXr.out HOr.out hn hbr hg hgp hpp hpx hpb hf2 (by omega) x q he)
    cases hr2:isL sRp q with
    |true=>
     have HRR:=hide (show pArgs (f+1) l= .ok (acc.map (·.1)++[x],q.tail)from by rw[<-HRes.out,HSt.out,he];show(if isL sRp q then(Except.ok (acc.map (·.1)++[x],q.tail):PR (List Ex))else _)=_;rw[if_pos hr2])
     go_wp2_with (first
      |(go_at_call 223;refine HC.out.mono ?_;rintro e w3 ⟨rfl,hF,hP3,C3,cap3,a3,hX3,hO3⟩;have HF3:=hide (HFr.out.trans hF);have HP3:=hide hP3;have HX3:=hide hX3;have HO3:=hide hO3;clear hF HC hP3 hX3 hO3)
      |(go_at_call 98;refine(got_any g q en sRp _ HP3.out).mono ?_;rw[hr2];simp only[if_true];rintro e w4 ⟨rfl,h1,h2⟩;have HP4:=hide h1;have HG4:=hide h2;clear h1 h2))
     go_end0
     rw[HRR.out];have hb3:base<=w3.heap.size:=by have:=HF3.out.size;omega
     have hO4:=HO3.out.grown HG4.out (fun k e=>by injection e with e;omega);exact⟨HF3.out.trans (Fr.of_grown HG4.out hb3 (fun k e=>by injection e with e;omega)),rfl,HP4.out,_,_,_,HX3.out.grown HG4.out (fun e=>by injection e with e;omega),by have:=hO4.rd;simpa using this⟩
    |false=>
     cases hcm:isL sCm q with
     |false=>
      have HRR:=hide (show pArgs (f+1) l= .error (q,3)from by rw[<-HRes.out,HSt.out,he];show(if isL sRp q then(Except.ok (acc.map (·.1)++[x],q.tail):PR (List Ex))else _)=_;rw[if_neg (by rw[hr2];simp)];unfold wantL;rw[hcm];rfl)
      go_wp2_with (first
       |(go_at_call 223;refine HC.out.mono ?_;rintro e w3 ⟨rfl,hF,hP3,C3,cap3,a3,hX3,hO3⟩;have HF3:=hide (HFr.out.trans hF);have HP3:=hide hP3;clear hF HC hP3 hX3 hO3)
       |(go_at_call 98;refine(got_any g q en sRp _ HP3.out).mono ?_;rw[hr2];simp only[Bool.false_eq_true,if_false];rintro e w4 ⟨rfl,h1,h2⟩;have HP4:=hide h1;have HG4:=hide h2;clear h1 h2 HP3)
       |(go_at_call 100;refine(want_bad g q en sCm _ HP4.out hcm).mono ?_;unfold wrongV;rintro e w5 ⟨rfl,hG⟩;have HG5:=hide (grown_trans HG4.out hG);clear hG))
      have hb3:base<=w3.heap.size:=by have:=HF3.out.size;omega
      exact⟨rfl,by rw[HRR.out];exact⟨HF3.out.trans (Fr.of_grown HG5.out hb3 (fun k e=>by injection e with e;omega)),rfl⟩⟩
     |true=>
      have HRR:=hide (show pArgs1 k (acc.map (·.1)++[x]) q.tail=pArgs (f+1) l from by rw[<-HRes.out,HSt.out,he];show _=(if isL sRp q then(Except.ok (acc.map (·.1)++[x],q.tail):PR (List Ex))else _);rw[if_neg (by rw[hr2];simp)];unfold wantL;rw[hcm];rfl);have hqt:=isL_tail hcm
      go_wp2_with (first
       |(go_at_call 223;refine HC.out.mono ?_;rintro e w3 ⟨rfl,hF,hP3,C3,cap3,a3,hX3,hO3⟩;have HF3:=hide (HFr.out.trans hF);have HP3:=hide hP3;have HX3:=hide hX3;have HO3:=hide hO3;clear hF HC hP3 hX3 hO3)
       |(go_at_call 98;refine(got_any g q en sRp _ HP3.out).mono ?_;rw[hr2];simp only[Bool.false_eq_true,if_false];rintro e w4 ⟨rfl,h1,h2⟩;have HP4:=hide h1;have HG4:=hide h2;clear h1 h2 HP3)
       |(go_at_call 100;refine(want_ok g q en sCm _ HP4.out hcm).mono ?_;rintro e w5 ⟨rfl,h1,h2⟩;have HP5:=hide h1;have HG5:=hide (grown_trans HG4.out h2);clear h1 h2))
      have hb3:base<=w3.heap.size:=by have:=HF3.out.size;omega
      go_roundw
      case rel=>exact⟨k,acc++[(x,a3)],q.tail,C3,n+1,cap3,by omega,by omega,by simp[hn],by omega,hide (by simpa using HRR.out),HP5,hide (HX3.out.grown HG5.out (fun e=>by injection e with e;omega)),hide (by simpa using HO3.out.grown HG5.out (fun k e=>by injection e with e;omega)),hide (HF3.out.trans (Fr.of_grown HG5.out hb3 (fun k e=>by injection e with e;omega)))⟩
      case measure=>rw[HPr.out.tokN,HP5.out.tokN];omega
end Go.Proofs.YtddomeddabfinaaGreatDoor
namespace Go.Proofs.YtddomeddabfinaaGreatDoor
open Go.Proofs.Tryz
open Go.RowKit
theorem fin_ex2 {w W:World} {g pr:Nat} {en:Int} {q:List Tok} {z0 z1 z2 z3 z4 z5:Value} {r:PR Ex} (x:Ex) (k:Int) (so sn st:ByteArray) (v:Int) (A:Option Addr) (n c:Nat) (hr:r= .ok (x,q)) (hk:x.k=k) (ho:str x.op=so) (hn:str x.nm=sn) (ht:str x.tx=st) (hv:x.v=v) (hpr:w.heap.size<=pr)
  (hB:Blk W pr 70 #[z0,z1,z2,z3,z4,z5]) (hG:w.grownBy W (some g)) (hPA:PA W g q en) (hg:g<w.heap.size) (hR:RdE W (fun b=>pr<b) (.slice A n c) x.args):
  (∀i,(W.setCells pr 0 [.int .i64 k, .string so, .string sn, .string st, .int .i64 v, .slice A n c]).cell? ⟨pr,i,none⟩=(#[.int .i64 k, .string so, .string sn, .string st, .int .i64 v, .slice A n c]:Array Value)[i]?)/\
  REx g en w r (.returned (.agg #[.int .i64 k, .string so, .string sn, .string st, .int .i64 v, .slice A n c])) (W.setCells pr 0 [.int .i64 k, .string so, .string sn, .string st, .int .i64 v, .slice A n c]):=by
 subst hr hk ho hn ht hv;have hc:=grown_cells pr [.int .i64 x.k, .string (str x.op), .string (str x.nm), .string (str x.tx), .int .i64 x.v, .slice A n c] 0 W;refine⟨(Blk.put6 hB _ _ _ _ _ _).cell,grown_new hG hc hpr,A,n,c,rfl,hR.keep (.of_grown hc fun b hb e=>by injection e with e;omega) fun b hb _=>by omega,hPA.grown hc fun k e=>by injection e with e;omega⟩
theorem box_world (w:World) (p:Value):let W0:=(w.alloc (.cells #[p] 153)).alloc (.cells #[.int .i64 0, .string ⟨#[]⟩, .string ⟨#[]⟩, .string ⟨#[]⟩, .int .i64 0, .slice none 0 0] 70)
  Ext w W0/\Blk W0 w.heap.size 153 #[p]/\Blk W0 (w.heap.size+1) 70 #[.int .i64 0, .string ⟨#[]⟩, .string ⟨#[]⟩, .string ⟨#[]⟩, .int .i64 0, .slice none 0 0]:=by
 have h:=Blk.new (w.alloc (.cells #[p] 153)) 70 #[.int .i64 0, .string ⟨#[]⟩, .string ⟨#[]⟩, .string ⟨#[]⟩, .int .i64 0, .slice none 0 0];rw[World.size_alloc]at h;exact⟨(Ext.alloc w _).alloc' _,(Blk.new w _ _).alloc _,h⟩
theorem named_name (f:Nat) (nm:List UInt8) (l:List Tok) (en:Int) (w:World) (g:Nat) (h:PA w g l en) (hls:isL sLs l=false) (hlp:isL sLp l=false):Calls prog 206 #[.pointer (some ⟨g,0,none⟩), .string (str nm)] w (REx g en w (pNamed (f+1) nm l)):=by
 have HR:=hide (show pNamed (f+1) nm l= .ok (.mk 3 [] nm [] 0 [],l)from by rw[pNamed,if_neg (by rw[hls];simp),if_neg (by rw[hlp];simp)]);obtain⟨hX0,hb0,hB0⟩:=box_world w (.pointer (some ⟨g,0,none⟩));have HX0:=hide hX0;have Hb0:=hide hb0;have HB0:=hide hB0;have HP0:=hide (h.ext hX0);have hbc:=hb0.cell;have hgl:=h.lt;have hbg:w.heap.size≠g:=by omega
 have hrg:w.heap.size+1≠g:=by omega
 have hgr:g≠w.heap.size+1:=by omega
 clear h hX0 hb0 hB0;go_enter func206,ntmps206;go_wp2_with (first|(go_at_call 98;refine(got_any g _ en sLs _ HP0.out).mono ?_;rw[hls];simp only[Bool.false_eq_true,if_false];rintro e w1 ⟨rfl,h1,h2⟩;have HP1:=hide h1;have HG1:=hide (grown_trans (HX0.out.grownBy _) h2);have Hb1:=hide (Hb0.out.grown h2 (fun e=>hbg (Option.some.inj e)));have HB1:=hide (HB0.out.grown h2 (fun e=>hrg (Option.some.inj e)));clear hbc;have hbc:=Hb1.out.cell;have hrc:=HB1.out.cell;have hrf:=HB1.out.frozen;clear h1 h2 HP0)|(go_at_call 98;refine(got_any g _ en sLp _ HP1.out).mono ?_;rw[hlp];simp only[Bool.false_eq_true,if_false];rintro e w2 ⟨rfl,h1,h2⟩;have HP2:=hide h1;have HG2:=hide (grown_trans HG1.out h2);have Hb2:=hide (Hb1.out.grown h2 (fun e=>hbg (Option.some.inj e)));have HB2:=hide (HB1.out.grown h2 (fun e=>hrg (Option.some.inj e)));clear hbc;have hbc:=Hb2.out.cell;have hrc:=HB2.out.cell;have hrf:=HB2.out.frozen;clear h1 h2 HP1));obtain⟨hset,hfin⟩:=fin_ex2 (.mk 3 [] nm [] 0 []) 3 ⟨#[]⟩ (str nm) ⟨#[]⟩ 0 none 0 0 HR.out rfl rfl rfl rfl rfl (Nat.le_succ _) HB2.out HG2.out HP2.out hgl (.nil _ _);simp only[World.setCells,Nat.zero_add,Nat.reduceAdd]at hset hfin;exact bodyPost_ret (v:= .agg #[.int .i64 3, .string ⟨#[]⟩, .string (str nm), .string ⟨#[]⟩, .int .i64 0, .slice none 0 0]) (by simp[results,results206,go_sem,hset]) rfl hfin
theorem index_err (f:Nat) (nm:List UInt8) (l:List Tok) (en:Int) (w:World) (g:Nat) (h:PA w g l en) (hEx:CExpr f) (hf:4*l.length+1<=f+1) (hls:isL sLs l=true) (q:List Tok) (n:Int) (hx:pExpr f 1 l.tail= .error (q,n)):Calls prog 206 #[.pointer (some ⟨g,0,none⟩), .string (str nm)] w (REx g en w (pNamed (f+1) nm l)):=by
 have HR1:=hide (show pNamed (f+1) nm l=(pExpr f 1 l.tail).then fun x r=>(wantL sRs r).then fun _ r=> .ok (.mk 4 [] nm [] 0 [x],r)from by rw[pNamed,if_pos hls]);have hf':4*l.tail.length+2<=f:=by have:=isL_tail hls;omega
 have HR:=hide (show pNamed (f+1) nm l= .error (q,n)from by rw[HR1.out,hx];rfl);obtain⟨hX0,hb0,hB0⟩:=box_world w (.pointer (some ⟨g,0,none⟩));have HX0:=hide hX0;have Hb0:=hide hb0;have HB0:=hide hB0;have HP0:=hide (h.ext hX0);have hbc:=hb0.cell;have hgl:=h.lt;have hbg:w.heap.size≠g:=by omega
 have hrg:w.heap.size+1≠g:=by omega
 have hgr:g≠w.heap.size+1:=by omega
 clear h hX0 hb0 hB0;go_enter func206,ntmps206;go_wp2_with (first|(go_at_call 98;refine(got_any g _ en sLs _ HP0.out).mono ?_;rw[hls];simp only[if_true];rintro e w1 ⟨rfl,h1,h2⟩;have HP1:=hide h1;have HG1:=hide (grown_trans (HX0.out.grownBy _) h2);have Hb1:=hide (Hb0.out.grown h2 (fun e=>hbg (Option.some.inj e)));have HB1:=hide (HB0.out.grown h2 (fun e=>hrg (Option.some.inj e)));clear hbc;have hbc:=Hb1.out.cell;have hrc:=HB1.out.cell;have hrf:=HB1.out.frozen;clear h1 h2 HP0)|(go_at_call 183;refine(hEx 1 _ en _ g HP1.out (by decide) (by decide) hf').mono ?_;intro e w5 hh;rw[hx]at hh;obtain⟨hG,rfl⟩:=hh;unfold wrongV;have HG5:=hide (grown_trans HG1.out hG);clear hG));exact⟨rfl,rex_err HR.out HG5.out⟩
theorem index_end (f:Nat) (nm:List UInt8) (l:List Tok) (en:Int) (w:World) (g:Nat) (h:PA w g l en) (hEx:CExpr f) (hf:4*l.length+1<=f+1) (hls:isL sLs l=true) (x:Ex) (q:List Tok) (hx:pExpr f 1 l.tail= .ok (x,q)) (hrs:isL sRs q=false):Calls prog 206 #[.pointer (some ⟨g,0,none⟩), .string (str nm)] w (REx g en w (pNamed (f+1) nm l)):=by
 have HR1:=hide (show pNamed (f+1) nm l=(pExpr f 1 l.tail).then fun x r=>(wantL sRs r).then fun _ r=> .ok (.mk 4 [] nm [] 0 [x],r)from by rw[pNamed,if_pos hls]);have hf':4*l.tail.length+2<=f:=by have:=isL_tail hls;omega
 have HR:=hide (show pNamed (f+1) nm l= .error (q,3)from by rw[HR1.out,hx];show(wantL sRs q).then (fun _ r=>(Except.ok (.mk 4 [] nm [] 0 [x],r):PR Ex))=_;unfold wantL;rw[hrs];rfl);obtain⟨hX0,hb0,hB0⟩:=box_world w (.pointer (some ⟨g,0,none⟩));have HX0:=hide hX0;have Hb0:=hide hb0;have HB0:=hide hB0;have HP0:=hide (h.ext hX0);have hbc:=hb0.cell;have hgl:=h.lt;have hbg:w.heap.size≠g:=by omega
 have hrg:w.heap.size+1≠g:=by omega
 have hgr:g≠w.heap.size+1:=by omega
 clear h hX0 hb0 hB0;go_enter func206,ntmps206;go_wp2_with (first|(go_at_call 98;refine(got_any g _ en sLs _ HP0.out).mono ?_;rw[hls];simp only[if_true];rintro e w1 ⟨rfl,h1,h2⟩;have HP1:=hide h1;have HG1:=hide (grown_trans (HX0.out.grownBy _) h2);have Hb1:=hide (Hb0.out.grown h2 (fun e=>hbg (Option.some.inj e)));have HB1:=hide (HB0.out.grown h2 (fun e=>hrg (Option.some.inj e)));clear hbc;have hbc:=Hb1.out.cell;have hrc:=HB1.out.cell;have hrf:=HB1.out.frozen;clear h1 h2 HP0)|(go_at_call 183;refine(hEx 1 _ en _ g HP1.out (by decide) (by decide) hf').mono ?_;intro e w5 hh;rw[hx]at hh;obtain⟨hG,A,n,c,rfl,hR,hPA⟩:=hh;have hz1:w.heap.size+2<=w1.heap.size:=HB1.out.lt;have hz5:=hG.size;have hE7:=(Ext.alloc w5 (.cells #[.int .i64 x.k, .string (str x.op), .string (str x.nm), .string (str x.tx), .int .i64 x.v, .slice A n c] 70)).alloc' (.cells #[.int .i64 4, .string ⟨#[]⟩, .string (str nm), .string ⟨#[]⟩, .int .i64 0, .slice (some ⟨w5.heap.size,0,none⟩) 1 1] 70);have HG5:=hide (grown_trans (grown_trans HG1.out hG) (hE7.grownBy (some g)));have Hb5:=hide ((Hb1.out.grown hG (fun e=>hbg (Option.some.inj e))).ext hE7);have HB5:=hide ((HB1.out.grown hG (fun e=>hrg (Option.some.inj e))).ext hE7);have HV5:=hide (Blk.new (w5.alloc (.cells #[.int .i64 x.k, .string (str x.op), .string (str x.nm), .string (str x.tx), .int .i64 x.v, .slice A n c] 70)) 70 #[.int .i64 4, .string ⟨#[]⟩, .string (str nm), .string ⟨#[]⟩, .int .i64 0, .slice (some ⟨w5.heap.size,0,none⟩) 1 1]);have hO1:=(Blk.new w5 70 #[.int .i64 x.k, .string (str x.op), .string (str x.nm), .string (str x.tx), .int .i64 x.v, .slice A n c]).alloc (.cells #[.int .i64 4, .string ⟨#[]⟩, .string (str nm), .string ⟨#[]⟩, .int .i64 0, .slice (some ⟨w5.heap.size,0,none⟩) 1 1] 70);have HRD5:=hide (RdE.one (P:=fun b=>w.heap.size+1<b) hO1 (by omega) (hR.keep (.of_ext hE7) (fun b hb _=>by omega)));have HP5:=hide (hPA.ext hE7);have hv5:(w5.alloc (.cells #[.int .i64 x.k, .string (str x.op), .string (str x.nm), .string (str x.tx), .int .i64 x.v, .slice A n c] 70)).heap.size≠g:=(by have:=hPA.lt;rw[World.size_alloc];omega);rw[World.size_alloc]at HV5 hv5;clear hbc;have hbc:=Hb5.out.cell;clear hG hR hPA hE7 hO1 HP1)|(go_at_call 100;refine(want_bad g _ en sRs _ HP5.out hrs).mono ?_;unfold wrongV;rintro e w6 ⟨rfl,hG⟩;have HG6:=hide (grown_trans HG5.out hG);clear hG));exact⟨rfl,rex_err HR.out HG6.out⟩
theorem index_ok (f:Nat) (nm:List UInt8) (l:List Tok) (en:Int) (w:World) (g:Nat) (h:PA w g l en) (hEx:CExpr f) (hf:4*l.length+1<=f+1) (hls:isL sLs l=true) (x:Ex) (q:List Tok) (hx:pExpr f 1 l.tail= .ok (x,q)) (hrs:isL sRs q=true):Calls prog 206 #[.pointer (some ⟨g,0,none⟩), .string (str nm)] w (REx g en w (pNamed (f+1) nm l)):=by
 have HR1:=hide (show pNamed (f+1) nm l=(pExpr f 1 l.tail).then fun x r=>(wantL sRs r).then fun _ r=> .ok (.mk 4 [] nm [] 0 [x],r)from by rw[pNamed,if_pos hls]);have hf':4*l.tail.length+2<=f:=by have:=isL_tail hls;omega
 have HR:=hide (show pNamed (f+1) nm l= .ok (.mk 4 [] nm [] 0 [x],q.tail)from by rw[HR1.out,hx];show(wantL sRs q).then (fun _ r=>(Except.ok (.mk 4 [] nm [] 0 [x],r):PR Ex))=_;unfold wantL;rw[hrs];rfl);obtain⟨hX0,hb0,hB0⟩:=box_world w (.pointer (some ⟨g,0,none⟩));have HX0:=hide hX0;have Hb0:=hide hb0;have HB0:=hide hB0;have HP0:=hide (h.ext hX0);have hbc:=hb0.cell;have hgl:=h.lt;have hbg:w.heap.size≠g:=by omega
 have hrg:w.heap.size+1≠g:=by omega
 have hgr:g≠w.heap.size+1:=by omega
 clear h hX0 hb0 hB0;go_enter func206,ntmps206;go_wp2_with (first|(go_at_call 98;refine(got_any g _ en sLs _ HP0.out).mono ?_;rw[hls];simp only[if_true];rintro e w1 ⟨rfl,h1,h2⟩;have HP1:=hide h1;have HG1:=hide (grown_trans (HX0.out.grownBy _) h2);have Hb1:=hide (Hb0.out.grown h2 (fun e=>hbg (Option.some.inj e)));have HB1:=hide (HB0.out.grown h2 (fun e=>hrg (Option.some.inj e)));clear hbc;have hbc:=Hb1.out.cell;have hrc:=HB1.out.cell;have hrf:=HB1.out.frozen;clear h1 h2 HP0)|(go_at_call 183;refine(hEx 1 _ en _ g HP1.out (by decide) (by decide) hf').mono ?_;intro e w5 hh;rw[hx]at hh;obtain⟨hG,A,n,c,rfl,hR,hPA⟩:=hh;have hz1:w.heap.size+2<=w1.heap.size:=HB1.out.lt;have hz5:=hG.size;have hE7:=(Ext.alloc w5 (.cells #[.int .i64 x.k, .string (str x.op), .string (str x.nm), .string (str x.tx), .int .i64 x.v, .slice A n c] 70)).alloc' (.cells #[.int .i64 4, .string ⟨#[]⟩, .string (str nm), .string ⟨#[]⟩, .int .i64 0, .slice (some ⟨w5.heap.size,0,none⟩) 1 1] 70);have HG5:=hide (grown_trans (grown_trans HG1.out hG) (hE7.grownBy (some g)));have Hb5:=hide ((Hb1.out.grown hG (fun e=>hbg (Option.some.inj e))).ext hE7);have HB5:=hide ((HB1.out.grown hG (fun e=>hrg (Option.some.inj e))).ext hE7);have HV5:=hide (Blk.new (w5.alloc (.cells #[.int .i64 x.k, .string (str x.op), .string (str x.nm), .string (str x.tx), .int .i64 x.v, .slice A n c] 70)) 70 #[.int .i64 4, .string ⟨#[]⟩, .string (str nm), .string ⟨#[]⟩, .int .i64 0, .slice (some ⟨w5.heap.size,0,none⟩) 1 1]);have hO1:=(Blk.new w5 70 #[.int .i64 x.k, .string (str x.op), .string (str x.nm), .string (str x.tx), .int .i64 x.v, .slice A n c]).alloc (.cells #[.int .i64 4, .string ⟨#[]⟩, .string (str nm), .string ⟨#[]⟩, .int .i64 0, .slice (some ⟨w5.heap.size,0,none⟩) 1 1] 70);have HRD5:=hide (RdE.one (P:=fun b=>w.heap.size+1<b) hO1 (by omega) (hR.keep (.of_ext hE7) (fun b hb _=>by omega)));have HP5:=hide (hPA.ext hE7);have hv5:(w5.alloc (.cells #[.int .i64 x.k, .string (str x.op), .string (str x.nm), .string (str x.tx), .int .i64 x.v, .slice A n c] 70)).heap.size≠g:=(by have:=hPA.lt;rw[World.size_alloc];omega);rw[World.size_alloc]at HV5 hv5;clear hbc;have hbc:=Hb5.out.cell;clear hG hR hPA hE7 hO1 HP1)|(go_at_call 100;refine(want_ok g _ en sRs _ HP5.out hrs).mono ?_;rintro e w6 ⟨rfl,h1,h2⟩;have HP6:=hide h1;have HG6:=hide (grown_trans HG5.out h2);have HB6:=hide (HB5.out.grown h2 (fun e=>hrg (Option.some.inj e)));have HV6:=hide (HV5.out.grown h2 (fun e=>hv5 (Option.some.inj e)));have HRD6:=hide (HRD5.out.keep (.of_grown h2 fun b hb e=>by injection e with e;omega) (fun b hb _=>hb));clear hrc hrf;have hrc:=HB6.out.cell;have hrf:=HB6.out.frozen;have hvc:=HV6.out.cell;clear h1 h2 HP5));obtain⟨hset,hfin⟩:=fin_ex2 (.mk 4 [] nm [] 0 [x]) 4 ⟨#[]⟩ (str nm) ⟨#[]⟩ 0 (some ⟨w5.heap.size,0,none⟩) 1 1 HR.out rfl rfl rfl rfl rfl (Nat.le_succ _) HB6.out HG6.out HP6.out hgl HRD6.out;simp only[World.setCells,Nat.zero_add,Nat.reduceAdd]at hset hfin;exact bodyPost_ret (v:= .agg #[.int .i64 4, .string ⟨#[]⟩, .string (str nm), .string ⟨#[]⟩, .int .i64 0, .slice (some ⟨w5.heap.size,0,none⟩) 1 1]) (by simp[results,results206,go_sem,hset]) rfl hfin
theorem call_err (f:Nat) (nm:List UInt8) (l:List Tok) (en:Int) (w:World) (g:Nat) (h:PA w g l en) (hEs: ∀i,i<=f->CExpr i) (hff:f<=400000) (hf:4*l.length+1<=f+1) (hls:isL sLs l=false) (hlp:isL sLp l=true) (q:List Tok) (n:Int) (hx:pArgs f l.tail= .error (q,n)):Calls prog 206 #[.pointer (some ⟨g,0,none⟩), .string (str nm)] w (REx g en w (pNamed (f+1) nm l)):=by
 obtain⟨f,rfl⟩: ∃f',f=f'+1:=⟨f-1,by have:=isL_tail hlp;omega⟩
 have HR1:=hide (show pNamed (f+1+1) nm l=(pArgs (f+1) l.tail).then fun a r=> .ok (.mk 5 [] nm [] 0 a,r)from by rw[pNamed,if_neg (by rw[hls];simp),if_pos hlp]);have hf':4*l.tail.length+4<=f+1:=by have:=isL_tail hlp;omega
 have hmf: ∀(fn:Fn) (first cap:Array Value) (w:World),(Instr.makeFunc fn first cap).run prog w= .ok (.func fn first cap) w:=fun _ _ _ _=>rfl;have HR:=hide (show pNamed (f+1+1) nm l= .error (q,n)from by rw[HR1.out,hx];rfl);obtain⟨hX0,hb0,hB0⟩:=box_world w (.pointer (some ⟨g,0,none⟩));have HX0:=hide hX0;have Hb0:=hide hb0;have HB0:=hide hB0;have HP0:=hide (h.ext hX0);have hbc:=hb0.cell;have hgl:=h.lt;have hbg:w.heap.size≠g:=by omega
 have hrg:w.heap.size+1≠g:=by omega
 have hgr:g≠w.heap.size+1:=by omega
 clear h hX0 hb0 hB0;go_enter func206,ntmps206;go_wp2_with (first|(go_at_call 98;refine(got_any g _ en sLs _ HP0.out).mono ?_;rw[hls];simp only[Bool.false_eq_true,if_false];rintro e w1 ⟨rfl,h1,h2⟩;have HP1:=hide h1;have HG1:=hide (grown_trans (HX0.out.grownBy _) h2);have Hb1:=hide (Hb0.out.grown h2 (fun e=>hbg (Option.some.inj e)));have HB1:=hide (HB0.out.grown h2 (fun e=>hrg (Option.some.inj e)));clear hbc;have hbc:=Hb1.out.cell;have hrc:=HB1.out.cell;have hrf:=HB1.out.frozen;clear h1 h2 HP0)|(go_at_call 98;refine(got_any g _ en sLp _ HP1.out).mono ?_;rw[hlp];simp only[if_true];rintro e w2 ⟨rfl,h1,h2⟩;have HP2:=hide h1;have HG2:=hide (grown_trans HG1.out h2);have Hb2:=hide (Hb1.out.grown h2 (fun e=>hbg (Option.some.inj e)));have HB2:=hide (HB1.out.grown h2 (fun e=>hrg (Option.some.inj e)));clear hbc;have hbc:=Hb2.out.cell;have hrc:=HB2.out.cell;have hrf:=HB2.out.frozen;clear h1 h2 HP1;have HL:=hide (list_args f (fun i hi=>hEs i (by omega)) (w2.heap.size+1) g w2.heap.size w.heap.size nm l.tail en (w2.alloc (.cells #[.int .i64 5, .string ⟨#[]⟩, .string (str nm), .string ⟨#[]⟩, .int .i64 0, .slice none 0 0] 70)) (HP2.out.ext (Ext.alloc w2 _)) (Hb2.out.alloc _) (Blk.new w2 _ _) (by rw[World.size_alloc];exact Nat.le_refl _) (by have:=HP2.out.lt;omega) (by omega) (by have:=Hb2.out.lt;omega) (by omega) (by have:=Hb2.out.lt;omega) hf' (by omega));have HB3:=hide (HB2.out.alloc (.cells #[.int .i64 5, .string ⟨#[]⟩, .string (str nm), .string ⟨#[]⟩, .int .i64 0, .slice none 0 0] 70));have Hb3:=hide (Hb2.out.alloc (.cells #[.int .i64 5, .string ⟨#[]⟩, .string (str nm), .string ⟨#[]⟩, .int .i64 0, .slice none 0 0] 70));have hz2:w.heap.size+2<=w2.heap.size:=HB2.out.lt;have HG3:=hide (grown_trans HG2.out ((Ext.alloc w2 (.cells #[.int .i64 5, .string ⟨#[]⟩, .string (str nm), .string ⟨#[]⟩, .int .i64 0, .slice none 0 0] 70)).grownBy (some g)));clear hbc;have hbc:=Hb3.out.cell)|(go_at_call 102;refine HL.out.mono ?_;intro e w5 hh;rw[hx]at hh;obtain⟨hF,rfl⟩:=hh;unfold wrongV;have HG5:=hide (Fr.grown HG3.out hF (by omega) (by omega));clear hF));exact⟨rfl,rex_err HR.out HG5.out⟩
theorem call_ok (f:Nat) (nm:List UInt8) (l:List Tok) (en:Int) (w:World) (g:Nat) (h:PA w g l en) (hEs: ∀i,i<=f->CExpr i) (hff:f<=400000) (hf:4*l.length+1<=f+1) (hls:isL sLs l=false) (hlp:isL sLp l=true) (a:List Ex) (q:List Tok) (hx:pArgs f l.tail= .ok (a,q)):Calls prog 206 #[.pointer (some ⟨g,0,none⟩), .string (str nm)] w (REx g en w (pNamed (f+1) nm l)):=by
 obtain⟨f,rfl⟩: ∃f',f=f'+1:=⟨f-1,by have:=isL_tail hlp;omega⟩
 have HR1:=hide (show pNamed (f+1+1) nm l=(pArgs (f+1) l.tail).then fun a r=> .ok (.mk 5 [] nm [] 0 a,r)from by rw[pNamed,if_neg (by rw[hls];simp),if_pos hlp]);have hf':4*l.tail.length+4<=f+1:=by have:=isL_tail hlp;omega
 have hmf: ∀(fn:Fn) (first cap:Array Value) (w:World),(Instr.makeFunc fn first cap).run prog w= .ok (.func fn first cap) w:=fun _ _ _ _=>rfl;have HR:=hide (show pNamed (f+1+1) nm l= .ok (.mk 5 [] nm [] 0 a,q)from by rw[HR1.out,hx];rfl);obtain⟨hX0,hb0,hB0⟩:=box_world w (.pointer (some ⟨g,0,none⟩));have HX0:=hide hX0;have Hb0:=hide hb0;have HB0:=hide hB0;have HP0:=hide (h.ext hX0);have hbc:=hb0.cell;have hgl:=h.lt;have hbg:w.heap.size≠g:=by omega
 have hrg:w.heap.size+1≠g:=by omega
 have hgr:g≠w.heap.size+1:=by omega
 clear h hX0 hb0 hB0;go_enter func206,ntmps206;go_wp2_with (first|(go_at_call 98;refine(got_any g _ en sLs _ HP0.out).mono ?_;rw[hls];simp only[Bool.false_eq_true,if_false];rintro e w1 ⟨rfl,h1,h2⟩;have HP1:=hide h1;have HG1:=hide (grown_trans (HX0.out.grownBy _) h2);have Hb1:=hide (Hb0.out.grown h2 (fun e=>hbg (Option.some.inj e)));have HB1:=hide (HB0.out.grown h2 (fun e=>hrg (Option.some.inj e)));clear hbc;have hbc:=Hb1.out.cell;have hrc:=HB1.out.cell;have hrf:=HB1.out.frozen;clear h1 h2 HP0)|(go_at_call 98;refine(got_any g _ en sLp _ HP1.out).mono ?_;rw[hlp];simp only[if_true];rintro e w2 ⟨rfl,h1,h2⟩;have HP2:=hide h1;have HG2:=hide (grown_trans HG1.out h2);have Hb2:=hide (Hb1.out.grown h2 (fun e=>hbg (Option.some.inj e)));have HB2:=hide (HB1.out.grown h2 (fun e=>hrg (Option.some.inj e)));clear hbc;have hbc:=Hb2.out.cell;have hrc:=HB2.out.cell;have hrf:=HB2.out.frozen;clear h1 h2 HP1;have HL:=hide (list_args f (fun i hi=>hEs i (by omega)) (w2.heap.size+1) g w2.heap.size w.heap.size nm l.tail en (w2.alloc (.cells #[.int .i64 5, .string ⟨#[]⟩, .string (str nm), .string ⟨#[]⟩, .int .i64 0, .slice none 0 0] 70)) (HP2.out.ext (Ext.alloc w2 _)) (Hb2.out.alloc _) (Blk.new w2 _ _) (by rw[World.size_alloc];exact Nat.le_refl _) (by have:=HP2.out.lt;omega) (by omega) (by have:=Hb2.out.lt;omega) (by omega) (by have:=Hb2.out.lt;omega) hf' (by omega));have HB3:=hide (HB2.out.alloc (.cells #[.int .i64 5, .string ⟨#[]⟩, .string (str nm), .string ⟨#[]⟩, .int .i64 0, .slice none 0 0] 70));have Hb3:=hide (Hb2.out.alloc (.cells #[.int .i64 5, .string ⟨#[]⟩, .string (str nm), .string ⟨#[]⟩, .int .i64 0, .slice none 0 0] 70));have hz2:w.heap.size+2<=w2.heap.size:=HB2.out.lt;have HG3:=hide (grown_trans HG2.out ((Ext.alloc w2 (.cells #[.int .i64 5, .string ⟨#[]⟩, .string (str nm), .string ⟨#[]⟩, .int .i64 0, .slice none 0 0] 70)).grownBy (some g)));clear hbc;have hbc:=Hb3.out.cell)|(go_at_call 102;refine HL.out.mono ?_;intro e w5 hh;rw[hx]at hh;obtain⟨hF,rfl,hPA,C,n,cap,hX,hR⟩:=hh;have HG5:=hide (Fr.grown HG3.out hF (by omega) (by omega));have HP5:=hide hPA;have HRD5:=hide (hR.mono (Q:=fun b=>w.heap.size+1<b) (fun b hb _=>by omega));have HV5:=hide hX;have HB5:=hide (hF.blk HB3.out (by omega) hrg (by omega));clear hrc hrf;have hrc:=HB5.out.cell;have hrf:=HB5.out.frozen;have hvc:=HV5.out.cell;clear hF hPA hX hR));obtain⟨hset,hfin⟩:=fin_ex2 (.mk 5 [] nm [] 0 a) 5 ⟨#[]⟩ (str nm) ⟨#[]⟩ 0 C n cap HR.out rfl rfl rfl rfl rfl (Nat.le_succ _) HB5.out HG5.out HP5.out hgl HRD5.out;simp only[World.setCells,Nat.zero_add,Nat.reduceAdd]at hset hfin;exact bodyPost_ret (v:= .agg #[.int .i64 5, .string ⟨#[]⟩, .string (str nm), .string ⟨#[]⟩, .int .i64 0, .slice C n cap]) (by simp[results,results206,go_sem,hset]) rfl hfin
theorem named_step (f:Nat) (hff:f<=400000) (hEs: ∀i,i<=f->CExpr i):CNamed (f+1):=by
 intro nm l en w g h hf
 cases hls:isL sLs l with
 |true=>
  cases hx:pExpr f 1 l.tail with
  |error p=>exact index_err f nm l en w g h (hEs f (Nat.le_refl _)) hf hls p.1 p.2 hx
  |ok p=>
   cases hrs:isL sRs p.2 with
   |false=>exact index_end f nm l en w g h (hEs f (Nat.le_refl _)) hf hls p.1 p.2 hx hrs
   |true=>exact index_ok f nm l en w g h (hEs f (Nat.le_refl _)) hf hls p.1 p.2 hx hrs
 |false=>
  cases hlp:isL sLp l with
  |false=>exact named_name f nm l en w g h hls hlp
  |true=>
   cases hx:pArgs f l.tail with
   |error p=>exact call_err f nm l en w g h hEs hff hf hls hlp p.1 p.2 hx
   |ok p=>exact call_ok f nm l en w g h hEs hff hf hls hlp p.1 p.2 hx
end Go.Proofs.YtddomeddabfinaaGreatDoor
namespace Go.Proofs.YtddomeddabfinaaGreatDoor
open Go.Proofs.Tryz
open Go.RowKit
theorem expr_step (f:Nat) (hP:CPrim f) (hEs: ∀i,i<=f->CExpr i):CExpr (f+1):=by
 intro n0 l en w g h hn1 hn7 hf;have HX0:=hide (Ext.alloc w (.cells #[.int .i64 0, .string ⟨#[]⟩, .string ⟨#[]⟩, .string ⟨#[]⟩, .int .i64 0, .slice none 0 0] 70));have HB0:=hide (Blk.new w 70 #[.int .i64 0, .string ⟨#[]⟩, .string ⟨#[]⟩, .string ⟨#[]⟩, .int .i64 0, .slice none 0 0]);have HP0:=hide (h.ext HX0.out);have hgl:=h.lt;have hrg:w.heap.size≠g:=by omega
 have hgr:g≠w.heap.size:=by omega
 have hfp:4*l.length+1<=f:=by omega
 have HRL:=hide (show pExpr (f+1) n0 l=(pPrim f l).then fun x r=>pLoop f n0 x r from by rw[pExpr]);clear h hf;go_enter func183,ntmps183
 cases hp0:pPrim f l with
 |error p=>
  obtain⟨q,er⟩:=p;have HR:=hide (show pExpr (f+1) n0 l= .error (q,er)from by rw[HRL.out,hp0];rfl);go_wp2_with (go_at_call 205;refine(hP l en _ g HP0.out hfp).mono ?_;intro e w1 hh;rw[hp0]at hh;obtain⟨hG,rfl⟩:=hh;unfold wrongV;have HG1:=hide (grown_trans (HX0.out.grownBy _) hG);clear hG);exact⟨rfl,rex_err HR.out HG1.out⟩
 |ok p=>
  obtain⟨x0,q0⟩:=p;have hq0:=(expr_lt f).2.2.1 _ _ _ hp0;have HR0:=hide (show pLoop f n0 x0 q0=pExpr (f+1) n0 l from by rw[HRL.out,hp0];rfl);clear HRL;go_wp2_with (go_at_call 205;refine(hP l en _ g HP0.out hfp).mono ?_;intro e w1 hh;rw[hp0]at hh;obtain⟨hG,A0,n1,c0,rfl,hR,hPA⟩:=hh;have hz1:=hG.size;rw[World.size_alloc]at hz1;have hE:=Ext.alloc w1 (.cells #[.int .i64 x0.k, .string (str x0.op), .string (str x0.nm), .string (str x0.tx), .int .i64 x0.v, .slice A0 n1 c0] 70);have HG1:=hide (grown_trans (grown_trans (HX0.out.grownBy (some g)) hG) (hE.grownBy (some g)));have HB1:=hide ((HB0.out.grown hG (fun e=>hrg (Option.some.inj e))).ext hE);have HV1:=hide (Blk.new w1 70 #[.int .i64 x0.k, .string (str x0.op), .string (str x0.nm), .string (str x0.tx), .int .i64 x0.v, .slice A0 n1 c0]);have HRD1:=hide (hR.keep (.of_ext hE) (Q:=fun b=>w.heap.size<b/\b≠w1.heap.size) (fun b hb hlt=>⟨by rw[World.size_alloc]at hb;omega,by omega⟩));have HP1:=hide (hPA.ext hE);have hv1:w1.heap.size≠g:=(by have:=hPA.lt;omega);clear hG hR hPA hE);have hpr:w.heap.size<w1.heap.size:=by omega
  have hprn:w.heap.size≠w1.heap.size:=by omega
  have hprn2:w1.heap.size≠w.heap.size:=by omega
  have hgv:g≠w1.heap.size:=fun e=>hv1 e.symm;clear HX0 HB0 HP0
  go_loopw [] (fun wr=> ∃(k:Nat) (x:Ex) (A:Option Addr) (n c:Nat) (r:List Tok),4*r.length+1<=k/\k<=f/\Hid (pLoop k n0 x r=pExpr (f+1) n0 l)/\Hid (PA wr g r en)/\Hid (Blk wr w1.heap.size 70 #[.int .i64 x.k, .string (str x.op), .string (str x.nm), .string (str x.tx), .int .i64 x.v, .slice A n c])/\Hid (RdE wr (fun b=>w.heap.size<b/\b≠w1.heap.size) (.slice A n c) x.args)/\Hid (Blk wr w.heap.size 70 #[.int .i64 0, .string ⟨#[]⟩, .string ⟨#[]⟩, .string ⟨#[]⟩, .int .i64 0, .slice none 0 0])/\Hid (w.grownBy wr (some g))) (fun wr=>tokN g wr)
  case atStart=>exact⟨f,x0,A0,n1,c0,q0,by omega,Nat.le_refl _,HR0,HP1,HV1,HRD1,HB1,HG1⟩
  case round=>
   clear HR0 HP1 HV1 HRD1 HB1 HG1;obtain⟨k,x,A,n,c,r,hk,hkf,HRes,HPr,HVr,HRr,HBr,HGr⟩:=hrel;obtain⟨k,rfl⟩: ∃k',k=k'+1:=⟨k-1,by omega⟩
   have HN:=hide (next_any g r en wr HPr.out);have HSt:=hide (show pLoop (k+1) n0 x r=if(hdT r).k=5/\n0<=lev (hdT r).t then(pExpr k (lev (hdT r).t+1) r.tail).then fun y q=>pLoop k n0 (.mk 7 (hdT r).t [] [] 0 [x,y]) q else .ok (x,r)from by rw[pLoop]);by_cases hgo:(hdT r).k=5/\n0<=lev (hdT r).t
   rotate_left
   ·have HR:=hide (show pExpr (f+1) n0 l= .ok (x,r)from by rw[<-HRes.out,HSt.out,if_neg hgo]);clear HSt HRes;generalize hdT r=t at*;obtain⟨tk,tt,tv,tf⟩:=t;simp only at hgo HN;have HLV:=hide (level_any tt);generalize lev tt=L at*;by_cases h5:tk=5
    ·have hlt:L<n0:=by omega
     obtain rfl:tk=5:=h5;clear hgo;go_wp2_with (first|(go_at_call 146;refine HN.out.mono ?_;rintro e w2 ⟨rfl,hE⟩;have hz2:=Ext.size hE;have hE2:=hE.alloc' (.cells #[.int .i64 5, .string (str tt), .int .i64 tv, .int .i64 tf] 206);have HG3:=hide (grown_trans HGr.out (hE2.grownBy (some g)));have HB3:=hide (HBr.out.ext hE2);have HV3:=hide (HVr.out.ext hE2);have HT3:=hide (Blk.new w2 206 #[.int .i64 5, .string (str tt), .int .i64 tv, .int .i64 tf]);have HR3:=hide (HRr.out.keep (.of_ext hE2) (fun _ hb _=>hb));have HP3:=hide (HPr.out.ext hE2);have hvc:=HV3.out.cell;have hrc:=HB3.out.cell;have hrf:=HB3.out.frozen;clear hE hE2 HN)|(go_at_call 153;refine(HLV.out _).mono ?_;rintro e w3 ⟨rfl,rfl⟩;clear HLV));obtain⟨hset,hfin⟩:=fin_ex x x.k (str x.op) (str x.nm) (str x.tx) x.v A n c HR.out rfl rfl rfl rfl rfl rfl HB3.out HG3.out HP3.out hgl (HR3.out.mono fun b hb _=>by omega);simp only[World.setCells,Nat.zero_add,Nat.reduceAdd]at hset hfin;change bodyPost prog Tryz.f183 _ Exit.ret _ _;exact bodyPost_ret (v:= .agg #[.int .i64 x.k, .string (str x.op), .string (str x.nm), .string (str x.tx), .int .i64 x.v, .slice A n c]) (by simp[results,results183,go_sem,hset]) rfl hfin
    ·have hb5:(tk==5)=false:=beq_eq_false_iff_ne.2 h5;have hb5n:(tk !=5)=true:=by rw[bne,hb5];rfl
     clear hgo;go_wp2_with (first|(go_at_call 146;refine HN.out.mono ?_;rintro e w2 ⟨rfl,hE⟩;have hz2:=Ext.size hE;have hE2:=hE.alloc' (.cells #[.int .i64 tk, .string (str tt), .int .i64 tv, .int .i64 tf] 206);have HG3:=hide (grown_trans HGr.out (hE2.grownBy (some g)));have HB3:=hide (HBr.out.ext hE2);have HV3:=hide (HVr.out.ext hE2);have HT3:=hide (Blk.new w2 206 #[.int .i64 tk, .string (str tt), .int .i64 tv, .int .i64 tf]);have HR3:=hide (HRr.out.keep (.of_ext hE2) (fun _ hb _=>hb));have HP3:=hide (HPr.out.ext hE2);have hvc:=HV3.out.cell;have hrc:=HB3.out.cell;have hrf:=HB3.out.frozen;clear hE hE2 HN)|(go_at_call 153;refine(HLV.out _).mono ?_;rintro e w3 ⟨rfl,rfl⟩;clear HLV));obtain⟨hset,hfin⟩:=fin_ex x x.k (str x.op) (str x.nm) (str x.tx) x.v A n c HR.out rfl rfl rfl rfl rfl rfl HB3.out HG3.out HP3.out hgl (HR3.out.mono fun b hb _=>by omega);simp only[World.setCells,Nat.zero_add,Nat.reduceAdd]at hset hfin;change bodyPost prog Tryz.f183 _ Exit.ret _ _;exact bodyPost_ret (v:= .agg #[.int .i64 x.k, .string (str x.op), .string (str x.nm), .string (str x.tx), .int .i64 x.v, .slice A n c]) (by simp[results,results183,go_sem,hset]) rfl hfin
   ·obtain⟨h5,hle⟩:=hgo;obtain⟨⟨tk,tt,tv,tf⟩,q,rfl⟩:=hd_cons h5 (by decide);have HS2:=hide (show pExpr (f+1) n0 l=(pExpr k (lev tt+1) q).then fun y r=>pLoop k n0 (.mk 7 tt [] [] 0 [x,y]) r from by rw[<-HRes.out,HSt.out,if_pos ⟨h5,hle⟩];rfl);clear HSt HRes;simp only[hdT]at h5 hle HN;obtain rfl:tk=5:=h5;have HLV:=hide (level_any tt);have hL:=lev_le tt;have hfq:4*q.length+2<=k:=by simp only[List.length_cons]at hk;omega
    generalize hLe:lev tt=L at*;have hlt: ¬L<n0:=by omega
    have hw:wrap64 (L+1)=L+1:=by simp only[wrap64];omega
    have hw2:IntKind.i64.wrap (L+1)=L+1:=by simp[IntKind.wrap,IntKind.signed,IntKind.bits];omega
    clear hLe;go_wp2_with (first|(go_at_call 146;refine HN.out.mono ?_;rintro e w2 ⟨rfl,hE⟩;have hz2:=Ext.size hE;have hE2:=hE.alloc' (.cells #[.int .i64 5, .string (str tt), .int .i64 tv, .int .i64 tf] 206);have HG3:=hide (grown_trans HGr.out (hE2.grownBy (some g)));have HB3:=hide (HBr.out.ext hE2);have HV3:=hide (HVr.out.ext hE2);have HT3:=hide (Blk.new w2 206 #[.int .i64 5, .string (str tt), .int .i64 tv, .int .i64 tf]);have HR3:=hide (HRr.out.keep (.of_ext hE2) (fun _ hb _=>hb));have HP3:=hide (HPr.out.ext hE2);have hvc:=HV3.out.cell;have hrc:=HB3.out.cell;have hrf:=HB3.out.frozen;clear hE hE2 HN;obtain⟨A3,c3,hb,ht,hn⟩:=HP3.out;obtain⟨b,off,rfl,hlt2,_⟩:=ht.at_ 0 (by simp);have hbc:=hb.cell;have hbf:=hb.frozen)|(go_at_call 153;refine(HLV.out _).mono ?_;rintro e w3 ⟨rfl,rfl⟩;clear HLV));all_goals
     first|have hq:=PA.next_a hb ht (hn b off rfl (by simp)) hlt2 (by assumption)|have hq:=PA.next_b hb ht (hn b off rfl (by simp)) hlt2 (by assumption)
     obtain⟨h1,h2⟩:=hq;have htg:w2.heap.size≠g:=by have:=HPr.out.lt;omega
     have HG5:=hide (grown_trans HG3.out h2);have HB5:=hide (HB3.out.grown h2 (fun e=>hrg (Option.some.inj e)));have HV5:=hide (HV3.out.grown h2 (fun e=>hv1 (Option.some.inj e)));have HT5:=hide (HT3.out.grown h2 (fun e=>htg (Option.some.inj e)));have HR5:=hide (HR3.out.keep (.of_grown h2 fun b hb e=>by injection e with e;omega) (fun b hb _=>hb));have HP5:=hide h1;clear hb ht hn hlt2 hbc hbf hvc hrc hrf h2 h1;generalize World.setCell _ _ _=w5 at*;have hg5:g<w5.heap.size:=HP5.out.lt;have hz5:w.heap.size<w5.heap.size:=HB5.out.lt;have hv5:w1.heap.size<w5.heap.size:=HV5.out.lt
     cases hpe:pExpr k (L+1) q with
     |error p=>
      obtain⟨q1,er⟩:=p;have HR:=hide (show pExpr (f+1) n0 l= .error (q1,er)from by rw[HS2.out,hpe];rfl);refine wp_region_app 9 7 [(6,fun v=>v= .agg #[.int .i64 0, .string ⟨#[]⟩, .string ⟨#[]⟩, .string ⟨#[]⟩, .int .i64 0, .slice none 0 0],fun _ _=>False),(7,fun v=> ∃gb,v= .slice (some ⟨gb,0,none⟩) 2 2,fun _ _=>True)] 6 (some g) mixed (by kernel_rfl) ⟨fun _ _ _ h _=>h,fun _ _ _ h _=>h,trivial⟩ ⟨.inl rfl, .inr fun _ _ _ h _=>h,trivial⟩ ?_;repeat (refine sx ?_ (fun w1 hU=> ?_) ?_;rotate_left;(focus have f1:=(HT5.out.grown (grown_un hU) (fun e=>htg (Option.some.inj e))).cell;have f2:=(HV5.out.grown (grown_un hU) (fun e=>hv1 (Option.some.inj e))).cell;clear hU;go_simp<;>with_reducible rfl);simp only[pq0,pq1,pq2,pq3,pq4])
      refine seq_late _ _ (by rfl) rfl ⟨_,rfl⟩ rfl (fun w6 hT hp K hK=> ?_) ?_
      ·clear hp;have hc:=hEs k (by omega) (L+1) q en w6 g (HP5.out.ext hT.un) (by omega) (by omega) hfq;have HT6:=hide hT.un;clear hT;go_simp;refine hc.mono ?_;intro e w7 hh;rw[hpe]at hh;obtain⟨hG,rfl⟩:=hh;unfold wrongV;intro a' hd;exact⟨hd,rex_err HR.out (grown_trans HG5.out (grown_trans (HT6.out.grownBy _) hG))⟩
      rintro _ rfl;simp only[pq0,pq1,pq2,pq3,pq4];refine seq_opaque _ _ (by rfl) rfl ⟨_,0,rfl⟩ (by simp) (fun w6 hU hp K hK=> ?_) ?_
      ·clear hp;go_simp;exact hK _ _ (Ext.alloc w6 _) ⟨_,rfl⟩ trivial
      rintro _ ⟨gb,rfl⟩;simp only[pq0,pq1,pq2,pq3,pq4];repeat (refine sx ?_ (fun w1 hU=> ?_) ?_;rotate_left;(focus go_simp<;>with_reducible rfl);simp only[pq0,pq1,pq2,pq3,pq4])
      intro w6 hw6 hp;exact(hp _ (.tail _ (.head _))).elim
     |ok p=>
      obtain⟨y,q1⟩:=p;have hq1:=(expr_lt k).1 _ _ _ _ hpe;have HRN:=hide (show pLoop k n0 (.mk 7 tt [] [] 0 [x,y]) q1=pExpr (f+1) n0 l from by rw[HS2.out,hpe];rfl)
      refine wp_region_app 9 7 [(6,fun v=> ∃A n c,v= .agg #[.int .i64 y.k, .string (str y.op), .string (str y.nm), .string (str y.tx), .int .i64 y.v, .slice A n c],fun v wx=> ∀A n c,v= .agg #[.int .i64 y.k, .string (str y.op), .string (str y.nm), .string (str y.tx), .int .i64 y.v, .slice A n c]->RdE wx (fun b=>w5.heap.size<=b) (.slice A n c) y.args/\PA wx g q1 en),
        (7,fun v=> ∃gb,v= .slice (some ⟨gb,0,none⟩) 2 2,fun v wx=>RdE wx (fun b=>w.heap.size<b/\b≠w1.heap.size) v [x,y])] 6 (some g) mixed (by kernel_rfl)
       ⟨fun _ _ _ h hx A n c e=>⟨(h A n c e).1.keep (.of_ext hx) (fun _ hb _=>hb),(h A n c e).2.ext hx⟩,fun _ _ _ h hx=>h.keep (.of_ext hx) (fun _ hb _=>hb),trivial⟩
       ⟨.inl rfl, .inr fun _ _ _ h hx=>h.keep (.of_grown hx fun b hb e=>by injection e with e;omega) (fun _ hb _=>hb),trivial⟩ ?_
      repeat (refine sx ?_ (fun w1 hU=> ?_) ?_;rotate_left;(focus have f1:=(HT5.out.grown (grown_un hU) (fun e=>htg (Option.some.inj e))).cell;have f2:=(HV5.out.grown (grown_un hU) (fun e=>hv1 (Option.some.inj e))).cell;clear hU;go_simp<;>with_reducible rfl);simp only[pq0,pq1,pq2,pq3,pq4])
      refine seq_late _ _ (by rfl) rfl ⟨_,none,0,0,rfl⟩ rfl (fun w6 hT hp K hK=> ?_) ?_
      ·clear hp;have hc:=hEs k (by omega) (L+1) q en w6 g (HP5.out.ext hT.un) (by omega) (by omega) hfq;have HT6:=hide hT.un;clear hT;go_simp;refine hc.mono ?_;intro e w7 hh;rw[hpe]at hh;obtain⟨hG,A,n,c,rfl,hR,hPA⟩:=hh;exact hK _ _ hG ⟨_,_,_,rfl⟩ (fun A' n' c' e=>by injection e with e;simp only[Array.mk.injEq,List.cons.injEq,Value.slice.injEq,and_true,true_and]at e;obtain⟨rfl,rfl,rfl⟩:=e;exact⟨hR.mono (fun b hb _=>Nat.le_trans (Ext.size HT6.out) hb),hPA⟩)
      rintro _ ⟨A2,n2,c2,rfl⟩;simp only[pq0,pq1,pq2,pq3,pq4];refine seq_opaque _ _ (by rfl) rfl ⟨_,0,rfl⟩ (by simp) (fun w6 hU hp K hK=> ?_) ?_
      ·have h3:=(hp _ (.head _) (by kernel_rfl)) A2 n2 c2 rfl;have hU':=grown_un hU;have hz6:=hU'.size;have hr6:=HR5.out.keep (.of_grown hU' fun b hb e=>by injection e with e;omega) (fun b hb _=>hb);clear hp hU;go_simp;exact hK _ _ (Ext.alloc w6 _) ⟨_,rfl⟩ (RdE.two (Blk.new w6 _ _) ⟨by omega,by omega⟩ (hr6.keep (.of_ext (Ext.alloc w6 _)) (fun _ hb _=>hb)) (h3.1.keep (.of_ext (Ext.alloc w6 _)) (fun b hb _=>⟨by omega,by omega⟩)))
      rintro _ ⟨gb,rfl⟩;simp only[pq0,pq1,pq2,pq3,pq4];repeat (refine sx ?_ (fun w1 hU=> ?_) ?_;rotate_left;(focus go_simp<;>with_reducible rfl);simp only[pq0,pq1,pq2,pq3,pq4])
      intro w8 hw8 hp;have h4:=hp _ (.head _);have h3:=(hp _ (.tail _ (.head _)) A2 n2 c2 rfl).2;clear hp;simp only[List.drop_succ_cons,List.drop_zero];have hw8:=grown_un hw8;have hV8:=HV5.out.grown hw8 (fun e=>hv1 (Option.some.inj e));have hc9:=grown_cells w1.heap.size [.int .i64 7, .string (str tt), .string ⟨#[]⟩, .string ⟨#[]⟩, .int .i64 0, .slice (some ⟨gb,0,none⟩) 2 2] 0 w8;have hG9:=grown_new (grown_trans HG5.out hw8) hc9 (Nat.le_of_lt hpr);have hV9:=Blk.put6 hV8 (.int .i64 7) (.string (str tt)) (.string ⟨#[]⟩) (.string ⟨#[]⟩) (.int .i64 0) (.slice (some ⟨gb,0,none⟩) 2 2);have hB9:=(HB5.out.grown hw8 (fun e=>hrg (Option.some.inj e))).grown hc9 (fun e=>hprn (Option.some.inj e));have hR9:=h4.keep (.of_grown hc9 fun b hb e=>hb.2 (Option.some.inj e)) (fun b hb _=>hb);have hP9:=h3.grown hc9 (fun k e=>by injection e with e;omega);simp only[World.setCells,Nat.zero_add,Nat.reduceAdd]at hG9 hV9 hB9 hR9 hP9;have hvc:=hV8.cell;have hvf:=hV8.frozen;have HG9:=hide hG9;have HV9:=hide hV9;have HB9:=hide hB9;have HR9:=hide hR9;have HP9:=hide hP9;clear hw8 hV8 hc9 hG9 hV9 hB9 hR9 hP9 h4 h3;go_wp2_with fail;go_roundw
      case rel=>exact⟨k, .mk 7 tt [] [] 0 [x,y],some ⟨gb,0,none⟩,2,2,q1,by omega,by omega,HRN,HP9,HV9,HR9,HB9,HG9⟩
      case measure=>rw[HPr.out.tokN,HP9.out.tokN];simp only[List.length_cons];omega
end Go.Proofs.YtddomeddabfinaaGreatDoor
namespace Go.Proofs.YtddomeddabfinaaGreatDoor
open Go.Proofs.Tryz
open Go.RowKit
theorem expr_all: ∀(f:Nat),f<=400000->(∀i,i<=f->CExpr i)/\CPrim f/\CNamed f
 |0,_=>by
  refine⟨fun i hi=> ?_,?_,?_⟩
  ·obtain rfl:i=0:=by omega
   intro n l en w g h _ _ hf;omega
  ·intro l en w g h hf;omega
  ·intro nm l en w g h hf;omega
 |f+1,hf=>by
  obtain⟨h1,h2,h3⟩:=expr_all f (by omega);have hE:=expr_step f h2 h1
  exact⟨fun i hi=>by
   rcases Nat.lt_or_ge f i with h|h
   ·obtain rfl:i=f+1:=by omega
    exact hE
   ·exact h1 i h,prim_step f (h1 f (Nat.le_refl _)) h2 h3,named_step f (by omega) h1⟩
theorem expr_any {f:Nat} (hf:f<=400000):CExpr f:=(expr_all f hf).1 f (Nat.le_refl _)
theorem named_any {f:Nat} (hf:f<=400000):CNamed f:=(expr_all f hf).2.2
def RStm (g:Nat) (en:Int) (w:World) (r:PR St) (e:Ending) (w':World):Prop:=
 w.grownBy w' (some g)/\match r with
 | .ok (s,q)=> ∃A n c B m d C k i,e= .returned (.agg #[.int .i64 s.k, .string (str s.nm), .slice A n c, .slice B m d, .slice C k i])/\
   SV.ok w' (fun b=>w.heap.size<=b) ⟨s, .slice A n c, .slice B m d, .slice C k i⟩/\PA w' g q en
 | .error (q,n)=>e=wrongV en q n
def RBlk (g:Nat) (en:Int) (w:World) (r:PR (List St)) (e:Ending) (w':World):Prop:=
 w.grownBy w' (some g)/\match r with
 | .ok (b,q)=> ∃A n c,e= .returned (.slice A n c)/\RdS w' (fun b=>w.heap.size<=b) (.slice A n c) b/\PA w' g q en
 | .error (q,n)=>e=wrongV en q n
theorem rst_err {g:Nat} {en:Int} {w w':World} {r:PR St} {q:List Tok} {n:Int} (hr:r= .error (q,n)) (hG:w.grownBy w' (some g)):RStm g en w r (wrongV en q n) w':=by
 subst hr;exact⟨hG,rfl⟩
theorem rbl_err {g:Nat} {en:Int} {w w':World} {r:PR (List St)} {q:List Tok} {n:Int} (hr:r= .error (q,n)) (hG:w.grownBy w' (some g)):RBlk g en w r (wrongV en q n) w':=by
 subst hr;exact⟨hG,rfl⟩
def CBlock (f:Nat):Prop:= ∀(l:List Tok) (en:Int) (w:World) (g:Nat),PA w g l en->4*l.length+1<=f->Calls prog 104 #[.pointer (some ⟨g,0,none⟩)] w (RBlk g en w (pBlock f l))
def CIf (f:Nat):Prop:= ∀(l:List Tok) (en:Int) (w:World) (g:Nat),PA w g l en->4*l.length+3<=f->Calls prog 182 #[.pointer (some ⟨g,0,none⟩)] w (RStm g en w (pIf f l))
def CStmt (f:Nat):Prop:= ∀(l:List Tok) (en:Int) (w:World) (g:Nat),PA w g l en->4*l.length+3<=f->Calls prog 148 #[.pointer (some ⟨g,0,none⟩)] w (RStm g en w (pStmt f l))
theorem stt:RowT prog 57 72 5 96 (.agg #[.int .i64 0, .string ⟨#[]⟩, .slice none 0 0, .slice none 0 0, .slice none 0 0]):=⟨underlying57,by kernel_rfl,by rfl,by decide⟩
theorem stC_one (s:St) (A B C:Option Addr) (n m k c d i:Nat): ∀u∈stC ⟨s, .slice A n c, .slice B m d, .slice C k i⟩,u.oneCell'=true:=by
 intro u hu;simp only[stC,List.mem_cons,List.not_mem_nil,or_false]at hu;rcases hu with rfl|rfl|rfl|rfl|rfl<;>rfl
theorem block_step (f:Nat) (hff:f<=400000) (hS: ∀i,i<=f->CStmt i):CBlock (f+1):=by
 intro l en w g h hf;have HP0:=hide h;have hgl:=h.lt;have HR0:=hide (show pBlock (f+1) l=(wantL sLb l).then fun _ r=>pBlock1 f [] r from by rw[pBlock]);clear h;go_enter func104,ntmps104
 cases hlb:isL sLb l with
 |false=>
  have HR:=hide (show pBlock (f+1) l= .error (l,3)from by rw[HR0.out];unfold wantL;rw[hlb];rfl);go_wp2_with (go_at_call 100;refine(want_bad g _ en sLb _ HP0.out hlb).mono ?_;unfold wrongV;rintro e w1 ⟨rfl,hG⟩;have HG1:=hide hG;clear hG);exact⟨rfl,rbl_err HR.out HG1.out⟩
 |true=>
  have HR:=hide (show pBlock1 f [] l.tail=pBlock (f+1) l from by rw[HR0.out];unfold wantL;rw[hlb];rfl);have hlt:=isL_tail hlb;go_wp2_with (go_at_call 100;refine(want_ok g _ en sLb _ HP0.out hlb).mono ?_;rintro e w1 ⟨rfl,h1,h2⟩;have HP1:=hide h1;have HG1:=hide h2;clear h1 h2);clear HR0 HP0
  go_loopw [3] (fun vo wr=> ∃(k:Nat) (acc:List SV) (r:List Tok) (C:Option Addr) (n cap:Nat),vo= .slice C n cap/\acc.length=n/\4*r.length+4<=k/\k<=f/\n+r.length<=l.length/\Hid (pBlock1 k (acc.map (·.s)) r=pBlock (f+1) l)/\Hid (PA wr g r en)/\
   Hid (OwnSt wr w.heap.size 72 (.slice C n cap) acc)/\Hid (w.grownBy wr (some g))) (fun vo wr=>tokN g wr)
  case atStart=>exact⟨f,[],l.tail,none,0,0,rfl,rfl,by omega,Nat.le_refl _,by simp only[List.length_tail];omega,HR,HP1,hide (OwnSt.nil_ _ _ _),HG1⟩
  case round=>
   clear HR HP1 HG1;obtain⟨k,acc,r,C,n,cap,rfl,hn,hk,hkf,hnl,HRes,HPr,HOr,HGr⟩:=hrel;obtain⟨k,rfl⟩: ∃k',k=k'+1:=⟨k-1,by omega⟩
   have HSt:=hide (show pBlock1 (k+1) (acc.map (·.s)) r=if isL sRb r then .ok (acc.map (·.s),r.tail)else(pStmt k r).then fun s q=>pBlock1 k (acc.map (·.s)++[s]) q from by rw[pBlock1])
   cases hrb:isL sRb r with
   |true=>
    have HR:=hide (show pBlock (f+1) l= .ok (acc.map (·.s),r.tail)from by rw[<-HRes.out,HSt.out,if_pos hrb]);go_wp2_with (go_at_call 98;refine(got_any g r en sRb _ HPr.out).mono ?_;rw[hrb];simp only[if_true];rintro e w2 ⟨rfl,h1,h2⟩;have HP2:=hide h1;have HG2:=hide (grown_trans HGr.out h2);have HO2:=hide (HOr.out.grown h2 (fun k e=>by injection e with e;omega));clear h1 h2);go_ret;rw[HR.out];exact⟨HG2.out,_,_,_,rfl,HO2.out.rd,HP2.out⟩
   |false=>
    have HS2:=hide (show pBlock (f+1) l=(pStmt k r).then fun s q=>pBlock1 k (acc.map (·.s)++[s]) q from by rw[<-HRes.out,HSt.out,if_neg (by rw[hrb];simp)]);have hfs:4*r.length+3<=k:=by omega
    clear HRes HSt
    cases hps:pStmt k r with
    |error p=>
     obtain⟨q,er⟩:=p;have HR:=hide (show pBlock (f+1) l= .error (q,er)from by rw[HS2.out,hps];rfl)
     go_wp2_with (first
      |(go_at_call 98;refine(got_any g r en sRb _ HPr.out).mono ?_;rw[hrb];simp only[Bool.false_eq_true,if_false];rintro e w2 ⟨rfl,h1,h2⟩;have HP2:=hide h1;have HG2:=hide (grown_trans HGr.out h2);clear h1 h2 HPr)
      |(go_at_call 148;refine(hS k (by omega) r en _ g HP2.out hfs).mono ?_;intro e w3 hh;rw[hps]at hh;obtain⟨hG,rfl⟩:=hh;unfold wrongV;have HG3:=hide (grown_trans HG2.out hG);clear hG))
     exact⟨rfl,rbl_err HR.out HG3.out⟩
    |ok p=>
     obtain⟨s,q⟩:=p;have hq:=(stmt_lt k).2.2.2 _ _ _ hps;have HRN:=hide (show pBlock1 k (acc.map (·.s)++[s]) q=pBlock (f+1) l from by rw[HS2.out,hps];rfl)
     go_wp2_with (first
      |(go_at_call 98;refine(got_any g r en sRb _ HPr.out).mono ?_;rw[hrb];simp only[Bool.false_eq_true,if_false];rintro e w2 ⟨rfl,h1,h2⟩;have HP2:=hide h1;have HG2:=hide (grown_trans HGr.out h2);have HO2:=hide (HOr.out.grown h2 (fun k e=>by injection e with e;omega));clear h1 h2 HOr)
      |(go_at_call 148;refine(hS k (by omega) r en _ g HP2.out hfs).mono ?_;intro e w3 hh;rw[hps]at hh;obtain⟨hG,A1,n1,c1,A2,n2,c2,A3,n3,c3,rfl,hV,hPA⟩:=hh;have hE:=Ext.alloc w3 (.cells #[.int .i64 s.k, .string (str s.nm), .slice A1 n1 c1, .slice A2 n2 c2, .slice A3 n3 c3] 72);have hz2:=HG2.out.size;have hzz:=hG.size;have HG3:=hide (grown_trans (grown_trans HG2.out hG) (hE.grownBy (some g)));have HO3:=hide ((HO2.out.grown hG (fun k e=>by injection e with e;omega)).ext hE);have hrow:=World.ownsRow.lt HO2.out.1;have HV3:=hide (hV.keep (.of_ext hE) (Q:=fun b=>w.heap.size<=b/\some b≠Value.ownBlock (.slice C n cap)) (fun b hb _=>⟨by omega,fun e=>by have:=(hrow b e.symm).2;omega⟩));have HP3:=hide (hPA.ext hE);have HN3:=hide (Blk.new w3 72 #[.int .i64 s.k, .string (str s.nm), .slice A1 n1 c1, .slice A2 n2 c2, .slice A3 n3 c3]);have hrw:=fun k hk=>(hrow k hk).1;clear hG hV hPA hE hrow HO2)
      |(at_builtin;refine wpList_app1 stt rfl _ _ rfl w.heap.size _ n (stRow acc) rfl (by have:=HO3.out.1;rw[hn]at this;exact this) w3.heap.size (stC ⟨s, .slice A1 n1 c1, .slice A2 n2 c2, .slice A3 n3 c3⟩) rfl HN3.out rfl (stC_one _ _ _ _ _ _ _ _ _ _) (by omega) (by decide) HG3.out.size ?_;intro A' cap' w4 hq1 hq2 hq3;have HO4:=hide (HO3.out.snoc HV3.out (by rw[hn];exact hq1) hq2 hq3);have HG4:=hide (show w.grownBy w4 (some g)from⟨hq2.os.trans HG3.out.os,hq2.tape.trans HG3.out.tape,hq2.output.trans HG3.out.output,Nat.le_trans HG3.out.size hq2.size,fun i hi hne=>(hq2.block i (Nat.lt_of_lt_of_le hi HG3.out.size) (fun e=>by have:=hrw i e.symm;omega)).trans (HG3.out.block i hi hne)⟩);have HP4:=hide (HP3.out.grown hq2 (fun k e=>by have:=hrw k e;omega));clear hq1 hq2 hq3))
     go_roundw
     case rel=>exact⟨k,acc++[⟨s, .slice A1 n1 c1, .slice A2 n2 c2, .slice A3 n3 c3⟩],q,some ⟨A',0,none⟩,n+1,cap',rfl,by simp[hn],by omega,by omega,by omega,hide (by simpa using HRN.out),HP4,hide (by have:=HO4.out;rw[hn]at this;exact this),HG4⟩
     case measure=>rw[HPr.out.tokN,HP4.out.tokN];omega
end Go.Proofs.YtddomeddabfinaaGreatDoor
