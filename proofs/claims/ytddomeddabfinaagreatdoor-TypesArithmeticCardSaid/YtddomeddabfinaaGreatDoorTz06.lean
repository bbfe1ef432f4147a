/-
  Parts of the proof: ParO ParQ ParR ParS ParSk ParT ParU.
-/
import Derived.Test.YtddomeddabfinaaGreatDoorTz00
import Derived.LoopN
import Derived.Test.YtddomeddabfinaaGreatDoorTz05
set_option maxRecDepth 100000
set_option maxHeartbeats 8000000
set_option linter.unusedVariables false
set_option linter.unusedSimpArgs false
set_option linter.unusedSectionVars false
namespace Go.Proofs.YtddomeddabfinaaGreatDoor
open Go.Proofs.Tryz
section
open Go.RowKit
theorem AA (f:Nat) (hEx:eF f) (base g px pb:Nat) (nm:List UInt8) (l:List bN) (en:Int) (w:World) (C:Option Addr) (n cap:Nat)
  (hP:PA w g l en) (hb:aL w pb 153 #[.pointer (some ⟨g,0,none⟩)]) (hx:aL w px 70 #[.int .i64 5, .string ⟨#[]⟩, .string (ai nm), .string ⟨#[]⟩, .int .i64 0, .slice C n cap])
  (hbase:base<=w.heap.size) (hg:g<px) (hgp:g<pb) (hf:4*l.length+2<=f)
  (q:List bN) (er:Int) (he:bQ f 1 l= .error (q,er)):
  Calls prog 223 #[.pointer (some ⟨px,0,none⟩), .pointer (some ⟨pb,0,none⟩)] w fun e w'=>e=a6 en q er/\Fr base g px w w':=by
 have HP:=G hP;have HB:=G hb;have HX:=G hx;have hgw:g<w.heap.size:=hP.lt;have hxg:px≠g:=by omega
 have hbg:pb≠g:=by omega
 clear hP hb hx;go_enter func223,ntmps223;refine jH 6 0 [(3,fun v=>v= .agg #[.int .i64 0, .string ⟨#[]⟩, .string ⟨#[]⟩, .string ⟨#[]⟩, .int .i64 0, .slice none 0 0],fun _ _=>False),(5,fun v=> ∃gb,v= .slice (some ⟨gb,0,none⟩) 1 1,fun _ _=>True)] 3 (some g) mixed (by kernel_rfl)
  ⟨fun _ _ _ h _=>h,fun _ _ _ h _=>h,trivial⟩ ⟨.inl rfl, .inr fun _ _ _ h _=>h,trivial⟩ ?_
 repeat (refine sx ?_ (fun w1 hU=> ?_) ?_;rotate_left;(focus have f1:=(HX.out.grown (aB hU) (fun e=>hxg (Z e))).cell;have f2:=(HB.out.grown (aB hU) (fun e=>hbg (Z e))).cell;clear hU;go_simp<;>with_reducible rfl);simp only[aY,aX,aW,aV,aU])
 refine bH _ _ (by rfl) rfl ⟨_,rfl⟩ rfl (fun w6 hT hp K hK=> ?_) ?_
 ·clear hp;have hc:=hEx 1 l en w6 g (HP.out.ext hT.un) (by decide) (by decide) hf;have HT6:=G hT.un;clear hT;go_simp;refine hc.mono ?_;intro e w7 hh;rw[he]at hh;obtain⟨hG,rfl⟩:=hh;unfold a6;intro a' hd;exact⟨hd,rfl,cM (am (HT6.out.grownBy _) hG) hbase (fun k e=>by injection e with e;omega)⟩
 rintro _ rfl;simp only[aY,aX,aW,aV,aU];repeat (refine sx ?_ (fun w1 hU=> ?_) ?_;rotate_left;(focus have f1:=(HX.out.grown (aB hU) (fun e=>hxg (Z e))).cell;have f2:=(HB.out.grown (aB hU) (fun e=>hbg (Z e))).cell;clear hU;go_simp<;>with_reducible rfl);simp only[aY,aX,aW,aV,aU])
 refine bJ _ _ (by rfl) rfl ⟨_,0,rfl⟩ (by simp) (fun w6 hU hp K hK=> ?_) ?_
 ·clear hp;go_simp;exact hK _ _ (O w6 _) ⟨_,rfl⟩ trivial
 rintro _ ⟨gb,rfl⟩;simp only[aY,aX,aW,aV,aU];intro w8 hw8 hp;exact(hp _ (.tail _ (.head _))).elim
def tokN (g:Nat) (w:World):Nat:=match w.cell? ⟨g,0,none⟩with
 |some (.slice _ n _)=>n
 | _=>0
theorem PA.tokN {w:World} {g:Nat} {l:List bN} {en:Int} (h:PA w g l en):tokN g w=l.length:=by
 obtain⟨A,c,hb,_⟩:=h;unfold YtddomeddabfinaaGreatDoor.tokN;rw[hb.cell];rfl
def Ev (base g px:Nat) (nm:List UInt8) (en:Int) (w:World) (r:PR (List Ex)) (e:Ending) (w':World):Prop:=
 Fr base g px w w'/\match r with
 | .ok (a,q)=>e= .returned (.tuple #[])/\PA w' g q en/\ ∃C n cap,aL w' px 70 #[.int .i64 5, .string ⟨#[]⟩, .string (ai nm), .string ⟨#[]⟩, .int .i64 0, .slice C n cap]/\cE w' (fun b=>base<=b) (.slice C n cap) a
 | .error (q,n)=>e=a6 en q n
theorem pq (f:Nat) (hEx: ∀i,i<=f->eF i) (base g px pb:Nat) (nm:List UInt8) (l:List bN) (en:Int) (w:World)
  (hP:PA w g l en) (hb:aL w pb 153 #[.pointer (some ⟨g,0,none⟩)]) (hx:aL w px 70 #[.int .i64 5, .string ⟨#[]⟩, .string (ai nm), .string ⟨#[]⟩, .int .i64 0, .slice none 0 0])
  (hbase:base<=w.heap.size) (hg:g<px) (hgp:g<pb) (hpp:pb≠px) (hpx:px<base) (hpb:pb<base) (hf:4*l.length+4<=f+1) (hnb:l.length<=100000):
  Calls prog 102 #[.pointer (some ⟨g,0,none⟩), .func (Fn.func 223) #[] #[.pointer (some ⟨px,0,none⟩), .pointer (some ⟨pb,0,none⟩)]] w (Ev base g px nm en w (fu (f+1) l)):=by
 have HP:=G hP;have HB:=G hb;have HX:=G hx;have HG:=G (ch g l en kA w hP);clear hP hb hx
 cases hrp:cP kA l with
 |true=>
  rw[hrp]at HG;simp only[if_true]at HG;have HR:=G (show fu (f+1) l= .ok ([],l.tail)from by rw[fu,if_pos hrp]);go_enter func102,ntmps102;go_wp2_with (go_at_call 98;refine HG.out.mono ?_;rintro e w1 ⟨rfl,h1,h2⟩;have H1:=G h1;have H2:=G h2;clear h1 h2 HG)
  go_end0
  rw[HR.out];exact⟨cM H2.out hbase (fun k e=>by injection e with e;omega),rfl,H1.out,_,_,_,HX.out.grown H2.out (fun e=>by injection e with e;omega), .nil _ _⟩
 |false=>
  rw[hrp]at HG;simp only[aN,if_false]at HG;have HR:=G (show fu (f+1) l=fZ f [] l from by rw[fu,if_neg (by rw[hrp];simp)]);have hf':4*l.length+3<=f:=by omega
  clear hf;go_enter func102,ntmps102;go_wp2_with (go_at_call 98;refine HG.out.mono ?_;rintro e w1 ⟨rfl,h1,h2⟩;have H1:=G h1;have H2:=G h2;clear h1 h2 HG)
  go_loopw [] (fun wr=> ∃(k:Nat) (acc:List (Ex×Value)) (r:List bN) (C:Option Addr) (n cap:Nat),4*r.length+3<=k/\k<=f/\acc.length=n/\n+r.length<=l.length/\Hid (fZ k (acc.map (·.1)) r=fu (f+1) l)/\Hid (PA wr g r en)/\Hid (aL wr px 70 #[.int .i64 5, .string ⟨#[]⟩, .string (ai nm), .string ⟨#[]⟩, .int .i64 0, .slice C n cap])/\
   Hid (f_ wr base 70 (.slice C n cap) acc)/\Hid (Fr base g px w wr)) (fun wr=>tokN g wr)
  case atStart=>exact⟨f,[],l,none,0,0,hf',ah _,rfl,by omega,G HR.out.symm,H1,G (HX.out.grown H2.out (fun e=>by injection e with e;omega)),G (pP _ _ _),G (cM H2.out hbase (fun k e=>by injection e with e;omega))⟩
  case round=>
   obtain⟨k,acc,r,C,n,cap,hk,hkf,hn,hnl,HRes,HPr,HXr,HOr,HFr⟩:=hrel;obtain⟨k,rfl⟩: ∃k',k=k'+1:=⟨k-1,by omega⟩
   have HBr:=G (HFr.out.blk HB.out hpb (by omega) (by omega));have hbr:base<=wr.heap.size:=by have:=HFr.out.size;omega
   have hf2:4*r.length+2<=k:=by omega
   have HSt:=G (show fZ (k+1) (acc.map (·.1)) r=(bQ k 1 r).then fun x q=>if cP kA q then .ok (acc.map (·.1)++[x],q.tail)else(bV xd q).then fun _ q=>fZ k (acc.map (·.1)++[x]) q from by rw[fZ])
   cases he:bQ k 1 r with
   |error p=>
    obtain⟨q,er⟩:=p;have HRR:=G (show fu (f+1) l= .error (q,er)from by rw[<-HRes.out,HSt.out,he];rfl);have HC:=G (AA k (hEx k (by omega)) base g px pb nm r en wr C n cap HPr.out HBr.out HXr.out hbr hg hgp hf2 q er he);unfold a6 at HC;go_wp2_with (go_at_call 223;refine HC.out.mono ?_;rintro e w3 ⟨rfl,hF⟩;have HF3:=G (HFr.out.trans hF);clear hF HC);exact⟨rfl,by rw[HRR.out];exact⟨HF3.out,rfl⟩⟩
   |ok p=>
    obtain⟨x,q⟩:=p;have hlt:=(iD k).1 _ _ _ _ he;have HC:=G (Ch k (hEx k (by omega)) base g px pb nm r en wr acc C n cap HPr.out HBr.out HXr.out HOr.out hn hbr hg hgp hpp hpx hpb hf2 (by omega) x q he)
    cases hr2:cP kA q with
    |true=>
     have HRR:=G (show fu (f+1) l= .ok (acc.map (·.1)++[x],q.tail)from by rw[<-HRes.out,HSt.out,he];show(if cP kA q then(Except.ok (acc.map (·.1)++[x],q.tail):PR (List Ex))else _)=_;rw[if_pos hr2])
     go_wp2_with (first
      |(go_at_call 223;refine HC.out.mono ?_;rintro e w3 ⟨rfl,hF,hP3,C3,cap3,a3,hX3,hO3⟩;have HF3:=G (HFr.out.trans hF);have HP3:=G hP3;have HX3:=G hX3;have HO3:=G hO3;clear hF HC hP3 hX3 hO3)
      |(go_at_call 98;refine(ch g q en kA _ HP3.out).mono ?_;rw[hr2];simp only[if_true];rintro e w4 ⟨rfl,h1,h2⟩;have HP4:=G h1;have HG4:=G h2;clear h1 h2))
     go_end0
     rw[HRR.out];have hb3:base<=w3.heap.size:=by have:=HF3.out.size;omega
     have hO4:=HO3.out.grown HG4.out (fun k e=>by injection e with e;omega);exact⟨HF3.out.trans (cM HG4.out hb3 (fun k e=>by injection e with e;omega)),rfl,HP4.out,_,_,_,HX3.out.grown HG4.out (fun e=>by injection e with e;omega),by have:=hO4.rd;simpa using this⟩
    |false=>
     cases hcm:cP xd q with
     |false=>
      have HRR:=G (show fu (f+1) l= .error (q,3)from by rw[<-HRes.out,HSt.out,he];show(if cP kA q then(Except.ok (acc.map (·.1)++[x],q.tail):PR (List Ex))else _)=_;rw[if_neg (by rw[hr2];simp)];unfold bV;rw[hcm];rfl)
      go_wp2_with (first
       |(go_at_call 223;refine HC.out.mono ?_;rintro e w3 ⟨rfl,hF,hP3,C3,cap3,a3,hX3,hO3⟩;have HF3:=G (HFr.out.trans hF);have HP3:=G hP3;clear hF HC hP3 hX3 hO3)
       |(go_at_call 98;refine(ch g q en kA _ HP3.out).mono ?_;rw[hr2];simp only[aN,if_false];rintro e w4 ⟨rfl,h1,h2⟩;have HP4:=G h1;have HG4:=G h2;clear h1 h2 HP3)
       |(go_at_call 100;refine(fT g q en xd _ HP4.out hcm).mono ?_;unfold a6;rintro e w5 ⟨rfl,hG⟩;have HG5:=G (am HG4.out hG);clear hG))
      have hb3:base<=w3.heap.size:=by have:=HF3.out.size;omega
      exact⟨rfl,by rw[HRR.out];exact⟨HF3.out.trans (cM HG5.out hb3 (fun k e=>by injection e with e;omega)),rfl⟩⟩
     |true=>
      have HRR:=G (show fZ k (acc.map (·.1)++[x]) q.tail=fu (f+1) l from by rw[<-HRes.out,HSt.out,he];show _=(if cP kA q then(Except.ok (acc.map (·.1)++[x],q.tail):PR (List Ex))else _);rw[if_neg (by rw[hr2];simp)];unfold bV;rw[hcm];rfl);have hqt:=bq hcm
      go_wp2_with (first
       |(go_at_call 223;refine HC.out.mono ?_;rintro e w3 ⟨rfl,hF,hP3,C3,cap3,a3,hX3,hO3⟩;have HF3:=G (HFr.out.trans hF);have HP3:=G hP3;have HX3:=G hX3;have HO3:=G hO3;clear hF HC hP3 hX3 hO3)
       |(go_at_call 98;refine(ch g q en kA _ HP3.out).mono ?_;rw[hr2];simp only[aN,if_false];rintro e w4 ⟨rfl,h1,h2⟩;have HP4:=G h1;have HG4:=G h2;clear h1 h2 HP3)
       |(go_at_call 100;refine(d8 g q en xd _ HP4.out hcm).mono ?_;rintro e w5 ⟨rfl,h1,h2⟩;have HP5:=G h1;have HG5:=G (am HG4.out h2);clear h1 h2))
      have hb3:base<=w3.heap.size:=by have:=HF3.out.size;omega
      go_roundw
      case rel=>exact⟨k,acc++[(x,a3)],q.tail,C3,n+1,cap3,by omega,by omega,by simp[hn],by omega,G (by simpa using HRR.out),HP5,G (HX3.out.grown HG5.out (fun e=>by injection e with e;omega)),G (by simpa using HO3.out.grown HG5.out (fun k e=>by injection e with e;omega)),G (HF3.out.trans (cM HG5.out hb3 (fun k e=>by injection e with e;omega)))⟩
      case measure=>rw[HPr.out.tokN,HP5.out.tokN];omega
end
section
open Go.RowKit
theorem qp {w W:World} {g pr:Nat} {en:Int} {q:List bN} {z0 z1 z2 z3 z4 z5:Value} {r:PR Ex} (x:Ex) (k:Int) (so sn st:ByteArray) (v:Int) (A:Option Addr) (n c:Nat) (hr:r= .ok (x,q)) (hk:x.k=k) (ho:ai x.op=so) (hn:ai x.nm=sn) (ht:ai x.tx=st) (hv:x.v=v) (hpr:w.heap.size<=pr)
  (hB:aL W pr 70 #[z0,z1,z2,z3,z4,z5]) (hG:w.grownBy W (some g)) (hPA:PA W g q en) (hg:g<w.heap.size) (hR:cE W (fun b=>pr<b) (.slice A n c) x.args):
  (∀i,(W.setCells pr 0 [.int .i64 k, .string so, .string sn, .string st, .int .i64 v, .slice A n c]).cell? ⟨pr,i,none⟩=(#[.int .i64 k, .string so, .string sn, .string st, .int .i64 v, .slice A n c]:Array Value)[i]?)/\
  oT g en w r (.returned (.agg #[.int .i64 k, .string so, .string sn, .string st, .int .i64 v, .slice A n c])) (W.setCells pr 0 [.int .i64 k, .string so, .string sn, .string st, .int .i64 v, .slice A n c]):=by
 subst hr hk ho hn ht hv;have hc:=dr pr [.int .i64 x.k, .string (ai x.op), .string (ai x.nm), .string (ai x.tx), .int .i64 x.v, .slice A n c] 0 W;refine⟨(aL.put6 hB _ _ _ _ _ _).cell,dx hG hc hpr,A,n,c,rfl,hR.keep (.of_grown hc fun b hb e=>by injection e with e;omega) fun b hb _=>by omega,hPA.grown hc fun k e=>by injection e with e;omega⟩
theorem gT (w:World) (p:Value):let W0:=(w.alloc (.cells #[p] 153)).alloc (.cells #[.int .i64 0, .string ⟨#[]⟩, .string ⟨#[]⟩, .string ⟨#[]⟩, .int .i64 0, .slice none 0 0] 70)
  aq w W0/\aL W0 w.heap.size 153 #[p]/\aL W0 (w.heap.size+1) 70 #[.int .i64 0, .string ⟨#[]⟩, .string ⟨#[]⟩, .string ⟨#[]⟩, .int .i64 0, .slice none 0 0]:=by
 have h:=an (w.alloc (.cells #[p] 153)) 70 #[.int .i64 0, .string ⟨#[]⟩, .string ⟨#[]⟩, .string ⟨#[]⟩, .int .i64 0, .slice none 0 0];rw[World.size_alloc]at h;exact⟨(O w _).alloc' _,(an w _ _).alloc _,h⟩
theorem sT (f:Nat) (nm:List UInt8) (l:List bN) (en:Int) (w:World) (g:Nat) (h:PA w g l en) (hls:cP p' l=false) (hlp:cP mi l=false):Calls prog 206 #[.pointer (some ⟨g,0,none⟩), .string (ai nm)] w (oT g en w (ct (f+1) nm l)):=by
 have HR:=G (show ct (f+1) nm l= .ok (.mk 3 [] nm [] 0 [],l)from by rw[ct,if_neg (by rw[hls];simp),if_neg (by rw[hlp];simp)]);obtain⟨hX0,hb0,hB0⟩:=gT w (.pointer (some ⟨g,0,none⟩));have HX0:=G hX0;have Hb0:=G hb0;have HB0:=G hB0;have HP0:=G (h.ext hX0);have hbc:=hb0.cell;have hgl:=h.lt;have hbg:w.heap.size≠g:=by omega
 have hrg:w.heap.size+1≠g:=by omega
 have hgr:g≠w.heap.size+1:=by omega
 clear h hX0 hb0 hB0;go_enter func206,ntmps206;go_wp2_with (first|(go_at_call 98;refine(ch g _ en p' _ HP0.out).mono ?_;rw[hls];simp only[aN,if_false];rintro e w1 ⟨rfl,h1,h2⟩;have HP1:=G h1;have HG1:=G (am (HX0.out.grownBy _) h2);have Hb1:=G (Hb0.out.grown h2 (fun e=>hbg (Z e)));have HB1:=G (HB0.out.grown h2 (fun e=>hrg (Z e)));clear hbc;have hbc:=Hb1.out.cell;have hrc:=HB1.out.cell;have hrf:=HB1.out.frozen;clear h1 h2 HP0)|(go_at_call 98;refine(ch g _ en mi _ HP1.out).mono ?_;rw[hlp];simp only[aN,if_false];rintro e w2 ⟨rfl,h1,h2⟩;have HP2:=G h1;have HG2:=G (am HG1.out h2);have Hb2:=G (Hb1.out.grown h2 (fun e=>hbg (Z e)));have HB2:=G (HB1.out.grown h2 (fun e=>hrg (Z e)));clear hbc;have hbc:=Hb2.out.cell;have hrc:=HB2.out.cell;have hrf:=HB2.out.frozen;clear h1 h2 HP1));obtain⟨hset,hfin⟩:=qp (.mk 3 [] nm [] 0 []) 3 ⟨#[]⟩ (ai nm) ⟨#[]⟩ 0 none 0 0 HR.out rfl rfl rfl rfl rfl (eD _) HB2.out HG2.out HP2.out hgl (.nil _ _);simp only[World.setCells,aD,Nat.reduceAdd]at hset hfin;exact bodyPost_ret (v:= .agg #[.int .i64 3, .string ⟨#[]⟩, .string (ai nm), .string ⟨#[]⟩, .int .i64 0, .slice none 0 0]) (by simp[results,results206,go_sem,hset]) rfl hfin
theorem vH (f:Nat) (nm:List UInt8) (l:List bN) (en:Int) (w:World) (g:Nat) (h:PA w g l en) (hEx:eF f) (hf:4*l.length+1<=f+1) (hls:cP p' l=true) (q:List bN) (n:Int) (hx:bQ f 1 l.tail= .error (q,n)):Calls prog 206 #[.pointer (some ⟨g,0,none⟩), .string (ai nm)] w (oT g en w (ct (f+1) nm l)):=by
 have HR1:=G (show ct (f+1) nm l=(bQ f 1 l.tail).then fun x r=>(bV rW r).then fun _ r=> .ok (.mk 4 [] nm [] 0 [x],r)from by rw[ct,if_pos hls]);have hf':4*l.tail.length+2<=f:=by have:=bq hls;omega
 have HR:=G (show ct (f+1) nm l= .error (q,n)from by rw[HR1.out,hx];rfl);obtain⟨hX0,hb0,hB0⟩:=gT w (.pointer (some ⟨g,0,none⟩));have HX0:=G hX0;have Hb0:=G hb0;have HB0:=G hB0;have HP0:=G (h.ext hX0);have hbc:=hb0.cell;have hgl:=h.lt;have hbg:w.heap.size≠g:=by omega
 have hrg:w.heap.size+1≠g:=by omega
 have hgr:g≠w.heap.size+1:=by omega
 clear h hX0 hb0 hB0;go_enter func206,ntmps206;go_wp2_with (first|(go_at_call 98;refine(ch g _ en p' _ HP0.out).mono ?_;rw[hls];simp only[if_true];rintro e w1 ⟨rfl,h1,h2⟩;have HP1:=G h1;have HG1:=G (am (HX0.out.grownBy _) h2);have Hb1:=G (Hb0.out.grown h2 (fun e=>hbg (Z e)));have HB1:=G (HB0.out.grown h2 (fun e=>hrg (Z e)));clear hbc;have hbc:=Hb1.out.cell;have hrc:=HB1.out.cell;have hrf:=HB1.out.frozen;clear h1 h2 HP0)|(go_at_call 183;refine(hEx 1 _ en _ g HP1.out (by decide) (by decide) hf').mono ?_;intro e w5 hh;rw[hx]at hh;obtain⟨hG,rfl⟩:=hh;unfold a6;have HG5:=G (am HG1.out hG);clear hG));exact⟨rfl,fY HR.out HG5.out⟩
theorem vI (f:Nat) (nm:List UInt8) (l:List bN) (en:Int) (w:World) (g:Nat) (h:PA w g l en) (hEx:eF f) (hf:4*l.length+1<=f+1) (hls:cP p' l=true) (x:Ex) (q:List bN) (hx:bQ f 1 l.tail= .ok (x,q)) (hrs:cP rW q=false):Calls prog 206 #[.pointer (some ⟨g,0,none⟩), .string (ai nm)] w (oT g en w (ct (f+1) nm l)):=by
 have HR1:=G (show ct (f+1) nm l=(bQ f 1 l.tail).then fun x r=>(bV rW r).then fun _ r=> .ok (.mk 4 [] nm [] 0 [x],r)from by rw[ct,if_pos hls]);have hf':4*l.tail.length+2<=f:=by have:=bq hls;omega
 have HR:=G (show ct (f+1) nm l= .error (q,3)from by rw[HR1.out,hx];show(bV rW q).then (fun _ r=>(Except.ok (.mk 4 [] nm [] 0 [x],r):PR Ex))=_;unfold bV;rw[hrs];rfl);obtain⟨hX0,hb0,hB0⟩:=gT w (.pointer (some ⟨g,0,none⟩));have HX0:=G hX0;have Hb0:=G hb0;have HB0:=G hB0;have HP0:=G (h.ext hX0);have hbc:=hb0.cell;have hgl:=h.lt;have hbg:w.heap.size≠g:=by omega
 have hrg:w.heap.size+1≠g:=by omega
 have hgr:g≠w.heap.size+1:=by omega
 clear h hX0 hb0 hB0;go_enter func206,ntmps206;go_wp2_with (first|(go_at_call 98;refine(ch g _ en p' _ HP0.out).mono ?_;rw[hls];simp only[if_true];rintro e w1 ⟨rfl,h1,h2⟩;have HP1:=G h1;have HG1:=G (am (HX0.out.grownBy _) h2);have Hb1:=G (Hb0.out.grown h2 (fun e=>hbg (Z e)));have HB1:=G (HB0.out.grown h2 (fun e=>hrg (Z e)));clear hbc;have hbc:=Hb1.out.cell;have hrc:=HB1.out.cell;have hrf:=HB1.out.frozen;clear h1 h2 HP0)|(go_at_call 183;refine(hEx 1 _ en _ g HP1.out (by decide) (by decide) hf').mono ?_;intro e w5 hh;rw[hx]at hh;obtain⟨hG,A,n,c,rfl,hR,hPA⟩:=hh;have hz1:w.heap.size+2<=w1.heap.size:=HB1.out.lt;have hz5:=hG.size;have hE7:=(O w5 (.cells #[.int .i64 x.k, .string (ai x.op), .string (ai x.nm), .string (ai x.tx), .int .i64 x.v, .slice A n c] 70)).alloc' (.cells #[.int .i64 4, .string ⟨#[]⟩, .string (ai nm), .string ⟨#[]⟩, .int .i64 0, .slice (some ⟨w5.heap.size,0,none⟩) 1 1] 70);have HG5:=G (am (am HG1.out hG) (hE7.grownBy (some g)));have Hb5:=G ((Hb1.out.grown hG (fun e=>hbg (Z e))).ext hE7);have HB5:=G ((HB1.out.grown hG (fun e=>hrg (Z e))).ext hE7);have HV5:=G (an (w5.alloc (.cells #[.int .i64 x.k, .string (ai x.op), .string (ai x.nm), .string (ai x.tx), .int .i64 x.v, .slice A n c] 70)) 70 #[.int .i64 4, .string ⟨#[]⟩, .string (ai nm), .string ⟨#[]⟩, .int .i64 0, .slice (some ⟨w5.heap.size,0,none⟩) 1 1]);have hO1:=(an w5 70 #[.int .i64 x.k, .string (ai x.op), .string (ai x.nm), .string (ai x.tx), .int .i64 x.v, .slice A n c]).alloc (.cells #[.int .i64 4, .string ⟨#[]⟩, .string (ai nm), .string ⟨#[]⟩, .int .i64 0, .slice (some ⟨w5.heap.size,0,none⟩) 1 1] 70);have HRD5:=G (mg (P:=fun b=>w.heap.size+1<b) hO1 (by omega) (hR.keep (.of_ext hE7) (fun b hb _=>by omega)));have HP5:=G (hPA.ext hE7);have hv5:(w5.alloc (.cells #[.int .i64 x.k, .string (ai x.op), .string (ai x.nm), .string (ai x.tx), .int .i64 x.v, .slice A n c] 70)).heap.size≠g:=(by have:=hPA.lt;rw[World.size_alloc];omega);rw[World.size_alloc]at HV5 hv5;clear hbc;have hbc:=Hb5.out.cell;clear hG hR hPA hE7 hO1 HP1)|(go_at_call 100;refine(fT g _ en rW _ HP5.out hrs).mono ?_;unfold a6;rintro e w6 ⟨rfl,hG⟩;have HG6:=G (am HG5.out hG);clear hG));exact⟨rfl,fY HR.out HG6.out⟩
theorem xV (f:Nat) (nm:List UInt8) (l:List bN) (en:Int) (w:World) (g:Nat) (h:PA w g l en) (hEx:eF f) (hf:4*l.length+1<=f+1) (hls:cP p' l=true) (x:Ex) (q:List bN) (hx:bQ f 1 l.tail= .ok (x,q)) (hrs:cP rW q=true):Calls prog 206 #[.pointer (some ⟨g,0,none⟩), .string (ai nm)] w (oT g en w (ct (f+1) nm l)):=by
 have HR1:=G (show ct (f+1) nm l=(bQ f 1 l.tail).then fun x r=>(bV rW r).then fun _ r=> .ok (.mk 4 [] nm [] 0 [x],r)from by rw[ct,if_pos hls]);have hf':4*l.tail.length+2<=f:=by have:=bq hls;omega
 have HR:=G (show ct (f+1) nm l= .ok (.mk 4 [] nm [] 0 [x],q.tail)from by rw[HR1.out,hx];show(bV rW q).then (fun _ r=>(Except.ok (.mk 4 [] nm [] 0 [x],r):PR Ex))=_;unfold bV;rw[hrs];rfl);obtain⟨hX0,hb0,hB0⟩:=gT w (.pointer (some ⟨g,0,none⟩));have HX0:=G hX0;have Hb0:=G hb0;have HB0:=G hB0;have HP0:=G (h.ext hX0);have hbc:=hb0.cell;have hgl:=h.lt;have hbg:w.heap.size≠g:=by omega
 have hrg:w.heap.size+1≠g:=by omega
 have hgr:g≠w.heap.size+1:=by omega
 clear h hX0 hb0 hB0;go_enter func206,ntmps206;go_wp2_with (first|(go_at_call 98;refine(ch g _ en p' _ HP0.out).mono ?_;rw[hls];simp only[if_true];rintro e w1 ⟨rfl,h1,h2⟩;have HP1:=G h1;have HG1:=G (am (HX0.out.grownBy _) h2);have Hb1:=G (Hb0.out.grown h2 (fun e=>hbg (Z e)));have HB1:=G (HB0.out.grown h2 (fun e=>hrg (Z e)));clear hbc;have hbc:=Hb1.out.cell;have hrc:=HB1.out.cell;have hrf:=HB1.out.frozen;clear h1 h2 HP0)|(go_at_call 183;refine(hEx 1 _ en _ g HP1.out (by decide) (by decide) hf').mono ?_;intro e w5 hh;rw[hx]at hh;obtain⟨hG,A,n,c,rfl,hR,hPA⟩:=hh;have hz1:w.heap.size+2<=w1.heap.size:=HB1.out.lt;have hz5:=hG.size;have hE7:=(O w5 (.cells #[.int .i64 x.k, .string (ai x.op), .string (ai x.nm), .string (ai x.tx), .int .i64 x.v, .slice A n c] 70)).alloc' (.cells #[.int .i64 4, .string ⟨#[]⟩, .string (ai nm), .string ⟨#[]⟩, .int .i64 0, .slice (some ⟨w5.heap.size,0,none⟩) 1 1] 70);have HG5:=G (am (am HG1.out hG) (hE7.grownBy (some g)));have Hb5:=G ((Hb1.out.grown hG (fun e=>hbg (Z e))).ext hE7);have HB5:=G ((HB1.out.grown hG (fun e=>hrg (Z e))).ext hE7);have HV5:=G (an (w5.alloc (.cells #[.int .i64 x.k, .string (ai x.op), .string (ai x.nm), .string (ai x.tx), .int .i64 x.v, .slice A n c] 70)) 70 #[.int .i64 4, .string ⟨#[]⟩, .string (ai nm), .string ⟨#[]⟩, .int .i64 0, .slice (some ⟨w5.heap.size,0,none⟩) 1 1]);have hO1:=(an w5 70 #[.int .i64 x.k, .string (ai x.op), .string (ai x.nm), .string (ai x.tx), .int .i64 x.v, .slice A n c]).alloc (.cells #[.int .i64 4, .string ⟨#[]⟩, .string (ai nm), .string ⟨#[]⟩, .int .i64 0, .slice (some ⟨w5.heap.size,0,none⟩) 1 1] 70);have HRD5:=G (mg (P:=fun b=>w.heap.size+1<b) hO1 (by omega) (hR.keep (.of_ext hE7) (fun b hb _=>by omega)));have HP5:=G (hPA.ext hE7);have hv5:(w5.alloc (.cells #[.int .i64 x.k, .string (ai x.op), .string (ai x.nm), .string (ai x.tx), .int .i64 x.v, .slice A n c] 70)).heap.size≠g:=(by have:=hPA.lt;rw[World.size_alloc];omega);rw[World.size_alloc]at HV5 hv5;clear hbc;have hbc:=Hb5.out.cell;clear hG hR hPA hE7 hO1 HP1)|(go_at_call 100;refine(d8 g _ en rW _ HP5.out hrs).mono ?_;rintro e w6 ⟨rfl,h1,h2⟩;have HP6:=G h1;have HG6:=G (am HG5.out h2);have HB6:=G (HB5.out.grown h2 (fun e=>hrg (Z e)));have HV6:=G (HV5.out.grown h2 (fun e=>hv5 (Z e)));have HRD6:=G (HRD5.out.keep (.of_grown h2 fun b hb e=>by injection e with e;omega) (fun b hb _=>hb));clear hrc hrf;have hrc:=HB6.out.cell;have hrf:=HB6.out.frozen;have hvc:=HV6.out.cell;clear h1 h2 HP5));obtain⟨hset,hfin⟩:=qp (.mk 4 [] nm [] 0 [x]) 4 ⟨#[]⟩ (ai nm) ⟨#[]⟩ 0 (some ⟨w5.heap.size,0,none⟩) 1 1 HR.out rfl rfl rfl rfl rfl (eD _) HB6.out HG6.out HP6.out hgl HRD6.out;simp only[World.setCells,aD,Nat.reduceAdd]at hset hfin;exact bodyPost_ret (v:= .agg #[.int .i64 4, .string ⟨#[]⟩, .string (ai nm), .string ⟨#[]⟩, .int .i64 0, .slice (some ⟨w5.heap.size,0,none⟩) 1 1]) (by simp[results,results206,go_sem,hset]) rfl hfin
theorem yC (f:Nat) (nm:List UInt8) (l:List bN) (en:Int) (w:World) (g:Nat) (h:PA w g l en) (hEs: ∀i,i<=f->eF i) (hff:f<=400000) (hf:4*l.length+1<=f+1) (hls:cP p' l=false) (hlp:cP mi l=true) (q:List bN) (n:Int) (hx:fu f l.tail= .error (q,n)):Calls prog 206 #[.pointer (some ⟨g,0,none⟩), .string (ai nm)] w (oT g en w (ct (f+1) nm l)):=by
 obtain⟨f,rfl⟩: ∃f',f=f'+1:=⟨f-1,by have:=bq hlp;omega⟩
 have HR1:=G (show ct (f+1+1) nm l=(fu (f+1) l.tail).then fun a r=> .ok (.mk 5 [] nm [] 0 a,r)from by rw[ct,if_neg (by rw[hls];simp),if_pos hlp]);have hf':4*l.tail.length+4<=f+1:=by have:=bq hlp;omega
 have hmf: ∀(fn:Fn) (first cap:Array Value) (w:World),(Instr.makeFunc fn first cap).run prog w= .ok (.func fn first cap) w:=fun _ _ _ _=>rfl;have HR:=G (show ct (f+1+1) nm l= .error (q,n)from by rw[HR1.out,hx];rfl);obtain⟨hX0,hb0,hB0⟩:=gT w (.pointer (some ⟨g,0,none⟩));have HX0:=G hX0;have Hb0:=G hb0;have HB0:=G hB0;have HP0:=G (h.ext hX0);have hbc:=hb0.cell;have hgl:=h.lt;have hbg:w.heap.size≠g:=by omega
 have hrg:w.heap.size+1≠g:=by omega
 have hgr:g≠w.heap.size+1:=by omega
 clear h hX0 hb0 hB0;go_enter func206,ntmps206;go_wp2_with (first|(go_at_call 98;refine(ch g _ en p' _ HP0.out).mono ?_;rw[hls];simp only[aN,if_false];rintro e w1 ⟨rfl,h1,h2⟩;have HP1:=G h1;have HG1:=G (am (HX0.out.grownBy _) h2);have Hb1:=G (Hb0.out.grown h2 (fun e=>hbg (Z e)));have HB1:=G (HB0.out.grown h2 (fun e=>hrg (Z e)));clear hbc;have hbc:=Hb1.out.cell;have hrc:=HB1.out.cell;have hrf:=HB1.out.frozen;clear h1 h2 HP0)|(go_at_call 98;refine(ch g _ en mi _ HP1.out).mono ?_;rw[hlp];simp only[if_true];rintro e w2 ⟨rfl,h1,h2⟩;have HP2:=G h1;have HG2:=G (am HG1.out h2);have Hb2:=G (Hb1.out.grown h2 (fun e=>hbg (Z e)));have HB2:=G (HB1.out.grown h2 (fun e=>hrg (Z e)));clear hbc;have hbc:=Hb2.out.cell;have hrc:=HB2.out.cell;have hrf:=HB2.out.frozen;clear h1 h2 HP1;have HL:=G (pq f (fun i hi=>hEs i (by omega)) (w2.heap.size+1) g w2.heap.size w.heap.size nm l.tail en (w2.alloc (.cells #[.int .i64 5, .string ⟨#[]⟩, .string (ai nm), .string ⟨#[]⟩, .int .i64 0, .slice none 0 0] 70)) (HP2.out.ext (O w2 _)) (Hb2.out.alloc _) (an w2 _ _) (by rw[World.size_alloc];exact ah _) (by have:=HP2.out.lt;omega) (by omega) (by have:=Hb2.out.lt;omega) (by omega) (by have:=Hb2.out.lt;omega) hf' (by omega));have HB3:=G (HB2.out.alloc (.cells #[.int .i64 5, .string ⟨#[]⟩, .string (ai nm), .string ⟨#[]⟩, .int .i64 0, .slice none 0 0] 70));have Hb3:=G (Hb2.out.alloc (.cells #[.int .i64 5, .string ⟨#[]⟩, .string (ai nm), .string ⟨#[]⟩, .int .i64 0, .slice none 0 0] 70));have hz2:w.heap.size+2<=w2.heap.size:=HB2.out.lt;have HG3:=G (am HG2.out ((O w2 (.cells #[.int .i64 5, .string ⟨#[]⟩, .string (ai nm), .string ⟨#[]⟩, .int .i64 0, .slice none 0 0] 70)).grownBy (some g)));clear hbc;have hbc:=Hb3.out.cell)|(go_at_call 102;refine HL.out.mono ?_;intro e w5 hh;rw[hx]at hh;obtain⟨hF,rfl⟩:=hh;unfold a6;have HG5:=G (jg HG3.out hF (by omega) (by omega));clear hF));exact⟨rfl,fY HR.out HG5.out⟩
theorem AD (f:Nat) (nm:List UInt8) (l:List bN) (en:Int) (w:World) (g:Nat) (h:PA w g l en) (hEs: ∀i,i<=f->eF i) (hff:f<=400000) (hf:4*l.length+1<=f+1) (hls:cP p' l=false) (hlp:cP mi l=true) (a:List Ex) (q:List bN) (hx:fu f l.tail= .ok (a,q)):Calls prog 206 #[.pointer (some ⟨g,0,none⟩), .string (ai nm)] w (oT g en w (ct (f+1) nm l)):=by
 obtain⟨f,rfl⟩: ∃f',f=f'+1:=⟨f-1,by have:=bq hlp;omega⟩
 have HR1:=G (show ct (f+1+1) nm l=(fu (f+1) l.tail).then fun a r=> .ok (.mk 5 [] nm [] 0 a,r)from by rw[ct,if_neg (by rw[hls];simp),if_pos hlp]);have hf':4*l.tail.length+4<=f+1:=by have:=bq hlp;omega
 have hmf: ∀(fn:Fn) (first cap:Array Value) (w:World),(Instr.makeFunc fn first cap).run prog w= .ok (.func fn first cap) w:=fun _ _ _ _=>rfl;have HR:=G (show ct (f+1+1) nm l= .ok (.mk 5 [] nm [] 0 a,q)from by rw[HR1.out,hx];rfl);obtain⟨hX0,hb0,hB0⟩:=gT w (.pointer (some ⟨g,0,none⟩));have HX0:=G hX0;have Hb0:=G hb0;have HB0:=G hB0;have HP0:=G (h.ext hX0);have hbc:=hb0.cell;have hgl:=h.lt;have hbg:w.heap.size≠g:=by omega
 have hrg:w.heap.size+1≠g:=by omega
 have hgr:g≠w.heap.size+1:=by omega
 clear h hX0 hb0 hB0;go_enter func206,ntmps206;go_wp2_with (first|(go_at_call 98;refine(ch g _ en p' _ HP0.out).mono ?_;rw[hls];simp only[aN,if_false];rintro e w1 ⟨rfl,h1,h2⟩;have HP1:=G h1;have HG1:=G (am (HX0.out.grownBy _) h2);have Hb1:=G (Hb0.out.grown h2 (fun e=>hbg (Z e)));have HB1:=G (HB0.out.grown h2 (fun e=>hrg (Z e)));clear hbc;have hbc:=Hb1.out.cell;have hrc:=HB1.out.cell;have hrf:=HB1.out.frozen;clear h1 h2 HP0)|(go_at_call 98;refine(ch g _ en mi _ HP1.out).mono ?_;rw[hlp];simp only[if_true];rintro e w2 ⟨rfl,h1,h2⟩;have HP2:=G h1;have HG2:=G (am HG1.out h2);have Hb2:=G (Hb1.out.grown h2 (fun e=>hbg (Z e)));have HB2:=G (HB1.out.grown h2 (fun e=>hrg (Z e)));clear hbc;have hbc:=Hb2.out.cell;have hrc:=HB2.out.cell;have hrf:=HB2.out.frozen;clear h1 h2 HP1;have HL:=G (pq f (fun i hi=>hEs i (by omega)) (w2.heap.size+1) g w2.heap.size w.heap.size nm l.tail en (w2.alloc (.cells #[.int .i64 5, .string ⟨#[]⟩, .string (ai nm), .string ⟨#[]⟩, .int .i64 0, .slice none 0 0] 70)) (HP2.out.ext (O w2 _)) (Hb2.out.alloc _) (an w2 _ _) (by rw[World.size_alloc];exact ah _) (by have:=HP2.out.lt;omega) (by omega) (by have:=Hb2.out.lt;omega) (by omega) (by have:=Hb2.out.lt;omega) hf' (by omega));have HB3:=G (HB2.out.alloc (.cells #[.int .i64 5, .string ⟨#[]⟩, .string (ai nm), .string ⟨#[]⟩, .int .i64 0, .slice none 0 0] 70));have Hb3:=G (Hb2.out.alloc (.cells #[.int .i64 5, .string ⟨#[]⟩, .string (ai nm), .string ⟨#[]⟩, .int .i64 0, .slice none 0 0] 70));have hz2:w.heap.size+2<=w2.heap.size:=HB2.out.lt;have HG3:=G (am HG2.out ((O w2 (.cells #[.int .i64 5, .string ⟨#[]⟩, .string (ai nm), .string ⟨#[]⟩, .int .i64 0, .slice none 0 0] 70)).grownBy (some g)));clear hbc;have hbc:=Hb3.out.cell)|(go_at_call 102;refine HL.out.mono ?_;intro e w5 hh;rw[hx]at hh;obtain⟨hF,rfl,hPA,C,n,cap,hX,hR⟩:=hh;have HG5:=G (jg HG3.out hF (by omega) (by omega));have HP5:=G hPA;have HRD5:=G (hR.mono (Q:=fun b=>w.heap.size+1<b) (fun b hb _=>by omega));have HV5:=G hX;have HB5:=G (hF.blk HB3.out (by omega) hrg (by omega));clear hrc hrf;have hrc:=HB5.out.cell;have hrf:=HB5.out.frozen;have hvc:=HV5.out.cell;clear hF hPA hX hR));obtain⟨hset,hfin⟩:=qp (.mk 5 [] nm [] 0 a) 5 ⟨#[]⟩ (ai nm) ⟨#[]⟩ 0 C n cap HR.out rfl rfl rfl rfl rfl (eD _) HB5.out HG5.out HP5.out hgl HRD5.out;simp only[World.setCells,aD,Nat.reduceAdd]at hset hfin;exact bodyPost_ret (v:= .agg #[.int .i64 5, .string ⟨#[]⟩, .string (ai nm), .string ⟨#[]⟩, .int .i64 0, .slice C n cap]) (by simp[results,results206,go_sem,hset]) rfl hfin
theorem sS (f:Nat) (hff:f<=400000) (hEs: ∀i,i<=f->eF i):il (f+1):=by
 intro nm l en w g h hf
 cases hls:cP p' l with
 |true=>
  cases hx:bQ f 1 l.tail with
  |error p=>exact vH f nm l en w g h (hEs f (ah _)) hf hls p.1 p.2 hx
  |ok p=>
   cases hrs:cP rW p.2 with
   |false=>exact vI f nm l en w g h (hEs f (ah _)) hf hls p.1 p.2 hx hrs
   |true=>exact xV f nm l en w g h (hEs f (ah _)) hf hls p.1 p.2 hx hrs
 |false=>
  cases hlp:cP mi l with
  |false=>exact sT f nm l en w g h hls hlp
  |true=>
   cases hx:fu f l.tail with
   |error p=>exact yC f nm l en w g h hEs hff hf hls hlp p.1 p.2 hx
   |ok p=>exact AD f nm l en w g h hEs hff hf hls hlp p.1 p.2 hx
end
section
open Go.RowKit
theorem vM (f:Nat) (hP:pM f) (hEs: ∀i,i<=f->eF i):eF (f+1):=by
 intro n0 l en w g h hn1 hn7 hf;have HX0:=G (O w (.cells #[.int .i64 0, .string ⟨#[]⟩, .string ⟨#[]⟩, .string ⟨#[]⟩, .int .i64 0, .slice none 0 0] 70));have HB0:=G (an w 70 #[.int .i64 0, .string ⟨#[]⟩, .string ⟨#[]⟩, .string ⟨#[]⟩, .int .i64 0, .slice none 0 0]);have HP0:=G (h.ext HX0.out);have hgl:=h.lt;have hrg:w.heap.size≠g:=by omega
 have hgr:g≠w.heap.size:=by omega
 have hfp:4*l.length+1<=f:=by omega
 have HRL:=G (show bQ (f+1) n0 l=(cL f l).then fun x r=>gL f n0 x r from by rw[bQ]);clear h hf;go_enter func183,ntmps183
 cases hp0:cL f l with
 |error p=>
  obtain⟨q,er⟩:=p;have HR:=G (show bQ (f+1) n0 l= .error (q,er)from by rw[HRL.out,hp0];rfl);go_wp2_with (go_at_call 205;refine(hP l en _ g HP0.out hfp).mono ?_;intro e w1 hh;rw[hp0]at hh;obtain⟨hG,rfl⟩:=hh;unfold a6;have HG1:=G (am (HX0.out.grownBy _) hG);clear hG);exact⟨rfl,fY HR.out HG1.out⟩
 |ok p=>
  obtain⟨x0,q0⟩:=p;have hq0:=(iD f).2.2.1 _ _ _ hp0;have HR0:=G (show gL f n0 x0 q0=bQ (f+1) n0 l from by rw[HRL.out,hp0];rfl);clear HRL;go_wp2_with (go_at_call 205;refine(hP l en _ g HP0.out hfp).mono ?_;intro e w1 hh;rw[hp0]at hh;obtain⟨hG,A0,n1,c0,rfl,hR,hPA⟩:=hh;have hz1:=hG.size;rw[World.size_alloc]at hz1;have hE:=O w1 (.cells #[.int .i64 x0.k, .string (ai x0.op), .string (ai x0.nm), .string (ai x0.tx), .int .i64 x0.v, .slice A0 n1 c0] 70);have HG1:=G (am (am (HX0.out.grownBy (some g)) hG) (hE.grownBy (some g)));have HB1:=G ((HB0.out.grown hG (fun e=>hrg (Z e))).ext hE);have HV1:=G (an w1 70 #[.int .i64 x0.k, .string (ai x0.op), .string (ai x0.nm), .string (ai x0.tx), .int .i64 x0.v, .slice A0 n1 c0]);have HRD1:=G (hR.keep (.of_ext hE) (Q:=fun b=>w.heap.size<b/\b≠w1.heap.size) (fun b hb hlt=>⟨by rw[World.size_alloc]at hb;omega,by omega⟩));have HP1:=G (hPA.ext hE);have hv1:w1.heap.size≠g:=(by have:=hPA.lt;omega);clear hG hR hPA hE);have hpr:w.heap.size<w1.heap.size:=by omega
  have hprn:w.heap.size≠w1.heap.size:=by omega
  have hprn2:w1.heap.size≠w.heap.size:=by omega
  have hgv:g≠w1.heap.size:=fun e=>hv1 e.symm;clear HX0 HB0 HP0
  go_loopw [] (fun wr=> ∃(k:Nat) (x:Ex) (A:Option Addr) (n c:Nat) (r:List bN),4*r.length+1<=k/\k<=f/\Hid (gL k n0 x r=bQ (f+1) n0 l)/\Hid (PA wr g r en)/\Hid (aL wr w1.heap.size 70 #[.int .i64 x.k, .string (ai x.op), .string (ai x.nm), .string (ai x.tx), .int .i64 x.v, .slice A n c])/\Hid (cE wr (fun b=>w.heap.size<b/\b≠w1.heap.size) (.slice A n c) x.args)/\Hid (aL wr w.heap.size 70 #[.int .i64 0, .string ⟨#[]⟩, .string ⟨#[]⟩, .string ⟨#[]⟩, .int .i64 0, .slice none 0 0])/\Hid (w.grownBy wr (some g))) (fun wr=>tokN g wr)
  case atStart=>exact⟨f,x0,A0,n1,c0,q0,by omega,ah _,HR0,HP1,HV1,HRD1,HB1,HG1⟩
  case round=>
   clear HR0 HP1 HV1 HRD1 HB1 HG1;obtain⟨k,x,A,n,c,r,hk,hkf,HRes,HPr,HVr,HRr,HBr,HGr⟩:=hrel;obtain⟨k,rfl⟩: ∃k',k=k'+1:=⟨k-1,by omega⟩
   have HN:=G (d_ g r en wr HPr.out);have HSt:=G (show gL (k+1) n0 x r=if(ci r).k=5/\n0<=kD (ci r).t then(bQ k (kD (ci r).t+1) r.tail).then fun y q=>gL k n0 (.mk 7 (ci r).t [] [] 0 [x,y]) q else .ok (x,r)from by rw[gL]);by_cases hgo:(ci r).k=5/\n0<=kD (ci r).t
   rotate_left
   ·have HR:=G (show bQ (f+1) n0 l= .ok (x,r)from by rw[<-HRes.out,HSt.out,if_neg hgo]);clear HSt HRes;generalize ci r=t at*;obtain⟨tk,tt,tv,tf⟩:=t;simp only at hgo HN;have HLV:=G (kC tt);generalize kD tt=L at*;by_cases h5:tk=5
    ·have hlt:L<n0:=by omega
     obtain rfl:tk=5:=h5;clear hgo;go_wp2_with (first|(go_at_call 146;refine HN.out.mono ?_;rintro e w2 ⟨rfl,hE⟩;have hz2:=cJ hE;have hE2:=hE.alloc' (.cells #[.int .i64 5, .string (ai tt), .int .i64 tv, .int .i64 tf] 206);have HG3:=G (am HGr.out (hE2.grownBy (some g)));have HB3:=G (HBr.out.ext hE2);have HV3:=G (HVr.out.ext hE2);have HT3:=G (an w2 206 #[.int .i64 5, .string (ai tt), .int .i64 tv, .int .i64 tf]);have HR3:=G (HRr.out.keep (.of_ext hE2) (fun _ hb _=>hb));have HP3:=G (HPr.out.ext hE2);have hvc:=HV3.out.cell;have hrc:=HB3.out.cell;have hrf:=HB3.out.frozen;clear hE hE2 HN)|(go_at_call 153;refine(HLV.out _).mono ?_;rintro e w3 ⟨rfl,rfl⟩;clear HLV));obtain⟨hset,hfin⟩:=ki x x.k (ai x.op) (ai x.nm) (ai x.tx) x.v A n c HR.out rfl rfl rfl rfl rfl rfl HB3.out HG3.out HP3.out hgl (HR3.out.mono fun b hb _=>by omega);simp only[World.setCells,aD,Nat.reduceAdd]at hset hfin;change bodyPost prog Tryz.f183 _ Exit.ret _ _;exact bodyPost_ret (v:= .agg #[.int .i64 x.k, .string (ai x.op), .string (ai x.nm), .string (ai x.tx), .int .i64 x.v, .slice A n c]) (by simp[results,results183,go_sem,hset]) rfl hfin
    ·have hb5:(tk==5)=false:=beq_eq_false_iff_ne.2 h5;have hb5n:(tk !=5)=true:=by rw[bne,hb5];rfl
     clear hgo;go_wp2_with (first|(go_at_call 146;refine HN.out.mono ?_;rintro e w2 ⟨rfl,hE⟩;have hz2:=cJ hE;have hE2:=hE.alloc' (.cells #[.int .i64 tk, .string (ai tt), .int .i64 tv, .int .i64 tf] 206);have HG3:=G (am HGr.out (hE2.grownBy (some g)));have HB3:=G (HBr.out.ext hE2);have HV3:=G (HVr.out.ext hE2);have HT3:=G (an w2 206 #[.int .i64 tk, .string (ai tt), .int .i64 tv, .int .i64 tf]);have HR3:=G (HRr.out.keep (.of_ext hE2) (fun _ hb _=>hb));have HP3:=G (HPr.out.ext hE2);have hvc:=HV3.out.cell;have hrc:=HB3.out.cell;have hrf:=HB3.out.frozen;clear hE hE2 HN)|(go_at_call 153;refine(HLV.out _).mono ?_;rintro e w3 ⟨rfl,rfl⟩;clear HLV));obtain⟨hset,hfin⟩:=ki x x.k (ai x.op) (ai x.nm) (ai x.tx) x.v A n c HR.out rfl rfl rfl rfl rfl rfl HB3.out HG3.out HP3.out hgl (HR3.out.mono fun b hb _=>by omega);simp only[World.setCells,aD,Nat.reduceAdd]at hset hfin;change bodyPost prog Tryz.f183 _ Exit.ret _ _;exact bodyPost_ret (v:= .agg #[.int .i64 x.k, .string (ai x.op), .string (ai x.nm), .string (ai x.tx), .int .i64 x.v, .slice A n c]) (by simp[results,results183,go_sem,hset]) rfl hfin
   ·obtain⟨h5,hle⟩:=hgo;obtain⟨⟨tk,tt,tv,tf⟩,q,rfl⟩:=lV h5 (by decide);have HS2:=G (show bQ (f+1) n0 l=(bQ k (kD tt+1) q).then fun y r=>gL k n0 (.mk 7 tt [] [] 0 [x,y]) r from by rw[<-HRes.out,HSt.out,if_pos ⟨h5,hle⟩];rfl);clear HSt HRes;simp only[ci]at h5 hle HN;obtain rfl:tk=5:=h5;have HLV:=G (kC tt);have hL:=B7 tt;have hfq:4*q.length+2<=k:=by simp only[ae]at hk;omega
    generalize hLe:kD tt=L at*;have hlt: ¬L<n0:=by omega
    have hw:wrap64 (L+1)=L+1:=by simp only[wrap64];omega
    have hw2:IntKind.i64.wrap (L+1)=L+1:=by simp[IntKind.wrap,IntKind.signed,IntKind.bits];omega
    clear hLe;go_wp2_with (first|(go_at_call 146;refine HN.out.mono ?_;rintro e w2 ⟨rfl,hE⟩;have hz2:=cJ hE;have hE2:=hE.alloc' (.cells #[.int .i64 5, .string (ai tt), .int .i64 tv, .int .i64 tf] 206);have HG3:=G (am HGr.out (hE2.grownBy (some g)));have HB3:=G (HBr.out.ext hE2);have HV3:=G (HVr.out.ext hE2);have HT3:=G (an w2 206 #[.int .i64 5, .string (ai tt), .int .i64 tv, .int .i64 tf]);have HR3:=G (HRr.out.keep (.of_ext hE2) (fun _ hb _=>hb));have HP3:=G (HPr.out.ext hE2);have hvc:=HV3.out.cell;have hrc:=HB3.out.cell;have hrf:=HB3.out.frozen;clear hE hE2 HN;obtain⟨A3,c3,hb,ht,hn⟩:=HP3.out;obtain⟨b,off,rfl,hlt2,_⟩:=ht.at_ 0 (by simp);have hbc:=hb.cell;have hbf:=hb.frozen)|(go_at_call 153;refine(HLV.out _).mono ?_;rintro e w3 ⟨rfl,rfl⟩;clear HLV));all_goals
     first|have hq:=PA.next_a hb ht (hn b off rfl (by simp)) hlt2 (by assumption)|have hq:=PA.next_b hb ht (hn b off rfl (by simp)) hlt2 (by assumption)
     obtain⟨h1,h2⟩:=hq;have htg:w2.heap.size≠g:=by have:=HPr.out.lt;omega
     have HG5:=G (am HG3.out h2);have HB5:=G (HB3.out.grown h2 (fun e=>hrg (Z e)));have HV5:=G (HV3.out.grown h2 (fun e=>hv1 (Z e)));have HT5:=G (HT3.out.grown h2 (fun e=>htg (Z e)));have HR5:=G (HR3.out.keep (.of_grown h2 fun b hb e=>by injection e with e;omega) (fun b hb _=>hb));have HP5:=G h1;clear hb ht hn hlt2 hbc hbf hvc hrc hrf h2 h1;generalize World.setCell _ _ _=w5 at*;have hg5:g<w5.heap.size:=HP5.out.lt;have hz5:w.heap.size<w5.heap.size:=HB5.out.lt;have hv5:w1.heap.size<w5.heap.size:=HV5.out.lt
     cases hpe:bQ k (L+1) q with
     |error p=>
      obtain⟨q1,er⟩:=p;have HR:=G (show bQ (f+1) n0 l= .error (q1,er)from by rw[HS2.out,hpe];rfl);refine bR 9 7 [(6,fun v=>v= .agg #[.int .i64 0, .string ⟨#[]⟩, .string ⟨#[]⟩, .string ⟨#[]⟩, .int .i64 0, .slice none 0 0],fun _ _=>False),(7,fun v=> ∃gb,v= .slice (some ⟨gb,0,none⟩) 2 2,fun _ _=>True)] 6 (some g) mixed (by kernel_rfl) ⟨fun _ _ _ h _=>h,fun _ _ _ h _=>h,trivial⟩ ⟨.inl rfl, .inr fun _ _ _ h _=>h,trivial⟩ ?_;repeat (refine sx ?_ (fun w1 hU=> ?_) ?_;rotate_left;(focus have f1:=(HT5.out.grown (aB hU) (fun e=>htg (Z e))).cell;have f2:=(HV5.out.grown (aB hU) (fun e=>hv1 (Z e))).cell;clear hU;go_simp<;>with_reducible rfl);simp only[aY,aX,aW,aV,aU])
      refine bH _ _ (by rfl) rfl ⟨_,rfl⟩ rfl (fun w6 hT hp K hK=> ?_) ?_
      ·clear hp;have hc:=hEs k (by omega) (L+1) q en w6 g (HP5.out.ext hT.un) (by omega) (by omega) hfq;have HT6:=G hT.un;clear hT;go_simp;refine hc.mono ?_;intro e w7 hh;rw[hpe]at hh;obtain⟨hG,rfl⟩:=hh;unfold a6;intro a' hd;exact⟨hd,fY HR.out (am HG5.out (am (HT6.out.grownBy _) hG))⟩
      rintro _ rfl;simp only[aY,aX,aW,aV,aU];refine bJ _ _ (by rfl) rfl ⟨_,0,rfl⟩ (by simp) (fun w6 hU hp K hK=> ?_) ?_
      ·clear hp;go_simp;exact hK _ _ (O w6 _) ⟨_,rfl⟩ trivial
      rintro _ ⟨gb,rfl⟩;simp only[aY,aX,aW,aV,aU];repeat (refine sx ?_ (fun w1 hU=> ?_) ?_;rotate_left;(focus go_simp<;>with_reducible rfl);simp only[aY,aX,aW,aV,aU])
      intro w6 hw6 hp;exact(hp _ (.tail _ (.head _))).elim
     |ok p=>
      obtain⟨y,q1⟩:=p;have hq1:=(iD k).1 _ _ _ _ hpe;have HRN:=G (show gL k n0 (.mk 7 tt [] [] 0 [x,y]) q1=bQ (f+1) n0 l from by rw[HS2.out,hpe];rfl)
      refine bR 9 7 [(6,fun v=> ∃A n c,v= .agg #[.int .i64 y.k, .string (ai y.op), .string (ai y.nm), .string (ai y.tx), .int .i64 y.v, .slice A n c],fun v wx=> ∀A n c,v= .agg #[.int .i64 y.k, .string (ai y.op), .string (ai y.nm), .string (ai y.tx), .int .i64 y.v, .slice A n c]->cE wx (fun b=>w5.heap.size<=b) (.slice A n c) y.args/\PA wx g q1 en),
        (7,fun v=> ∃gb,v= .slice (some ⟨gb,0,none⟩) 2 2,fun v wx=>cE wx (fun b=>w.heap.size<b/\b≠w1.heap.size) v [x,y])] 6 (some g) mixed (by kernel_rfl)
       ⟨fun _ _ _ h hx A n c e=>⟨(h A n c e).1.keep (.of_ext hx) (fun _ hb _=>hb),(h A n c e).2.ext hx⟩,fun _ _ _ h hx=>h.keep (.of_ext hx) (fun _ hb _=>hb),trivial⟩
       ⟨.inl rfl, .inr fun _ _ _ h hx=>h.keep (.of_grown hx fun b hb e=>by injection e with e;omega) (fun _ hb _=>hb),trivial⟩ ?_
      repeat (refine sx ?_ (fun w1 hU=> ?_) ?_;rotate_left;(focus have f1:=(HT5.out.grown (aB hU) (fun e=>htg (Z e))).cell;have f2:=(HV5.out.grown (aB hU) (fun e=>hv1 (Z e))).cell;clear hU;go_simp<;>with_reducible rfl);simp only[aY,aX,aW,aV,aU])
      refine bH _ _ (by rfl) rfl ⟨_,none,0,0,rfl⟩ rfl (fun w6 hT hp K hK=> ?_) ?_
      ·clear hp;have hc:=hEs k (by omega) (L+1) q en w6 g (HP5.out.ext hT.un) (by omega) (by omega) hfq;have HT6:=G hT.un;clear hT;go_simp;refine hc.mono ?_;intro e w7 hh;rw[hpe]at hh;obtain⟨hG,A,n,c,rfl,hR,hPA⟩:=hh;exact hK _ _ hG ⟨_,_,_,rfl⟩ (fun A' n' c' e=>by injection e with e;simp only[eq,cO,dw,and_true,true_and]at e;obtain⟨rfl,rfl,rfl⟩:=e;exact⟨hR.mono (fun b hb _=>aZ (cJ HT6.out) hb),hPA⟩)
      rintro _ ⟨A2,n2,c2,rfl⟩;simp only[aY,aX,aW,aV,aU];refine bJ _ _ (by rfl) rfl ⟨_,0,rfl⟩ (by simp) (fun w6 hU hp K hK=> ?_) ?_
      ·have h3:=(hp _ (.head _) (by kernel_rfl)) A2 n2 c2 rfl;have hU':=aB hU;have hz6:=hU'.size;have hr6:=HR5.out.keep (.of_grown hU' fun b hb e=>by injection e with e;omega) (fun b hb _=>hb);clear hp hU;go_simp;exact hK _ _ (O w6 _) ⟨_,rfl⟩ (cE.two (an w6 _ _) ⟨by omega,by omega⟩ (hr6.keep (.of_ext (O w6 _)) (fun _ hb _=>hb)) (h3.1.keep (.of_ext (O w6 _)) (fun b hb _=>⟨by omega,by omega⟩)))
      rintro _ ⟨gb,rfl⟩;simp only[aY,aX,aW,aV,aU];repeat (refine sx ?_ (fun w1 hU=> ?_) ?_;rotate_left;(focus go_simp<;>with_reducible rfl);simp only[aY,aX,aW,aV,aU])
      intro w8 hw8 hp;have h4:=hp _ (.head _);have h3:=(hp _ (.tail _ (.head _)) A2 n2 c2 rfl).2;clear hp;simp only[ac,ap];have hw8:=aB hw8;have hV8:=HV5.out.grown hw8 (fun e=>hv1 (Z e));have hc9:=dr w1.heap.size [.int .i64 7, .string (ai tt), .string ⟨#[]⟩, .string ⟨#[]⟩, .int .i64 0, .slice (some ⟨gb,0,none⟩) 2 2] 0 w8;have hG9:=dx (am HG5.out hw8) hc9 (aH hpr);have hV9:=aL.put6 hV8 (.int .i64 7) (.string (ai tt)) (.string ⟨#[]⟩) (.string ⟨#[]⟩) (.int .i64 0) (.slice (some ⟨gb,0,none⟩) 2 2);have hB9:=(HB5.out.grown hw8 (fun e=>hrg (Z e))).grown hc9 (fun e=>hprn (Z e));have hR9:=h4.keep (.of_grown hc9 fun b hb e=>hb.2 (Z e)) (fun b hb _=>hb);have hP9:=h3.grown hc9 (fun k e=>by injection e with e;omega);simp only[World.setCells,aD,Nat.reduceAdd]at hG9 hV9 hB9 hR9 hP9;have hvc:=hV8.cell;have hvf:=hV8.frozen;have HG9:=G hG9;have HV9:=G hV9;have HB9:=G hB9;have HR9:=G hR9;have HP9:=G hP9;clear hw8 hV8 hc9 hG9 hV9 hB9 hR9 hP9 h4 h3;go_wp2_with fail;go_roundw
      case rel=>exact⟨k, .mk 7 tt [] [] 0 [x,y],some ⟨gb,0,none⟩,2,2,q1,by omega,by omega,HRN,HP9,HV9,HR9,HB9,HG9⟩
      case measure=>rw[HPr.out.tokN,HP9.out.tokN];simp only[ae];omega
end
section
open Go.RowKit
theorem om: ∀(f:Nat),f<=400000->(∀i,i<=f->eF i)/\pM f/\il f
 |0,_=>by
  refine⟨fun i hi=> ?_,?_,?_⟩
  ·obtain rfl:i=0:=by omega
   intro n l en w g h _ _ hf;omega
  ·intro l en w g h hf;omega
  ·intro nm l en w g h hf;omega
 |f+1,hf=>by
  obtain⟨h1,h2,h3⟩:=om f (by omega);have hE:=vM f h2 h1
  exact⟨fun i hi=>by
   rcases fh f i with h|h
   ·obtain rfl:i=f+1:=by omega
    exact hE
   ·exact h1 i h,vr f (h1 f (ah _)) h2 h3,sS f (by omega) h1⟩
theorem yf {f:Nat} (hf:f<=400000):eF f:=(om f hf).1 f (ah _)
theorem vD {f:Nat} (hf:f<=400000):il f:=(om f hf).2.2
def wg (g:Nat) (en:Int) (w:World) (r:PR St) (e:Ending) (w':World):Prop:=
 w.grownBy w' (some g)/\match r with
 | .ok (s,q)=> ∃A n c B m d C k i,e= .returned (.agg #[.int .i64 s.k, .string (ai s.nm), .slice A n c, .slice B m d, .slice C k i])/\
   SV.ok w' (fun b=>w.heap.size<=b) ⟨s, .slice A n c, .slice B m d, .slice C k i⟩/\PA w' g q en
 | .error (q,n)=>e=a6 en q n
def Ds (g:Nat) (en:Int) (w:World) (r:PR (List St)) (e:Ending) (w':World):Prop:=
 w.grownBy w' (some g)/\match r with
 | .ok (b,q)=> ∃A n c,e= .returned (.slice A n c)/\cR w' (fun b=>w.heap.size<=b) (.slice A n c) b/\PA w' g q en
 | .error (q,n)=>e=a6 en q n
theorem cW {g:Nat} {en:Int} {w w':World} {r:PR St} {q:List bN} {n:Int} (hr:r= .error (q,n)) (hG:w.grownBy w' (some g)):wg g en w r (a6 en q n) w':=by
 subst hr;exact⟨hG,rfl⟩
theorem tT {g:Nat} {en:Int} {w w':World} {r:PR (List St)} {q:List bN} {n:Int} (hr:r= .error (q,n)) (hG:w.grownBy w' (some g)):Ds g en w r (a6 en q n) w':=by
 subst hr;exact⟨hG,rfl⟩
def ly (f:Nat):Prop:= ∀(l:List bN) (en:Int) (w:World) (g:Nat),PA w g l en->4*l.length+1<=f->Calls prog 104 #[.pointer (some ⟨g,0,none⟩)] w (Ds g en w (dq f l))
def Cw (f:Nat):Prop:= ∀(l:List bN) (en:Int) (w:World) (g:Nat),PA w g l en->4*l.length+3<=f->Calls prog 182 #[.pointer (some ⟨g,0,none⟩)] w (wg g en w (nr f l))
def yV (f:Nat):Prop:= ∀(l:List bN) (en:Int) (w:World) (g:Nat),PA w g l en->4*l.length+3<=f->Calls prog 148 #[.pointer (some ⟨g,0,none⟩)] w (wg g en w (dn f l))
theorem EO:nf prog 57 72 5 96 (.agg #[.int .i64 0, .string ⟨#[]⟩, .slice none 0 0, .slice none 0 0, .slice none 0 0]):=⟨underlying57,by kernel_rfl,by rfl,by decide⟩
theorem zp (s:St) (A B C:Option Addr) (n m k c d i:Nat): ∀u∈wl ⟨s, .slice A n c, .slice B m d, .slice C k i⟩,u.oneCell'=true:=by
 intro u hu;simp only[wl,fC,ep,or_false]at hu;rcases hu with rfl|rfl|rfl|rfl|rfl<;>rfl
theorem th (f:Nat) (hff:f<=400000) (hS: ∀i,i<=f->yV i):ly (f+1):=by
 intro l en w g h hf;have HP0:=G h;have hgl:=h.lt;have HR0:=G (show dq (f+1) l=(bV C9 l).then fun _ r=>ek f [] r from by rw[dq]);clear h;go_enter func104,ntmps104
 cases hlb:cP C9 l with
 |false=>
  have HR:=G (show dq (f+1) l= .error (l,3)from by rw[HR0.out];unfold bV;rw[hlb];rfl);go_wp2_with (go_at_call 100;refine(fT g _ en C9 _ HP0.out hlb).mono ?_;unfold a6;rintro e w1 ⟨rfl,hG⟩;have HG1:=G hG;clear hG);exact⟨rfl,tT HR.out HG1.out⟩
 |true=>
  have HR:=G (show ek f [] l.tail=dq (f+1) l from by rw[HR0.out];unfold bV;rw[hlb];rfl);have hlt:=bq hlb;go_wp2_with (go_at_call 100;refine(d8 g _ en C9 _ HP0.out hlb).mono ?_;rintro e w1 ⟨rfl,h1,h2⟩;have HP1:=G h1;have HG1:=G h2;clear h1 h2);clear HR0 HP0
  go_loopw [3] (fun vo wr=> ∃(k:Nat) (acc:List SV) (r:List bN) (C:Option Addr) (n cap:Nat),vo= .slice C n cap/\acc.length=n/\4*r.length+4<=k/\k<=f/\n+r.length<=l.length/\Hid (ek k (acc.map (·.s)) r=dq (f+1) l)/\Hid (PA wr g r en)/\
   Hid (ij wr w.heap.size 72 (.slice C n cap) acc)/\Hid (w.grownBy wr (some g))) (fun vo wr=>tokN g wr)
  case atStart=>exact⟨f,[],l.tail,none,0,0,rfl,rfl,by omega,ah _,by simp only[List.length_tail];omega,HR,HP1,G (ij.nil_ _ _ _),HG1⟩
  case round=>
   clear HR HP1 HG1;obtain⟨k,acc,r,C,n,cap,rfl,hn,hk,hkf,hnl,HRes,HPr,HOr,HGr⟩:=hrel;obtain⟨k,rfl⟩: ∃k',k=k'+1:=⟨k-1,by omega⟩
   have HSt:=G (show ek (k+1) (acc.map (·.s)) r=if cP CD r then .ok (acc.map (·.s),r.tail)else(dn k r).then fun s q=>ek k (acc.map (·.s)++[s]) q from by rw[ek])
   cases hrb:cP CD r with
   |true=>
    have HR:=G (show dq (f+1) l= .ok (acc.map (·.s),r.tail)from by rw[<-HRes.out,HSt.out,if_pos hrb]);go_wp2_with (go_at_call 98;refine(ch g r en CD _ HPr.out).mono ?_;rw[hrb];simp only[if_true];rintro e w2 ⟨rfl,h1,h2⟩;have HP2:=G h1;have HG2:=G (am HGr.out h2);have HO2:=G (HOr.out.grown h2 (fun k e=>by injection e with e;omega));clear h1 h2);go_ret;rw[HR.out];exact⟨HG2.out,_,_,_,rfl,HO2.out.rd,HP2.out⟩
   |false=>
    have HS2:=G (show dq (f+1) l=(dn k r).then fun s q=>ek k (acc.map (·.s)++[s]) q from by rw[<-HRes.out,HSt.out,if_neg (by rw[hrb];simp)]);have hfs:4*r.length+3<=k:=by omega
    clear HRes HSt
    cases hps:dn k r with
    |error p=>
     obtain⟨q,er⟩:=p;have HR:=G (show dq (f+1) l= .error (q,er)from by rw[HS2.out,hps];rfl)
     go_wp2_with (first
      |(go_at_call 98;refine(ch g r en CD _ HPr.out).mono ?_;rw[hrb];simp only[aN,if_false];rintro e w2 ⟨rfl,h1,h2⟩;have HP2:=G h1;have HG2:=G (am HGr.out h2);clear h1 h2 HPr)
      |(go_at_call 148;refine(hS k (by omega) r en _ g HP2.out hfs).mono ?_;intro e w3 hh;rw[hps]at hh;obtain⟨hG,rfl⟩:=hh;unfold a6;have HG3:=G (am HG2.out hG);clear hG))
     exact⟨rfl,tT HR.out HG3.out⟩
    |ok p=>
     obtain⟨s,q⟩:=p;have hq:=(nh k).2.2.2 _ _ _ hps;have HRN:=G (show ek k (acc.map (·.s)++[s]) q=dq (f+1) l from by rw[HS2.out,hps];rfl)
     go_wp2_with (first
      |(go_at_call 98;refine(ch g r en CD _ HPr.out).mono ?_;rw[hrb];simp only[aN,if_false];rintro e w2 ⟨rfl,h1,h2⟩;have HP2:=G h1;have HG2:=G (am HGr.out h2);have HO2:=G (HOr.out.grown h2 (fun k e=>by injection e with e;omega));clear h1 h2 HOr)
      |(go_at_call 148;refine(hS k (by omega) r en _ g HP2.out hfs).mono ?_;intro e w3 hh;rw[hps]at hh;obtain⟨hG,A1,n1,c1,A2,n2,c2,A3,n3,c3,rfl,hV,hPA⟩:=hh;have hE:=O w3 (.cells #[.int .i64 s.k, .string (ai s.nm), .slice A1 n1 c1, .slice A2 n2 c2, .slice A3 n3 c3] 72);have hz2:=HG2.out.size;have hzz:=hG.size;have HG3:=G (am (am HG2.out hG) (hE.grownBy (some g)));have HO3:=G ((HO2.out.grown hG (fun k e=>by injection e with e;omega)).ext hE);have hrow:=World.ownsRow.lt HO2.out.1;have HV3:=G (hV.keep (.of_ext hE) (Q:=fun b=>w.heap.size<=b/\some b≠Value.ownBlock (.slice C n cap)) (fun b hb _=>⟨by omega,fun e=>by have:=(hrow b e.symm).2;omega⟩));have HP3:=G (hPA.ext hE);have HN3:=G (an w3 72 #[.int .i64 s.k, .string (ai s.nm), .slice A1 n1 c1, .slice A2 n2 c2, .slice A3 n3 c3]);have hrw:=fun k hk=>(hrow k hk).1;clear hG hV hPA hE hrow HO2)
      |(at_builtin;refine eW EO rfl _ _ rfl w.heap.size _ n (d9 acc) rfl (by have:=HO3.out.1;rw[hn]at this;exact this) w3.heap.size (wl ⟨s, .slice A1 n1 c1, .slice A2 n2 c2, .slice A3 n3 c3⟩) rfl HN3.out rfl (zp _ _ _ _ _ _ _ _ _ _) (by omega) (by decide) HG3.out.size ?_;intro A' cap' w4 hq1 hq2 hq3;have HO4:=G (HO3.out.snoc HV3.out (by rw[hn];exact hq1) hq2 hq3);have HG4:=G (show w.grownBy w4 (some g)from⟨hq2.os.trans HG3.out.os,hq2.tape.trans HG3.out.tape,hq2.output.trans HG3.out.output,aZ HG3.out.size hq2.size,fun i hi hne=>(hq2.block i (aA hi HG3.out.size) (fun e=>by have:=hrw i e.symm;omega)).trans (HG3.out.block i hi hne)⟩);have HP4:=G (HP3.out.grown hq2 (fun k e=>by have:=hrw k e;omega));clear hq1 hq2 hq3))
     go_roundw
     case rel=>exact⟨k,acc++[⟨s, .slice A1 n1 c1, .slice A2 n2 c2, .slice A3 n3 c3⟩],q,some ⟨A',0,none⟩,n+1,cap',rfl,by simp[hn],by omega,by omega,by omega,G (by simpa using HRN.out),HP4,G (by have:=HO4.out;rw[hn]at this;exact this),HG4⟩
     case measure=>rw[HPr.out.tokN,HP4.out.tokN];omega
end
section
open Go.RowKit
theorem cR.one {w:World} {P:Nat->Prop} {gb:Nat} {e:TypeId} {s:St} {a b c:Value} (hB:aL w gb e #[.int .i64 s.k, .string (ai s.nm),a,b,c]) (hP:P gb) (h:SV.ok w P ⟨s,a,b,c⟩):cR w P (.slice (some ⟨gb,0,none⟩) 1 1) [s]:=by
 refine .row gb 0 1 1 [s] (fun _=>a) (fun _=>b) (fun _=>c) hP hB.lt rfl (ah _) (by simp[maxLen]) (fun i hi=> ?_) (fun i hi=> ?_) (fun i hi=> ?_) (fun i hi=> ?_);all_goals
  have hi:i=0:=by simpa using hi
  subst hi
 ·exact⟨hB.cell 0,hB.cell 1,hB.cell 2,hB.cell 3,hB.cell 4⟩
 ·exact h.1
 ·exact h.2.1
 ·exact h.2.2
theorem Cc {w W:World} {g pr:Nat} {en:Int} {q:List bN} {z0 z1 z2 z3 z4:Value} {r:PR St} (s:St) (k:Int) (sn:ByteArray) (A:Option Addr) (n c:Nat) (B:Option Addr) (m d:Nat) (C:Option Addr) (i j:Nat) (hr:r= .ok (s,q)) (hk:s.k=k) (hn:ai s.nm=sn) (hpr:w.heap.size<=pr)
  (hB:aL W pr 72 #[z0,z1,z2,z3,z4]) (hG:w.grownBy W (some g)) (hPA:PA W g q en) (hg:g<w.heap.size) (hV:SV.ok W (fun b=>pr<b) ⟨s, .slice A n c, .slice B m d, .slice C i j⟩):
  (∀o,(W.setCells pr 0 [.int .i64 k, .string sn, .slice A n c, .slice B m d, .slice C i j]).cell? ⟨pr,o,none⟩=(#[.int .i64 k, .string sn, .slice A n c, .slice B m d, .slice C i j]:Array Value)[o]?)/\
  wg g en w r (.returned (.agg #[.int .i64 k, .string sn, .slice A n c, .slice B m d, .slice C i j])) (W.setCells pr 0 [.int .i64 k, .string sn, .slice A n c, .slice B m d, .slice C i j]):=by
 subst hr hk hn;have hc:=dr pr [.int .i64 s.k, .string (ai s.nm), .slice A n c, .slice B m d, .slice C i j] 0 W;refine⟨(aL.put5' hB _ _ _ _ _).cell,dx hG hc hpr,A,n,c,B,m,d,C,i,j,rfl,hV.keep (.of_grown hc fun b hb e=>by injection e with e;omega) fun b hb _=>by omega,hPA.grown hc fun k e=>by injection e with e;omega⟩
def fP (f:Nat) (l:List bN):PR St:=(h_ l).then fun nm r=>
 if cP mi r then(ct f nm r).then fun x r=> .ok (.mk 7 [] [x] [] [],r)
 else if cP p' r then(bQ f 1 r.tail).then fun i r=>(bV rW r).then fun _ r=>(bV Bb r).then fun _ r=>(bQ f 1 r).then fun x r=> .ok (.mk 3 nm [i,x] [] [],r)
 else(bV Bb r).then fun _ r=>(bQ f 1 r).then fun x r=> .ok (.mk 2 nm [x] [] [],r)
theorem lm (f:Nat) (l:List bN) (h1:cP C_ l=false) (h2:cP sE l=false) (h3:cP lL l=false) (h4:cP p_ l=false):dn (f+1) l=(fP f l).then fun s r=>(bV uY r).then fun _ r=> .ok (s,r):=by
 rw[dn,if_neg (by rw[h1];simp),if_neg (by rw[h2];simp),if_neg (by rw[h3];simp),if_neg (by rw[h4];simp)];unfold fP
 cases h_ l<;>rfl
theorem cv {s:List UInt8} {l:List bN} (h:cP s l=true):bV s l= .ok ((),l.tail):=by unfold bV;rw[h];rfl
theorem ew {s:List UInt8} {l:List bN} (h:cP s l=false):bV s l= .error (l,3):=by unfold bV;rw[h];rfl
theorem bI {l:List bN} (h:(ci l).k=1):h_ l= .ok ((ci l).t,l.tail):=by unfold h_;rw[if_pos h]
theorem ke {l:List bN} (h: ¬(ci l).k=1):h_ l= .error (l,3):=by unfold h_;rw[if_neg h]
theorem then_ok {α β:Type} (a:α) (r:List bN) (k:α->List bN->PR β):PR.then (.ok (a,r)) k=k a r:=rfl
theorem bK {α β:Type} (q:List bN) (n:Int) (k:α->List bN->PR β):PR.then (.error (q,n)) k= .error (q,n):=rfl
structure SK (w:World) (g:Nat) (en:Int) (pb:Nat) (pc:Array Value) (sb:Nat) (sc:Array Value) (ty:TypeId) (X:World->Prop) (l:List bN) (W:World):Prop where
 pa:PA W g l en
 gr:w.grownBy W (some g)
 rb:aL W pb ty pc
 sv:aL W sb ty sc
 nn:g<w.heap.size/\w.heap.size<=pb/\pb<=sb
 xx:X W
 hx: ∀k,k=g\/k=sb-> ∀V V':World,V.grownBy V' (some k)->X V->X V'
section
variable {w W W':World} {g pb sb:Nat} {en:Int} {pc sc:Array Value} {ty:TypeId} {X:World->Prop} {l l':List bN}
theorem SK.step (K:SK w g en pb pc sb sc ty X l W) (hP:PA W' g l' en) (hG:W.grownBy W' (some g)):SK w g en pb pc sb sc ty X l' W':=
 ⟨hP,am K.gr hG,K.rb.grown hG (fun e=>by have:=K.nn;injection e with e;omega),K.sv.grown hG (fun e=>by have:=K.nn;injection e with e;omega),K.nn,K.hx _ (.inl rfl) _ _ hG K.xx,K.hx⟩
theorem SK.ext (K:SK w g en pb pc sb sc ty X l W) (hE:aq W W'):SK w g en pb pc sb sc ty X l W':=K.step (K.pa.ext hE) (hE.grownBy _)
theorem SK.cells (K:SK w g en pb pc sb sc ty X l W):(∀i,W.cell? ⟨pb,i,none⟩=pc[i]?)/\(∀i,W.frozen? ⟨pb,i,none⟩=false)/\(∀i,W.cell? ⟨sb,i,none⟩=sc[i]?)/\ ∀i,W.frozen? ⟨sb,i,none⟩=false:=
 ⟨K.rb.cell,K.rb.frozen,K.sv.cell,K.sv.frozen⟩
theorem SK.yes (K:SK w g en pb pc sb sc ty X l W) {s:List UInt8} (h:cP s l=true):Calls prog 98 #[.pointer (some ⟨g,0,none⟩), .string (ai s)] W fun e W'=>e= .returned (.bool true)/\Hid (SK w g en pb pc sb sc ty X l.tail W'):=by
 have:=ch g l en s W K.pa;rw[h]at this;exact this.mono fun e W' hh=>⟨hh.1,G (K.step hh.2.1 hh.2.2)⟩
theorem SK.no (K:SK w g en pb pc sb sc ty X l W) {s:List UInt8} (h:cP s l=false):Calls prog 98 #[.pointer (some ⟨g,0,none⟩), .string (ai s)] W fun e W'=>e= .returned (.bool false)/\Hid (SK w g en pb pc sb sc ty X l W'):=by
 have:=ch g l en s W K.pa;rw[h]at this;exact this.mono fun e W' hh=>⟨hh.1,G (K.step hh.2.1 hh.2.2)⟩
theorem SK.is (K:SK w g en pb pc sb sc ty X l W) {s:List UInt8} {b:Bool} (h:cP s l=b):Calls prog 145 #[.pointer (some ⟨g,0,none⟩), .string (ai s)] W fun e W'=>e= .returned (.bool b)/\Hid (SK w g en pb pc sb sc ty X l W'):=by
 have:=gk g l en s W K.pa;rw[h]at this;exact this.mono fun e W' hh=>⟨hh.1,G (K.ext hh.2)⟩
theorem SK.want (K:SK w g en pb pc sb sc ty X l W) {s:List UInt8} (h:cP s l=true):Calls prog 100 #[.pointer (some ⟨g,0,none⟩), .string (ai s)] W fun e W'=>e= .returned (.tuple #[])/\Hid (SK w g en pb pc sb sc ty X l.tail W'):=
 (d8 g l en s W K.pa h).mono fun e W' hh=>⟨hh.1,G (K.step hh.2.1 hh.2.2)⟩
theorem SK.bad (K:SK w g en pb pc sb sc ty X l W) {s:List UInt8} (h:cP s l=false):Calls prog 100 #[.pointer (some ⟨g,0,none⟩), .string (ai s)] W fun e W'=>e=a6 en l 3/\Hid (w.grownBy W' (some g)):=
 (fT g l en s W K.pa h).mono fun e W' hh=>⟨hh.1,G (am K.gr hh.2)⟩
theorem SK.name (K:SK w g en pb pc sb sc ty X l W) (h:(ci l).k=1):Calls prog 101 #[.pointer (some ⟨g,0,none⟩)] W fun e W'=>e= .returned (.string (ai (ci l).t))/\Hid (SK w g en pb pc sb sc ty X l.tail W'):=
 (iv g l en W K.pa h).mono fun e W' hh=>⟨hh.1,G (K.step hh.2.1 hh.2.2)⟩
theorem SK.noname (K:SK w g en pb pc sb sc ty X l W) (h: ¬(ci l).k=1):Calls prog 101 #[.pointer (some ⟨g,0,none⟩)] W fun e W'=>e=a6 en l 3/\Hid (w.grownBy W' (some g)):=
 (oa g l en W K.pa h).mono fun e W' hh=>⟨hh.1,G (am K.gr hh.2)⟩
theorem SK.with (K:SK w g en pb pc sb sc ty X l W) {Y:World->Prop} (hY:Y W) (hy: ∀k,k=g\/k=sb-> ∀V V':World,V.grownBy V' (some k)->Y V->Y V'):SK w g en pb pc sb sc ty (fun V=>X V/\Y V) l W:=
 ⟨K.pa,K.gr,K.rb,K.sv,K.nn,⟨K.xx,hY⟩,fun k hk V V' hV h=>⟨K.hx k hk V V' hV h.1,hy k hk V V' hV h.2⟩⟩
theorem SK.expr (K:SK w g en pb pc sb sc ty X l W) {f:Nat} (hEx:eF f) (hf:4*l.length+2<=f) {x:Ex} {q:List bN} (h:bQ f 1 l= .ok (x,q)):Calls prog 183 #[.pointer (some ⟨g,0,none⟩), .int .i64 1] W fun e W'=>
  ∃A n c,e= .returned (.agg #[.int .i64 x.k, .string (ai x.op), .string (ai x.nm), .string (ai x.tx), .int .i64 x.v, .slice A n c])/\
   Hid (SK w g en pb pc sb sc ty (fun V=>X V/\cE V (fun b=>sb<b) (.slice (some ⟨W'.heap.size,0,none⟩) 1 1) [x]) q (W'.alloc (.cells #[.int .i64 x.k, .string (ai x.op), .string (ai x.nm), .string (ai x.tx), .int .i64 x.v, .slice A n c] 70))):=by
 have hK:=K;have hc:=hEx 1 l en W g K.pa (by decide) (by decide) hf;rw[h]at hc;refine hc.mono fun e W' hh=> ?_;obtain⟨hG,A,n,c,rfl,hR,hPA⟩:=hh;have hE:=O W' (.cells #[.int .i64 x.k, .string (ai x.op), .string (ai x.nm), .string (ai x.tx), .int .i64 x.v, .slice A n c] 70);have hz:=K.sv.lt;have hz2:=hG.size;refine⟨A,n,c,rfl,G (((K.step hPA hG).ext hE).with (mg (an W' _ _) (by omega) (hR.keep (.of_ext hE) (fun b hb _=>by omega))) fun k hk V V' hV h=>h.keep (.of_grown hV fun b hb e=>by have:=K.nn;injection e with e;omega) (fun b hb _=>hb))⟩
theorem SK.xerr (K:SK w g en pb pc sb sc ty X l W) {f:Nat} (hEx:eF f) (hf:4*l.length+2<=f) {q:List bN} {n:Int} (h:bQ f 1 l= .error (q,n)):Calls prog 183 #[.pointer (some ⟨g,0,none⟩), .int .i64 1] W fun e W'=>e=a6 en q n/\Hid (w.grownBy W' (some g)):=by
 have hc:=hEx 1 l en W g K.pa (by decide) (by decide) hf;rw[h]at hc;exact hc.mono fun e W' hh=>⟨hh.2,G (am K.gr hh.1)⟩
theorem SK.block (K:SK w g en pb pc sb sc ty X l W) {f:Nat} (hBl:ly f) (hf:4*l.length+1<=f) {x:List St} {q:List bN} (h:dq f l= .ok (x,q)):Calls prog 104 #[.pointer (some ⟨g,0,none⟩)] W fun e W'=>
  ∃A n c,e= .returned (.slice A n c)/\Hid (SK w g en pb pc sb sc ty (fun V=>X V/\cR V (fun b=>sb<b) (.slice A n c) x) q W'):=by
 have hc:=hBl l en W g K.pa hf;rw[h]at hc;refine hc.mono fun e W' hh=> ?_;obtain⟨hG,A,n,c,rfl,hR,hPA⟩:=hh;have hz:=K.sv.lt;exact⟨A,n,c,rfl,G ((K.step hPA hG).with (hR.mono (fun b hb _=>by omega)) fun k hk V V' hV h=>h.keep (.of_grown hV fun b hb e=>by have:=K.nn;injection e with e;omega) (fun b hb _=>hb))⟩
theorem SK.berr (K:SK w g en pb pc sb sc ty X l W) {f:Nat} (hBl:ly f) (hf:4*l.length+1<=f) {q:List bN} {n:Int} (h:dq f l= .error (q,n)):Calls prog 104 #[.pointer (some ⟨g,0,none⟩)] W fun e W'=>e=a6 en q n/\Hid (w.grownBy W' (some g)):=by
 have hc:=hBl l en W g K.pa hf;rw[h]at hc;exact hc.mono fun e W' hh=>⟨hh.2,G (am K.gr hh.1)⟩
theorem SK.if (K:SK w g en pb pc sb sc ty X l W) {f:Nat} (hIf:Cw f) (hf:4*l.length+3<=f) {s:St} {q:List bN} (h:nr f l= .ok (s,q)):Calls prog 182 #[.pointer (some ⟨g,0,none⟩)] W fun e W'=>
  ∃A n c B m d C i j,e= .returned (.agg #[.int .i64 s.k, .string (ai s.nm), .slice A n c, .slice B m d, .slice C i j])/\Hid (SK w g en pb pc sb sc ty (fun V=>X V/\SV.ok V (fun b=>sb<b) ⟨s, .slice A n c, .slice B m d, .slice C i j⟩) q W'):=by
 have hc:=hIf l en W g K.pa hf;rw[h]at hc;refine hc.mono fun e W' hh=> ?_;obtain⟨hG,A,n,c,B,m,d,C,i,j,rfl,hV,hPA⟩:=hh;have hz:=K.sv.lt;exact⟨A,n,c,B,m,d,C,i,j,rfl,G ((K.step hPA hG).with (hV.keep ⟨ah _,fun _ _ _=>rfl⟩ (fun b hb _=>by omega)) fun k hk V V' hV h=>h.keep (.of_grown hV fun b hb e=>by have:=K.nn;injection e with e;omega) (fun b hb _=>hb))⟩
theorem SK.ierr (K:SK w g en pb pc sb sc ty X l W) {f:Nat} (hIf:Cw f) (hf:4*l.length+3<=f) {q:List bN} {n:Int} (h:nr f l= .error (q,n)):Calls prog 182 #[.pointer (some ⟨g,0,none⟩)] W fun e W'=>e=a6 en q n/\Hid (w.grownBy W' (some g)):=by
 have hc:=hIf l en W g K.pa hf;rw[h]at hc;exact hc.mono fun e W' hh=>⟨hh.2,G (am K.gr hh.1)⟩
theorem SK.put5 {z0 z1 z2 z3 z4:Value} (K:SK w g en pb pc sb #[z0,z1,z2,z3,z4] ty X l W) (hb:pb<sb) (a b c d e:Value):SK w g en pb pc sb #[a,b,c,d,e] ty X l (W.setCells sb 0 [a,b,c,d,e]):=by
 have hc:=dr sb [a,b,c,d,e] 0 W;have hn:=K.nn;exact⟨K.pa.grown hc (fun k e=>by injection e with e;omega),dx K.gr hc (by omega),K.rb.grown hc (fun e=>by injection e with e;omega),aL.put5' K.sv ..,hn,K.hx _ (.inr rfl) _ _ hc K.xx,K.hx⟩
theorem SK.set (K:SK w g en pb pc sb sc ty X l W) (hb:pb<sb) (i:Nat) (v:Value):SK w g en pb pc sb (sc.setIfInBounds i v) ty X l (W.setCell ⟨sb,i,none⟩ v):=by
 have hc:=eC W sb i v;have hn:=K.nn;exact⟨K.pa.grown hc (fun k e=>by injection e with e;omega),dx K.gr hc (by omega),K.rb.grown hc (fun e=>by injection e with e;omega),K.sv.set i v,hn,K.hx _ (.inr rfl) _ _ hc K.xx,K.hx⟩
theorem SK.one (h:PA w g l en) (cs:Array Value) (ty:TypeId):SK w g en w.heap.size cs w.heap.size cs ty (fun _=>True) l (w.alloc (.cells cs ty)):=
 ⟨h.ext (O w _),(O w _).grownBy _,an w _ _,an w _ _,⟨h.lt,ah _,ah _⟩,trivial,fun _ _ _ _ _ _=>trivial⟩
theorem SK.open (K:SK w g en pb pc pb pc ty X l W) (cs:Array Value) {Y:World->Prop} (hY:X W->Y (W.alloc (.cells cs ty))) (hy: ∀k,k=g\/k=W.heap.size-> ∀V V':World,V.grownBy V' (some k)->Y V->Y V'):SK w g en pb pc W.heap.size cs ty Y l (W.alloc (.cells cs ty)):=by
 have hE:=O W (.cells cs ty);have hz:=K.rb.lt;have hn:=K.nn;exact⟨K.pa.ext hE,am K.gr (hE.grownBy _),K.rb.ext hE,an W _ _,by omega,hY K.xx,hy⟩
theorem SK.app (K:SK w g en pb pc sb sc ty X l W) {row:Option Nat} (hq:W.grownBy W' row) (hr: ∀k,row=some k->sb<k) {Y:World->Prop} (hY:Y W') (hy: ∀k,k=g\/k=sb-> ∀V V':World,V.grownBy V' (some k)->Y V->Y V'):SK w g en pb pc sb sc ty Y l W':=by
 have hn:=K.nn;refine⟨K.pa.grown hq (fun k e=>by have:=hr k e;omega),⟨hq.os.trans K.gr.os,hq.tape.trans K.gr.tape,hq.output.trans K.gr.output,aZ K.gr.size hq.size,fun i hi hne=>(hq.block i (aA hi K.gr.size) (fun e=>by have:=hr i e.symm;omega)).trans (K.gr.block i hi hne)⟩,K.rb.grown hq (fun e=>by have:=hr _ e.symm;omega),K.sv.grown hq (fun e=>by have:=hr _ e.symm;omega),hn,hY,hy⟩
end
theorem SK.fin {w W:World} {g sb:Nat} {en:Int} {z0 z1 z2 z3 z4:Value} {sc:Array Value} {X:World->Prop} {q:List bN} (K:SK w g en w.heap.size #[z0,z1,z2,z3,z4] sb sc 72 X q W) {r:PR St} (s:St) (k:Int) (sn:ByteArray) (A:Option Addr) (n c:Nat) (B:Option Addr) (m d:Nat) (C:Option Addr) (i j:Nat) (hr:r= .ok (s,q)) (hk:s.k=k) (hn:ai s.nm=sn)
  (hV:X W->SV.ok W (fun b=>w.heap.size<b) ⟨s, .slice A n c, .slice B m d, .slice C i j⟩):
  (∀o,(W.setCells w.heap.size 0 [.int .i64 k, .string sn, .slice A n c, .slice B m d, .slice C i j]).cell? ⟨w.heap.size,o,none⟩=(#[.int .i64 k, .string sn, .slice A n c, .slice B m d, .slice C i j]:Array Value)[o]?)/\
  wg g en w r (.returned (.agg #[.int .i64 k, .string sn, .slice A n c, .slice B m d, .slice C i j])) (W.setCells w.heap.size 0 [.int .i64 k, .string sn, .slice A n c, .slice B m d, .slice C i j]):=
 Cc s k sn A n c B m d C i j hr hk hn (ah _) K.rb K.gr K.pa K.nn.1 (hV K.xx)
end
section
open Go.RowKit
section
variable {w W W':World} {g pb sb:Nat} {en:Int} {pc sc:Array Value} {ty:TypeId} {X:World->Prop} {l l':List bN}
theorem SK.open2 {e v:Value} {xs:List Ex} {ys:List St} (K:SK w g en w.heap.size pc w.heap.size pc ty (fun V=>(True/\cE V (fun b=>w.heap.size<b) e xs)/\cR V (fun b=>w.heap.size<b) v ys) l W) (cs:Array Value):
  SK w g en w.heap.size pc W.heap.size cs ty (fun V=>cE V (fun b=>w.heap.size<b/\b≠W.heap.size) e xs/\cR V (fun b=>w.heap.size<b/\b≠W.heap.size) v ys) l (W.alloc (.cells cs ty)):=by
 have hn:=K.nn;refine K.open cs (fun h=>⟨h.1.2.keep (.of_ext (O W _)) (fun b hb hlt=>⟨hb,by omega⟩),h.2.keep (.of_ext (O W _)) (fun b hb hlt=>⟨hb,by omega⟩)⟩) fun k hk V V' hV h=> ?_;have hkk:cC (fun b=>w.heap.size<b/\b≠W.heap.size) V V':= .of_grown hV fun b hb e=>by injection e with e;omega
 exact⟨h.1.keep hkk (fun b hb _=>hb),h.2.keep hkk (fun b hb _=>hb)⟩
theorem SK.if1 (K:SK w g en pb pc sb sc ty X l W) {f:Nat} (hIf:Cw f) (hf:4*l.length+3<=f) {s:St} {q:List bN} (h:nr f l= .ok (s,q)):Calls prog 182 #[.pointer (some ⟨g,0,none⟩)] W fun e W'=>
  ∃A n c B m d C i j,e= .returned (.agg #[.int .i64 s.k, .string (ai s.nm), .slice A n c, .slice B m d, .slice C i j])/\Hid (SK w g en pb pc sb sc ty (fun V=>X V/\cR V (fun b=>sb<b) (.slice (some ⟨W'.heap.size,0,none⟩) 1 1) [s]) q (W'.alloc (.cells #[.int .i64 s.k, .string (ai s.nm), .slice A n c, .slice B m d, .slice C i j] 72))):=by
 refine(K.if hIf hf h).mono fun e W' hh=> ?_;obtain⟨A,n,c,B,m,d,C,i,j,rfl,k⟩:=hh;have k:=k.out;have hE:=O W' (.cells #[.int .i64 s.k, .string (ai s.nm), .slice A n c, .slice B m d, .slice C i j] 72);have hz:=k.sv.lt;refine⟨A,n,c,B,m,d,C,i,j,rfl,G ?_⟩;have k2:=(k.ext hE).with (Y:=fun V=>cR V (fun b=>sb<b) (.slice (some ⟨W'.heap.size,0,none⟩) 1 1) [s]) (cR.one (an W' _ _) (by omega) (k.xx.2.keep (.of_ext hE) (fun _ hb _=>hb))) fun k hk V V' hV h=>h.keep (.of_grown hV fun b hb e=>by have:=K.nn;injection e with e;omega) (fun b hb _=>hb);exact⟨k2.pa,k2.gr,k2.rb,k2.sv,k2.nn,⟨k2.xx.1.1,k2.xx.2⟩,fun k hk V V' hV h=>⟨K.hx k hk V V' hV h.1,h.2.keep (.of_grown hV fun b hb e=>by have:=K.nn;injection e with e;omega) (fun b hb _=>hb)⟩⟩
end
theorem An (f:Nat) (hEx:eF f) (hBl:ly f) (hIf:Cw f):Cw (f+1):=by
 intro l en w g h hf;have hgl:=h.lt;have K:=G (SK.one h #[.int .i64 0, .string ⟨#[]⟩, .slice none 0 0, .slice none 0 0, .slice none 0 0] 72);have hrg:w.heap.size≠g:=by omega
 have hgr:g≠w.heap.size:=by omega
 obtain⟨hrc,hrf,hsc,hsf⟩:=K.out.cells;clear h;go_enter func182,ntmps182;have hfe:4*l.length+2<=f:=by omega
 cases hx:bQ f 1 l with
 |error p=>
  obtain⟨q,er⟩:=p;go_wp2_with (go_at_call 183;refine(K.out.xerr hEx hfe hx).mono ?_;unfold a6;rintro e wx ⟨rfl,HG⟩);exact⟨rfl,cW (by rw[nr,hx,bK]) HG.out⟩
 |ok p=>
  obtain⟨x,r⟩:=p;have hlx:=(iD f).1 _ _ _ _ hx;have hfb:4*r.length+1<=f:=by omega
  go_wp2_with (go_at_call 183;refine(K.out.expr hEx hfe hx).mono ?_;rintro e w1 ⟨A,n,c,rfl,K⟩;clear hrc hrf hsc hsf;obtain⟨hrc,hrf,hsc,hsf⟩:=K.out.cells)
  cases hb:dq f r with
  |error p=>
   obtain⟨q,er⟩:=p;go_wp2_with (go_at_call 104;refine(K.out.berr hBl hfb hb).mono ?_;unfold a6;rintro e wx ⟨rfl,HG⟩);exact⟨rfl,cW (by rw[nr,hx,then_ok,hb,bK]) HG.out⟩
  |ok p=>
   obtain⟨b,r2⟩:=p;have hlb:=(nh f).1 _ _ _ hb;go_wp2_with (go_at_call 104;refine(K.out.block hBl hfb hb).mono ?_;rintro e w2 ⟨B,m,d,rfl,K⟩;have hz2:=K.out.rb.lt;have K:=G (K.out.open2 #[.int .i64 4, .string ⟨#[]⟩, .slice (some ⟨w1.heap.size,0,none⟩) 1 1, .slice B m d, .slice none 0 0]);clear hrc hrf hsc hsf;obtain⟨hrc,hrf,hsc,hsf⟩:=K.out.cells);have hsg:w2.heap.size≠g:=by omega
   have hgs:g≠w2.heap.size:=by omega
   have hpq:w.heap.size≠w2.heap.size:=by omega
   have hsp:w2.heap.size≠w.heap.size:=by omega
   cases he:cP Bc r2 with
   |true=>
    have hle:=bq he;go_wp2_with (go_at_call 98;refine(K.out.yes he).mono ?_;rintro e wx ⟨rfl,K⟩;clear hrc hrf hsc hsf;obtain⟨hrc,hrf,hsc,hsf⟩:=K.out.cells)
    cases hi:cP C_ r2.tail with
    |true=>
     have hli:=bq hi;have hfi:4*r2.tail.tail.length+3<=f:=by omega
     go_wp2_with (go_at_call 98;refine(K.out.yes hi).mono ?_;rintro e wx ⟨rfl,K⟩;clear hrc hrf hsc hsf;obtain⟨hrc,hrf,hsc,hsf⟩:=K.out.cells)
     cases hc:nr f r2.tail.tail with
     |error p=>
      obtain⟨q,er⟩:=p;go_wp2_with (go_at_call 182;refine(K.out.ierr hIf hfi hc).mono ?_;unfold a6;rintro e wx ⟨rfl,HG⟩);exact⟨rfl,cW (by rw[nr,hx,then_ok,hb,then_ok,if_pos he,if_pos hi,hc,bK]) HG.out⟩
     |ok p=>
      obtain⟨t,q⟩:=p;go_wp2_with (go_at_call 182;refine(K.out.if1 hIf hfi hc).mono ?_;rintro e w5 ⟨A1,n1,c1,A2,n2,c2,A3,n3,c3,rfl,K⟩;clear hrc hrf hsc hsf;obtain⟨hrc,hrf,hsc,hsf⟩:=K.out.cells;have k:=K.out.set (by omega) 4 (.slice (some ⟨w5.heap.size,0,none⟩) 1 1);simp only[World.setCells,aD,Nat.reduceAdd,be,bP,bX]at k;have K:=G k;clear k);obtain⟨hset,hfin⟩:=K.out.fin (r:=nr (f+1) l) (.mk 4 [] [x] b [t]) 4 ⟨#[]⟩ (some ⟨w1.heap.size,0,none⟩) 1 1 B m d (some ⟨w5.heap.size,0,none⟩) 1 1 (by rw[nr,hx,then_ok,hb,then_ok,if_pos he,if_pos hi,hc,then_ok]) rfl rfl (fun h=>⟨h.1.1.mono (fun b hb _=>hb.1),h.1.2.mono (fun b hb _=>hb.1),h.2.mono (fun b hb _=>by omega)⟩);simp only[World.setCells,aD,Nat.reduceAdd]at hset hfin;exact bodyPost_ret (v:= .agg #[.int .i64 4, .string ⟨#[]⟩, .slice (some ⟨w1.heap.size,0,none⟩) 1 1, .slice B m d, .slice (some ⟨w5.heap.size,0,none⟩) 1 1]) (by simp[results,results182,go_sem,hset]) rfl hfin
    |false=>
     have hfi:4*r2.tail.length+1<=f:=by omega
     have hN:=hi;go_wp2_with (go_at_call 98;refine(K.out.no hN).mono ?_;rintro e wx ⟨rfl,K⟩;clear hN;clear hrc hrf hsc hsf;obtain⟨hrc,hrf,hsc,hsf⟩:=K.out.cells)
     cases hc:dq f r2.tail with
     |error p=>
      obtain⟨q,er⟩:=p;go_wp2_with (go_at_call 104;refine(K.out.berr hBl hfi hc).mono ?_;unfold a6;rintro e wx ⟨rfl,HG⟩);exact⟨rfl,cW (by rw[nr,hx,then_ok,hb,then_ok,if_pos he,if_neg (by simp[hi]),hc,bK]) HG.out⟩
     |ok p=>
      obtain⟨t,q⟩:=p;go_wp2_with (go_at_call 104;refine(K.out.block hBl hfi hc).mono ?_;rintro e wx ⟨C,i,j,rfl,K⟩;clear hrc hrf hsc hsf;obtain⟨hrc,hrf,hsc,hsf⟩:=K.out.cells;have k:=K.out.set (by omega) 4 (.slice C i j);simp only[World.setCells,aD,Nat.reduceAdd,be,bP,bX]at k;have K:=G k;clear k);obtain⟨hset,hfin⟩:=K.out.fin (r:=nr (f+1) l) (.mk 4 [] [x] b t) 4 ⟨#[]⟩ (some ⟨w1.heap.size,0,none⟩) 1 1 B m d C i j (by rw[nr,hx,then_ok,hb,then_ok,if_pos he,if_neg (by simp[hi]),hc,then_ok]) rfl rfl (fun h=>⟨h.1.1.mono (fun b hb _=>hb.1),h.1.2.mono (fun b hb _=>hb.1),h.2.mono (fun b hb _=>by omega)⟩);simp only[World.setCells,aD,Nat.reduceAdd]at hset hfin;exact bodyPost_ret (v:= .agg #[.int .i64 4, .string ⟨#[]⟩, .slice (some ⟨w1.heap.size,0,none⟩) 1 1, .slice B m d, .slice C i j]) (by simp[results,results182,go_sem,hset]) rfl hfin
   |false=>
    have hN:=he;go_wp2_with (go_at_call 98;refine(K.out.no hN).mono ?_;rintro e wx ⟨rfl,K⟩;clear hN;clear hrc hrf hsc hsf;obtain⟨hrc,hrf,hsc,hsf⟩:=K.out.cells);obtain⟨hset,hfin⟩:=K.out.fin (r:=nr (f+1) l) (.mk 4 [] [x] b []) 4 ⟨#[]⟩ (some ⟨w1.heap.size,0,none⟩) 1 1 B m d none 0 0 (by rw[nr,hx,then_ok,hb,then_ok,if_neg (by simp[he])]) rfl rfl (fun h=>⟨h.1.mono (fun b hb _=>hb.1),h.2.mono (fun b hb _=>hb.1), .nil _ _⟩);simp only[World.setCells,aD,Nat.reduceAdd]at hset hfin;exact bodyPost_ret (v:= .agg #[.int .i64 4, .string ⟨#[]⟩, .slice (some ⟨w1.heap.size,0,none⟩) 1 1, .slice B m d, .slice none 0 0]) (by simp[results,results182,go_sem,hset]) rfl hfin
end
section
open Go.RowKit
theorem f_.lit {w:World} {base:Nat} {x:Ex} {A:Option Addr} {n c:Nat} (hb:base<=w.heap.size) (h:cE w (fun b=>base<=b) (.slice A n c) x.args):f_ (w.alloc (.cells #[.int .i64 x.k, .string (ai x.op), .string (ai x.nm), .string (ai x.tx), .int .i64 x.v, .slice A n c] 70)) base 70 (.slice (some ⟨w.heap.size,0,none⟩) 1 1) [(x, .slice A n c)]:=by
 refine⟨World.ownsRow_lit w _ 1 hb (by simp[maxLen]) rfl,fun p hp=> ?_⟩;rw[cG]at hp;subst hp;exact h.keep (.of_ext (O w _)) (fun b hb hlt=>⟨hb,fun e=>by have e:b=w.heap.size:=Z e;omega⟩)
theorem uh (x:Ex) (A:Option Addr) (n c:Nat): ∀u∈vN x (.slice A n c),u.oneCell'=true:=by
 intro u hu;simp only[vN,fC,ep,or_false]at hu;rcases hu with rfl|rfl|rfl|rfl|rfl|rfl<;>rfl
section
variable {w W W':World} {g pb sb:Nat} {en:Int} {pc sc:Array Value} {ty:TypeId} {X:World->Prop} {l l':List bN}
theorem SK.named (K:SK w g en pb pc sb sc ty X l W) {f:Nat} {nm:List UInt8} (hNa:il f) (hf:4*l.length+1<=f) {x:Ex} {q:List bN} (h:ct f nm l= .ok (x,q)):Calls prog 206 #[.pointer (some ⟨g,0,none⟩), .string (ai nm)] W fun e W'=>
  ∃A n c,e= .returned (.agg #[.int .i64 x.k, .string (ai x.op), .string (ai x.nm), .string (ai x.tx), .int .i64 x.v, .slice A n c])/\Hid (SK w g en pb pc sb sc ty (fun V=>X V/\cE V (fun b=>sb<b) (.slice (some ⟨W'.heap.size,0,none⟩) 1 1) [x]) q (W'.alloc (.cells #[.int .i64 x.k, .string (ai x.op), .string (ai x.nm), .string (ai x.tx), .int .i64 x.v, .slice A n c] 70))):=by
 have hc:=hNa nm l en W g K.pa hf;rw[h]at hc;refine hc.mono fun e W' hh=> ?_;obtain⟨hG,A,n,c,rfl,hR,hPA⟩:=hh;have hE:=O W' (.cells #[.int .i64 x.k, .string (ai x.op), .string (ai x.nm), .string (ai x.tx), .int .i64 x.v, .slice A n c] 70);have hz:=K.sv.lt;have hz2:=hG.size;exact⟨A,n,c,rfl,G (((K.step hPA hG).ext hE).with (mg (an W' _ _) (by omega) (hR.keep (.of_ext hE) (fun b hb _=>by omega))) fun k hk V V' hV h=>h.keep (.of_grown hV fun b hb e=>by have:=K.nn;injection e with e;omega) (fun b hb _=>hb))⟩
theorem SK.nerr (K:SK w g en pb pc sb sc ty X l W) {f:Nat} {nm:List UInt8} (hNa:il f) (hf:4*l.length+1<=f) {q:List bN} {n:Int} (h:ct f nm l= .error (q,n)):Calls prog 206 #[.pointer (some ⟨g,0,none⟩), .string (ai nm)] W fun e W'=>e=a6 en q n/\Hid (w.grownBy W' (some g)):=by
 have hc:=hNa nm l en W g K.pa hf;rw[h]at hc;exact hc.mono fun e W' hh=>⟨hh.2,G (am K.gr hh.1)⟩
theorem SK.exOwn (K:SK w g en pb pc sb sc ty X l W) {f:Nat} (hEx:eF f) (hf:4*l.length+2<=f) {x:Ex} {q:List bN} (h:bQ f 1 l= .ok (x,q)):Calls prog 183 #[.pointer (some ⟨g,0,none⟩), .int .i64 1] W fun e W'=>
  ∃A n c,e= .returned (.agg #[.int .i64 x.k, .string (ai x.op), .string (ai x.nm), .string (ai x.tx), .int .i64 x.v, .slice A n c])/\Hid (SK w g en pb pc sb sc ty (fun V=>f_ V (sb+1) 70 (.slice (some ⟨W'.heap.size,0,none⟩) 1 1) [(x, .slice A n c)]) q (W'.alloc (.cells #[.int .i64 x.k, .string (ai x.op), .string (ai x.nm), .string (ai x.tx), .int .i64 x.v, .slice A n c] 70))):=by
 have hc:=hEx 1 l en W g K.pa (by decide) (by decide) hf;rw[h]at hc;refine hc.mono fun e W' hh=> ?_;obtain⟨hG,A,n,c,rfl,hR,hPA⟩:=hh;have hz:=K.sv.lt;have hz2:=hG.size;have hn:=K.nn;have hO:=f_.lit (x:=x) (base:=sb+1) (w:=W') (by omega) (hR.mono (fun b hb _=>by omega));exact⟨A,n,c,rfl,G (((K.step hPA hG).ext (O W' _)).app ⟨rfl,rfl,rfl,ah _,fun _ _ _=>rfl⟩ (row:=none) (fun k e=>by cases e) hO fun k hk V V' hV h=>h.grown hV (fun k e=>by injection e with e;omega))⟩
end
theorem qN (f:Nat) (hEx:eF f) (hNa:il f) (l:List bN) (en:Int) (w:World) (g:Nat) (h:PA w g l en) (hf:4*l.length+2<=f):Calls prog 184 #[.pointer (some ⟨g,0,none⟩)] w (wg g en w (fP f l)):=by
 have hgl:=h.lt;have K:=G (SK.one h #[.int .i64 0, .string ⟨#[]⟩, .slice none 0 0, .slice none 0 0, .slice none 0 0] 72);have hrg:w.heap.size≠g:=by omega
 have hgr:g≠w.heap.size:=by omega
 obtain⟨hrc,hrf,hsc,hsf⟩:=K.out.cells;clear h;go_enter func184,ntmps184;by_cases hk:(ci l).k=1
 rotate_left
 ·go_wp2_with (go_at_call 101;refine(K.out.noname hk).mono ?_;unfold a6;rintro e wx ⟨rfl,HG⟩);exact⟨rfl,cW (by unfold fP;rw[ke hk,bK]) HG.out⟩
 have hlt:=gN (l:=l) (by rw[hk];decide);go_wp2_with (go_at_call 101;refine(K.out.name hk).mono ?_;rintro e w1 ⟨rfl,K⟩;have hz1:=K.out.rb.lt;have K:=G (K.out.open (Y:=fun V=>f_ V (w1.heap.size+1) 70 (.slice none 0 0) []) #[.int .i64 2, .string (ai (ci l).t), .slice none 0 0, .slice none 0 0, .slice none 0 0] (fun _=>pP _ _ _) fun _ _ _ _ _ _=>pP _ _ _);have hsg:w1.heap.size≠g:=(by omega);have hgs:g≠w1.heap.size:=(by omega);have hps:w.heap.size≠w1.heap.size:=(by omega);have hsp:w1.heap.size≠w.heap.size:=(by omega);clear hrc hrf hsc hsf;obtain⟨hrc,hrf,hsc,hsf⟩:=K.out.cells)
 cases hlp:cP mi l.tail with
 |true=>
  have hfn:4*l.tail.length+1<=f:=by omega
  go_wp2_with (go_at_call 145;refine(K.out.is hlp).mono ?_;rintro e wx ⟨rfl,K⟩;clear hrc hrf hsc hsf;obtain⟨hrc,hrf,hsc,hsf⟩:=K.out.cells)
  cases hx:ct f (ci l).t l.tail with
  |error p=>
   obtain⟨q,er⟩:=p;go_wp2_with (go_at_call 206;refine(K.out.nerr hNa hfn hx).mono ?_;unfold a6;rintro e wx ⟨rfl,HG⟩);exact⟨rfl,cW (by unfold fP;rw[bI hk,then_ok,if_pos hlp,hx,bK]) HG.out⟩
  |ok p=>
   obtain⟨x,q⟩:=p;go_wp2_with (go_at_call 206;refine(K.out.named hNa hfn hx).mono ?_;rintro e w3 ⟨A,n,c,rfl,K⟩;clear hrc hrf hsc hsf;obtain⟨hrc,hrf,hsc,hsf⟩:=K.out.cells);obtain⟨hset,hfin⟩:=K.out.fin (r:=fP f l) (.mk 7 [] [x] [] []) 7 ⟨#[]⟩ (some ⟨w3.heap.size,0,none⟩) 1 1 none 0 0 none 0 0 (by unfold fP;rw[bI hk,then_ok,if_pos hlp,hx,then_ok]) rfl rfl (fun h=>⟨h.2.mono (fun b hb _=>by omega), .nil _ _, .nil _ _⟩);simp only[World.setCells,aD,Nat.reduceAdd]at hset hfin;exact bodyPost_ret (v:= .agg #[.int .i64 7, .string ⟨#[]⟩, .slice (some ⟨w3.heap.size,0,none⟩) 1 1, .slice none 0 0, .slice none 0 0]) (by simp[results,results184,go_sem,hset]) rfl hfin
 |false=>
  go_wp2_with (go_at_call 145;refine(K.out.is hlp).mono ?_;rintro e wx ⟨rfl,K⟩;clear hrc hrf hsc hsf;obtain⟨hrc,hrf,hsc,hsf⟩:=K.out.cells)
  cases hls:cP p' l.tail with
  |true=>
   have hlb:=bq hls;have hfx:4*l.tail.tail.length+2<=f:=by omega
   go_wp2_with (go_at_call 98;refine(K.out.yes hls).mono ?_;rintro e wx ⟨rfl,K⟩;clear hrc hrf hsc hsf;obtain⟨hrc,hrf,hsc,hsf⟩:=K.out.cells)
   cases hx:bQ f 1 l.tail.tail with
   |error p=>
    obtain⟨q,er⟩:=p;go_wp2_with (go_at_call 183;refine(K.out.xerr hEx hfx hx).mono ?_;unfold a6;rintro e wx ⟨rfl,HG⟩);exact⟨rfl,cW (by unfold fP;rw[bI hk,then_ok,if_neg (by simp[hlp]),if_pos hls,hx,bK]) HG.out⟩
   |ok p=>
    obtain⟨x,r⟩:=p;have hlx:=(iD f).1 _ _ _ _ hx;go_wp2_with (go_at_call 183;refine(K.out.exOwn hEx hfx hx).mono ?_;rintro e w5 ⟨A,n,c,rfl,K⟩;clear hrc hrf hsc hsf;obtain⟨hrc,hrf,hsc,hsf⟩:=K.out.cells;have k:=(K.out.set (by omega) 0 (.int .i64 3)).set (by omega) 2 (.slice (some ⟨w5.heap.size,0,none⟩) 1 1);simp only[World.setCells,aD,Nat.reduceAdd,be,bP,bX]at k;have K:=G k;clear k)
    cases hrs:cP rW r with
    |true=>
     have hl1:=bq hrs;go_wp2_with (go_at_call 100;refine(K.out.want hrs).mono ?_;rintro e wx ⟨rfl,K⟩;clear hrc hrf hsc hsf;obtain⟨hrc,hrf,hsc,hsf⟩:=K.out.cells)
     cases heq:cP Bb r.tail with
     |true=>
      have hl2:=bq heq;have hfy:4*r.tail.tail.length+2<=f:=by omega
      go_wp2_with (go_at_call 100;refine(K.out.want heq).mono ?_;rintro e w4 ⟨rfl,K⟩;clear hrc hrf hsc hsf;obtain⟨hrc,hrf,hsc,hsf⟩:=K.out.cells)
      cases hy:bQ f 1 r.tail.tail with
      |error p=>
       obtain⟨q,er⟩:=p;refine bR 5 8 [(3,fun v=>v= .agg #[.int .i64 0, .string ⟨#[]⟩, .string ⟨#[]⟩, .string ⟨#[]⟩, .int .i64 0, .slice none 0 0],fun _ _=>False),(4,fun v=> ∃gb,v= .slice (some ⟨gb,0,none⟩) 1 1,fun _ _=>True)] 3 (some g) mixed (by kernel_rfl) ⟨fun _ _ _ h _=>h,fun _ _ _ h _=>h,trivial⟩ ⟨.inl rfl, .inr fun _ _ _ h _=>h,trivial⟩ ?_;repeat (refine sx ?_ (fun w1 hU=> ?_) ?_;rotate_left;(focus have f1:=(K.out.sv.grown (aB hU) (fun e=>hsg (Z e))).cell;clear hU;go_simp<;>with_reducible rfl);simp only[aY,aX,aW,aV,aU])
       refine bH _ _ (by rfl) rfl ⟨_,rfl⟩ rfl (fun w6 hT hp J hJ=> ?_) ?_
       ·clear hp;have hc:=((K.out.ext hT.un).xerr hEx hfy hy)
        clear hT;go_simp;refine hc.mono ?_;unfold a6;rintro e w7 ⟨rfl,HG⟩;intro a' hd;exact⟨hd,cW (by unfold fP;rw[bI hk,then_ok,if_neg (by simp[hlp]),if_pos hls,hx,then_ok,cv hrs,then_ok,cv heq,then_ok,hy,bK]) HG.out⟩
       rintro _ rfl;simp only[aY,aX,aW,aV,aU];refine bJ _ _ (by rfl) rfl ⟨_,0,rfl⟩ (by simp) (fun w6 hU hp J hJ=> ?_) ?_
       ·clear hp;go_simp;exact hJ _ _ (O w6 _) ⟨_,rfl⟩ trivial
       rintro _ ⟨gb,rfl⟩;simp only[aY,aX,aW,aV,aU];intro w6 hw6 hp;exact(hp _ (.tail _ (.head _))).elim
      |ok p=>
       obtain⟨y,q⟩:=p;have hgd:g<w4.heap.size:=K.out.pa.lt;have hsd:w1.heap.size<w4.heap.size:=K.out.sv.lt
       refine bR 5 8 [(3,fun v=> ∃A n c,v= .agg #[.int .i64 y.k, .string (ai y.op), .string (ai y.nm), .string (ai y.tx), .int .i64 y.v, .slice A n c],fun v wx=> ∀A n c,v= .agg #[.int .i64 y.k, .string (ai y.op), .string (ai y.nm), .string (ai y.tx), .int .i64 y.v, .slice A n c]->cE wx (fun b=>w4.heap.size<=b) (.slice A n c) y.args/\PA wx g q en),
         (4,fun v=> ∃gb,v= .slice (some ⟨gb,0,none⟩) 1 1,fun v wx=> ∀gb,v= .slice (some ⟨gb,0,none⟩) 1 1->w4.heap.size<=gb/\ ∃A n c,aL wx gb 70 #[.int .i64 y.k, .string (ai y.op), .string (ai y.nm), .string (ai y.tx), .int .i64 y.v, .slice A n c]/\cE wx (fun b=>w4.heap.size<=b) (.slice A n c) y.args)] 3 (some g) mixed (by kernel_rfl) ⟨fun _ _ _ h hx A n c e=>⟨(h A n c e).1.keep (.of_ext hx) (fun _ hb _=>hb),(h A n c e).2.ext hx⟩,fun _ _ _ h hx gb e=>let⟨q0,A,n,c,q1,q2⟩:=h gb e;⟨q0,A,n,c,q1.ext hx,q2.keep (.of_ext hx) (fun _ hb _=>hb)⟩,trivial⟩
        ⟨.inl rfl, .inr fun _ _ _ h hx gb e=>let⟨q0,A,n,c,q1,q2⟩:=h gb e;⟨q0,A,n,c,q1.grown hx (fun e=>by injection e with e;omega),q2.keep (.of_grown hx fun b hb e=>by injection e with e;omega) (fun _ hb _=>hb)⟩,trivial⟩ ?_
       repeat (refine sx ?_ (fun w1 hU=> ?_) ?_;rotate_left;(focus have f1:=(K.out.sv.grown (aB hU) (fun e=>hsg (Z e))).cell;clear hU;go_simp<;>with_reducible rfl);simp only[aY,aX,aW,aV,aU])
       refine bH _ _ (by rfl) rfl ⟨_,none,0,0,rfl⟩ rfl (fun w6 hT hp J hJ=> ?_) ?_
       ·clear hp;have hc:=hEx 1 _ en w6 g (K.out.pa.ext hT.un) (by decide) (by decide) hfy;have HT6:=G hT.un;clear hT;go_simp;refine hc.mono ?_;intro e w7 hh;rw[hy]at hh;obtain⟨hG,A,n,c,rfl,hR,hPA⟩:=hh;exact hJ _ _ hG ⟨_,_,_,rfl⟩ (fun A' n' c' e=>by injection e with e;simp only[eq,cO,dw,and_true,true_and]at e;obtain⟨rfl,rfl,rfl⟩:=e;exact⟨hR.mono (fun b hb _=>aZ (cJ HT6.out) hb),hPA⟩)
       rintro _ ⟨A2,n2,c2,rfl⟩;simp only[aY,aX,aW,aV,aU];refine bJ _ _ (by rfl) rfl ⟨_,0,rfl⟩ (by simp) (fun w6 hU hp J hJ=> ?_) ?_
       ·have h3:=(hp _ (.head _) (by kernel_rfl)) A2 n2 c2 rfl;have hz6:=(aB hU).size;clear hp hU;go_simp;exact hJ _ _ (O w6 _) ⟨_,rfl⟩ (fun gb e=>by injection e with e;injection e with e;injection e with e;subst e;exact⟨hz6,A2,n2,c2,an w6 _ _,h3.1.keep (.of_ext (O w6 _)) (fun _ hb _=>hb)⟩)
       rintro _ ⟨gb,rfl⟩;simp only[aY,aX,aW,aV,aU];intro w8 hw8 hp;obtain⟨hgb,A3,n3,c3,hB3,hR3⟩:=hp _ (.head _) gb rfl;have h3:=(hp _ (.tail _ (.head _)) A2 n2 c2 rfl).2;clear hp;simp only[ac,ap];have hw8:=aB hw8;have hz8:=hw8.size;have hrow:=World.ownsRow.lt K.out.xx.1;have K:=G (K.out.step h3 hw8);have HA8:=G (hR3.mono (Q:=fun b=>w1.heap.size+1<=b/\some b≠Value.ownBlock (.slice (some ⟨w5.heap.size,0,none⟩) 1 1)) (fun b hb _=>⟨by omega,fun e=>by have:=(hrow b e.symm).2;omega⟩));clear hw8 h3 hR3 hrc hrf hsc hsf;refine eW Ec rfl _ _ rfl (w1.heap.size+1) _ 1 (fQ [(x, .slice A n c)]) rfl K.out.xx.1 gb (vN y (.slice A3 n3 c3)) rfl hB3 rfl (uh _ _ _ _) (by omega) (by decide) (by omega) ?_;intro A' cap' w9 hq1 hq2 hq3;have K:=G (K.out.app (Y:=fun V=>f_ V (w1.heap.size+1) 70 (.slice (some ⟨A',0,none⟩) 2 cap') [(x, .slice A n c),(y, .slice A3 n3 c3)]) hq2 (fun k e=>(hrow k e).1) (K.out.xx.snoc HA8.out hq1 hq2 hq3) fun k hk V V' hV h=>h.grown hV (fun k e=>by injection e with e;omega));obtain⟨hrc,hrf,hsc,hsf⟩:=K.out.cells;clear hq1 hq2 hq3 hB3 hrow;go_wp2_with fail;have K:=G (K.out.set (by omega) 2 (.slice (some ⟨A',0,none⟩) 2 cap'));obtain⟨hset,hfin⟩:=K.out.fin (r:=fP f l) (.mk 3 (ci l).t [x,y] [] []) 3 (ai (ci l).t) (some ⟨A',0,none⟩) 2 cap' none 0 0 none 0 0 (by unfold fP;rw[bI hk,then_ok,if_neg (by simp[hlp]),if_pos hls,hx,then_ok,cv hrs,then_ok,cv heq,then_ok,hy,then_ok]) rfl rfl (fun h=>⟨by have:=h.rd.mono (Q:=fun b=>w.heap.size<b) (fun b hb _=>by omega);simpa[St.ex]using this, .nil _ _, .nil _ _⟩);simp only[World.setCells,aD,Nat.reduceAdd]at hset hfin;exact bodyPost_ret (v:= .agg #[.int .i64 3, .string (ai (ci l).t), .slice (some ⟨A',0,none⟩) 2 cap', .slice none 0 0, .slice none 0 0]) (by simp[results,results184,go_sem,hset]) rfl hfin
     |false=>
      go_wp2_with (go_at_call 100;refine(K.out.bad heq).mono ?_;unfold a6;rintro e wx ⟨rfl,HG⟩);exact⟨rfl,cW (by unfold fP;rw[bI hk,then_ok,if_neg (by simp[hlp]),if_pos hls,hx,then_ok,cv hrs,then_ok,ew heq,bK]) HG.out⟩
    |false=>
     go_wp2_with (go_at_call 100;refine(K.out.bad hrs).mono ?_;unfold a6;rintro e wx ⟨rfl,HG⟩);exact⟨rfl,cW (by unfold fP;rw[bI hk,then_ok,if_neg (by simp[hlp]),if_pos hls,hx,then_ok,ew hrs,bK]) HG.out⟩
  |false=>
   have hN:=hls;go_wp2_with (go_at_call 98;refine(K.out.no hN).mono ?_;rintro e wx ⟨rfl,K⟩;clear hN;clear hrc hrf hsc hsf;obtain⟨hrc,hrf,hsc,hsf⟩:=K.out.cells)
   cases heq:cP Bb l.tail with
   |true=>
    have hle:=bq heq;have hfy:4*l.tail.tail.length+2<=f:=by omega
    go_wp2_with (go_at_call 100;refine(K.out.want heq).mono ?_;rintro e w4 ⟨rfl,K⟩;clear hrc hrf hsc hsf;obtain⟨hrc,hrf,hsc,hsf⟩:=K.out.cells)
    cases hy:bQ f 1 l.tail.tail with
    |error p=>
     obtain⟨q,er⟩:=p;refine bR 5 8 [(3,fun v=>v= .agg #[.int .i64 0, .string ⟨#[]⟩, .string ⟨#[]⟩, .string ⟨#[]⟩, .int .i64 0, .slice none 0 0],fun _ _=>False),(4,fun v=> ∃gb,v= .slice (some ⟨gb,0,none⟩) 1 1,fun _ _=>True)] 3 (some g) mixed (by kernel_rfl) ⟨fun _ _ _ h _=>h,fun _ _ _ h _=>h,trivial⟩ ⟨.inl rfl, .inr fun _ _ _ h _=>h,trivial⟩ ?_;repeat (refine sx ?_ (fun w1 hU=> ?_) ?_;rotate_left;(focus have f1:=(K.out.sv.grown (aB hU) (fun e=>hsg (Z e))).cell;clear hU;go_simp<;>with_reducible rfl);simp only[aY,aX,aW,aV,aU])
     refine bH _ _ (by rfl) rfl ⟨_,rfl⟩ rfl (fun w6 hT hp J hJ=> ?_) ?_
     ·clear hp;have hc:=((K.out.ext hT.un).xerr hEx hfy hy)
      clear hT;go_simp;refine hc.mono ?_;unfold a6;rintro e w7 ⟨rfl,HG⟩;intro a' hd;exact⟨hd,cW (by unfold fP;rw[bI hk,then_ok,if_neg (by simp[hlp]),if_neg (by simp[hls]),cv heq,then_ok,hy,bK]) HG.out⟩
     rintro _ rfl;simp only[aY,aX,aW,aV,aU];refine bJ _ _ (by rfl) rfl ⟨_,0,rfl⟩ (by simp) (fun w6 hU hp J hJ=> ?_) ?_
     ·clear hp;go_simp;exact hJ _ _ (O w6 _) ⟨_,rfl⟩ trivial
     rintro _ ⟨gb,rfl⟩;simp only[aY,aX,aW,aV,aU];intro w6 hw6 hp;exact(hp _ (.tail _ (.head _))).elim
    |ok p=>
     obtain⟨y,q⟩:=p;have hgd:g<w4.heap.size:=K.out.pa.lt;have hsd:w1.heap.size<w4.heap.size:=K.out.sv.lt
     refine bR 5 8 [(3,fun v=> ∃A n c,v= .agg #[.int .i64 y.k, .string (ai y.op), .string (ai y.nm), .string (ai y.tx), .int .i64 y.v, .slice A n c],fun v wx=> ∀A n c,v= .agg #[.int .i64 y.k, .string (ai y.op), .string (ai y.nm), .string (ai y.tx), .int .i64 y.v, .slice A n c]->cE wx (fun b=>w4.heap.size<=b) (.slice A n c) y.args/\PA wx g q en),
       (4,fun v=> ∃gb,v= .slice (some ⟨gb,0,none⟩) 1 1,fun v wx=> ∀gb,v= .slice (some ⟨gb,0,none⟩) 1 1->w4.heap.size<=gb/\ ∃A n c,aL wx gb 70 #[.int .i64 y.k, .string (ai y.op), .string (ai y.nm), .string (ai y.tx), .int .i64 y.v, .slice A n c]/\cE wx (fun b=>w4.heap.size<=b) (.slice A n c) y.args)] 3 (some g) mixed (by kernel_rfl) ⟨fun _ _ _ h hx A n c e=>⟨(h A n c e).1.keep (.of_ext hx) (fun _ hb _=>hb),(h A n c e).2.ext hx⟩,fun _ _ _ h hx gb e=>let⟨q0,A,n,c,q1,q2⟩:=h gb e;⟨q0,A,n,c,q1.ext hx,q2.keep (.of_ext hx) (fun _ hb _=>hb)⟩,trivial⟩
      ⟨.inl rfl, .inr fun _ _ _ h hx gb e=>let⟨q0,A,n,c,q1,q2⟩:=h gb e;⟨q0,A,n,c,q1.grown hx (fun e=>by injection e with e;omega),q2.keep (.of_grown hx fun b hb e=>by injection e with e;omega) (fun _ hb _=>hb)⟩,trivial⟩ ?_
     repeat (refine sx ?_ (fun w1 hU=> ?_) ?_;rotate_left;(focus have f1:=(K.out.sv.grown (aB hU) (fun e=>hsg (Z e))).cell;clear hU;go_simp<;>with_reducible rfl);simp only[aY,aX,aW,aV,aU])
     refine bH _ _ (by rfl) rfl ⟨_,none,0,0,rfl⟩ rfl (fun w6 hT hp J hJ=> ?_) ?_
     ·clear hp;have hc:=hEx 1 _ en w6 g (K.out.pa.ext hT.un) (by decide) (by decide) hfy;have HT6:=G hT.un;clear hT;go_simp;refine hc.mono ?_;intro e w7 hh;rw[hy]at hh;obtain⟨hG,A,n,c,rfl,hR,hPA⟩:=hh;exact hJ _ _ hG ⟨_,_,_,rfl⟩ (fun A' n' c' e=>by injection e with e;simp only[eq,cO,dw,and_true,true_and]at e;obtain⟨rfl,rfl,rfl⟩:=e;exact⟨hR.mono (fun b hb _=>aZ (cJ HT6.out) hb),hPA⟩)
     rintro _ ⟨A2,n2,c2,rfl⟩;simp only[aY,aX,aW,aV,aU];refine bJ _ _ (by rfl) rfl ⟨_,0,rfl⟩ (by simp) (fun w6 hU hp J hJ=> ?_) ?_
     ·have h3:=(hp _ (.head _) (by kernel_rfl)) A2 n2 c2 rfl;have hz6:=(aB hU).size;clear hp hU;go_simp;exact hJ _ _ (O w6 _) ⟨_,rfl⟩ (fun gb e=>by injection e with e;injection e with e;injection e with e;subst e;exact⟨hz6,A2,n2,c2,an w6 _ _,h3.1.keep (.of_ext (O w6 _)) (fun _ hb _=>hb)⟩)
     rintro _ ⟨gb,rfl⟩;simp only[aY,aX,aW,aV,aU];intro w8 hw8 hp;obtain⟨hgb,A3,n3,c3,hB3,hR3⟩:=hp _ (.head _) gb rfl;have h3:=(hp _ (.tail _ (.head _)) A2 n2 c2 rfl).2;clear hp;simp only[ac,ap];have hw8:=aB hw8;have hz8:=hw8.size;have hrow:=World.ownsRow.lt K.out.xx.1;have K:=G (K.out.step h3 hw8);have HA8:=G (hR3.mono (Q:=fun b=>w1.heap.size+1<=b/\some b≠Value.ownBlock (.slice none 0 0)) (fun b hb _=>⟨by omega,fun e=>by have:=(hrow b e.symm).2;omega⟩));clear hw8 h3 hR3 hrc hrf hsc hsf;refine eW Ec rfl _ _ rfl (w1.heap.size+1) _ 0 (fQ []) rfl K.out.xx.1 gb (vN y (.slice A3 n3 c3)) rfl hB3 rfl (uh _ _ _ _) (by omega) (by decide) (by omega) ?_;intro A' cap' w9 hq1 hq2 hq3;have K:=G (K.out.app (Y:=fun V=>f_ V (w1.heap.size+1) 70 (.slice (some ⟨A',0,none⟩) 1 cap') [(y, .slice A3 n3 c3)]) hq2 (fun k e=>(hrow k e).1) (K.out.xx.snoc HA8.out hq1 hq2 hq3) fun k hk V V' hV h=>h.grown hV (fun k e=>by injection e with e;omega));obtain⟨hrc,hrf,hsc,hsf⟩:=K.out.cells;clear hq1 hq2 hq3 hB3 hrow;go_wp2_with fail;have K:=G (K.out.set (by omega) 2 (.slice (some ⟨A',0,none⟩) 1 cap'));obtain⟨hset,hfin⟩:=K.out.fin (r:=fP f l) (.mk 2 (ci l).t [y] [] []) 2 (ai (ci l).t) (some ⟨A',0,none⟩) 1 cap' none 0 0 none 0 0 (by unfold fP;rw[bI hk,then_ok,if_neg (by simp[hlp]),if_neg (by simp[hls]),cv heq,then_ok,hy,then_ok]) rfl rfl (fun h=>⟨by have:=h.rd.mono (Q:=fun b=>w.heap.size<b) (fun b hb _=>by omega);simpa[St.ex]using this, .nil _ _, .nil _ _⟩);simp only[World.setCells,aD,Nat.reduceAdd]at hset hfin;exact bodyPost_ret (v:= .agg #[.int .i64 2, .string (ai (ci l).t), .slice (some ⟨A',0,none⟩) 1 cap', .slice none 0 0, .slice none 0 0]) (by simp[results,results184,go_sem,hset]) rfl hfin
   |false=>
    go_wp2_with (go_at_call 100;refine(K.out.bad heq).mono ?_;unfold a6;rintro e wx ⟨rfl,HG⟩);exact⟨rfl,cW (by unfold fP;rw[bI hk,then_ok,if_neg (by simp[hlp]),if_neg (by simp[hls]),ew heq,bK]) HG.out⟩
end
end Go.Proofs.YtddomeddabfinaaGreatDoor
