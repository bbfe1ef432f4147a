/-
  Parts of the proof: ParO ParQ ParR ParS.
-/
import Derived.Test.YtddomeddabfinaaGreatDoorTa00
import Derived.LoopN
import Derived.Test.YtddomeddabfinaaGreatDoorTa09
set_option maxRecDepth 100000
set_option maxHeartbeats 8000000
set_option linter.unusedVariables false
set_option linter.unusedSimpArgs false
set_option linter.unusedSectionVars false
namespace Go.Proofs.YtddomeddabfinaaGreatDoor
open Go.Proofs.Tryz
section
open Go.RowKit
theorem zQ (f:Nat) (hEx:eA f) (base g px pb:Nat) (nm:List UInt8) (l:List bK) (en:Int) (w:World) (C:Option Addr) (n cap:Nat)
  (hP:PA w g l en) (hb:aQ w pb 153 #[.pointer (some ⟨g,0,none⟩)]) (hx:aQ w px 70 #[.int .i64 5, .string ⟨#[]⟩, .string (ah nm), .string ⟨#[]⟩, .int .i64 0, .slice C n cap])
  (hbase:base<=w.heap.size) (hg:g<px) (hgp:g<pb) (hf:4*l.length+2<=f)
  (q:List bK) (er:Int) (he:bN f 1 l= .error (q,er)):
  Calls prog 223 #[.pointer (some ⟨px,0,none⟩), .pointer (some ⟨pb,0,none⟩)] w fun e w'=>e=aZ en q er/\Fr base g px w w':=by
 have HP:=G hP;have HB:=G hb;have HX:=G hx;have hgw:g<w.heap.size:=hP.lt;have hxg:px≠g:=by omega
 have hbg:pb≠g:=by omega
 clear hP hb hx;go_enter func223,ntmps223;refine jD 6 0 [(3,fun v=>v= .agg #[.int .i64 0, .string ⟨#[]⟩, .string ⟨#[]⟩, .string ⟨#[]⟩, .int .i64 0, .slice none 0 0],fun _ _=>False),(5,fun v=> ∃gb,v= .slice (some ⟨gb,0,none⟩) 1 1,fun _ _=>True)] 3 (some g) mixed (by kernel_rfl)
  ⟨fun _ _ _ h _=>h,fun _ _ _ h _=>h,trivial⟩ ⟨.inl rfl, .inr fun _ _ _ h _=>h,trivial⟩ ?_
 repeat (refine sx ?_ (fun w1 hU=> ?_) ?_;rotate_left;(focus have f1:=(HX.out.grown (aE hU) (fun e=>hxg (O e))).cell;have f2:=(HB.out.grown (aE hU) (fun e=>hbg (O e))).cell;clear hU;go_simp<;>with_reducible rfl);simp only[aY,aX,aW,aV,aU])
 refine bG _ _ (by rfl) rfl ⟨_,rfl⟩ rfl (fun w6 hT hp K hK=> ?_) ?_
 ·clear hp;have hc:=hEx 1 l en w6 g (HP.out.ext hT.un) (by decide) (by decide) hf;have HT6:=G hT.un;clear hT;go_simp;refine hc.mono ?_;intro e w7 hh;rw[he]at hh;obtain⟨hG,rfl⟩:=hh;unfold aZ;intro a' hd;exact⟨hd,rfl,cF (ak (HT6.out.grownBy _) hG) hbase (fun k e=>by injection e with e;omega)⟩
 rintro _ rfl;simp only[aY,aX,aW,aV,aU];repeat (refine sx ?_ (fun w1 hU=> ?_) ?_;rotate_left;(focus have f1:=(HX.out.grown (aE hU) (fun e=>hxg (O e))).cell;have f2:=(HB.out.grown (aE hU) (fun e=>hbg (O e))).cell;clear hU;go_simp<;>with_reducible rfl);simp only[aY,aX,aW,aV,aU])
 refine bZ _ _ (by rfl) rfl ⟨_,0,rfl⟩ (by simp) (fun w6 hU hp K hK=> ?_) ?_
 ·clear hp;go_simp;exact hK _ _ (I w6 _) ⟨_,rfl⟩ trivial
 rintro _ ⟨gb,rfl⟩;simp only[aY,aX,aW,aV,aU];intro w8 hw8 hp;exact(hp _ (.tail _ (.head _))).elim
def tokN (g:Nat) (w:World):Nat:=match w.cell? ⟨g,0,none⟩with
 |some (.slice _ n _)=>n
 | _=>0
theorem PA.tokN {w:World} {g:Nat} {l:List bK} {en:Int} (h:PA w g l en):tokN g w=l.length:=by
 obtain⟨A,c,hb,_⟩:=h;unfold YtddomeddabfinaaGreatDoor.tokN;rw[hb.cell];rfl
def Du (base g px:Nat) (nm:List UInt8) (en:Int) (w:World) (r:PR (List Ex)) (e:Ending) (w':World):Prop:=
 Fr base g px w w'/\match r with
 | .ok (a,q)=>e= .returned (.tuple #[])/\PA w' g q en/\ ∃C n cap,aQ w' px 70 #[.int .i64 5, .string ⟨#[]⟩, .string (ah nm), .string ⟨#[]⟩, .int .i64 0, .slice C n cap]/\cu w' (fun b=>base<=b) (.slice C n cap) a
 | .error (q,n)=>e=aZ en q n
theorem oU (f:Nat) (hEx: ∀i,i<=f->eA i) (base g px pb:Nat) (nm:List UInt8) (l:List bK) (en:Int) (w:World)
  (hP:PA w g l en) (hb:aQ w pb 153 #[.pointer (some ⟨g,0,none⟩)]) (hx:aQ w px 70 #[.int .i64 5, .string ⟨#[]⟩, .string (ah nm), .string ⟨#[]⟩, .int .i64 0, .slice none 0 0])
  (hbase:base<=w.heap.size) (hg:g<px) (hgp:g<pb) (hpp:pb≠px) (hpx:px<base) (hpb:pb<base) (hf:4*l.length+4<=f+1) (hnb:l.length<=100000):
  Calls prog 102 #[.pointer (some ⟨g,0,none⟩), .func (Fn.func 223) #[] #[.pointer (some ⟨px,0,none⟩), .pointer (some ⟨pb,0,none⟩)]] w (Du base g px nm en w (fp (f+1) l)):=by
 have HP:=G hP;have HB:=G hb;have HX:=G hx;have HG:=G (cf g l en ko w hP);clear hP hb hx
 cases hrp:cI ko l with
 |true=>
  rw[hrp]at HG;simp only[if_true]at HG;have HR:=G (show fp (f+1) l= .ok ([],l.tail)from by rw[fp,if_pos hrp]);go_enter func102,ntmps102;go_wp2_with (go_at_call 98;refine HG.out.mono ?_;rintro e w1 ⟨rfl,h1,h2⟩;have H1:=G h1;have H2:=G h2;clear h1 h2 HG)
  go_end0
  rw[HR.out];exact⟨cF H2.out hbase (fun k e=>by injection e with e;omega),rfl,H1.out,_,_,_,HX.out.grown H2.out (fun e=>by injection e with e;omega), .nil _ _⟩
 |false=>
  rw[hrp]at HG;simp only[aK,if_false]at HG;have HR:=G (show fp (f+1) l=fX f [] l from by rw[fp,if_neg (by rw[hrp];simp)]);have hf':4*l.length+3<=f:=by omega
  clear hf;go_enter func102,ntmps102;go_wp2_with (go_at_call 98;refine HG.out.mono ?_;rintro e w1 ⟨rfl,h1,h2⟩;have H1:=G h1;have H2:=G h2;clear h1 h2 HG)
  go_loopw [] (fun wr=> ∃(k:Nat) (acc:List (Ex×Value)) (r:List bK) (C:Option Addr) (n cap:Nat),4*r.length+3<=k/\k<=f/\acc.length=n/\n+r.length<=l.length/\Hid (fX k (acc.map (·.1)) r=fp (f+1) l)/\Hid (PA wr g r en)/\Hid (aQ wr px 70 #[.int .i64 5, .string ⟨#[]⟩, .string (ah nm), .string ⟨#[]⟩, .int .i64 0, .slice C n cap])/\
   Hid (f9 wr base 70 (.slice C n cap) acc)/\Hid (Fr base g px w wr)) (fun wr=>tokN g wr)
  case atStart=>exact⟨f,[],l,none,0,0,hf',ag _,rfl,by omega,G HR.out.symm,H1,G (HX.out.grown H2.out (fun e=>by injection e with e;omega)),G (pp _ _ _),G (cF H2.out hbase (fun k e=>by injection e with e;omega))⟩
  case round=>
   obtain⟨k,acc,r,C,n,cap,hk,hkf,hn,hnl,HRes,HPr,HXr,HOr,HFr⟩:=hrel;obtain⟨k,rfl⟩: ∃k',k=k'+1:=⟨k-1,by omega⟩
   have HBr:=G (HFr.out.blk HB.out hpb (by omega) (by omega));have hbr:base<=wr.heap.size:=by have:=HFr.out.size;omega
   have hf2:4*r.length+2<=k:=by omega
   have HSt:=G (show fX (k+1) (acc.map (·.1)) r=(bN k 1 r).then fun x q=>if cI ko q then .ok (acc.map (·.1)++[x],q.tail)else(bT wF q).then fun _ q=>fX k (acc.map (·.1)++[x]) q from by rw[fX])
   cases he:bN k 1 r with
   |error p=>
    obtain⟨q,er⟩:=p;have HRR:=G (show fp (f+1) l= .error (q,er)from by rw[<-HRes.out,HSt.out,he];rfl);have HC:=G (zQ k (hEx k (by omega)) base g px pb nm r en wr C n cap HPr.out HBr.out HXr.out hbr hg hgp hf2 q er he);unfold aZ at HC;go_wp2_with (go_at_call 223;refine HC.out.mono ?_;rintro e w3 ⟨rfl,hF⟩;have HF3:=G (HFr.out.trans hF);clear hF HC);exact⟨rfl,by rw[HRR.out];exact⟨HF3.out,rfl⟩⟩
   |ok p=>
    obtain⟨x,q⟩:=p;have hlt:=(iu k).1 _ _ _ _ he;have HC:=G (Bq k (hEx k (by omega)) base g px pb nm r en wr acc C n cap HPr.out HBr.out HXr.out HOr.out hn hbr hg hgp hpp hpx hpb hf2 (by omega) x q he)
    cases hr2:cI ko q with
    |true=>
     have HRR:=G (show fp (f+1) l= .ok (acc.map (·.1)++[x],q.tail)from by rw[<-HRes.out,HSt.out,he];show(if cI ko q then(Except.ok (acc.map (·.1)++[x],q.tail):PR (List Ex))else _)=_;rw[if_pos hr2])
     go_wp2_with (first
      |(go_at_call 223;refine HC.out.mono ?_;rintro e w3 ⟨rfl,hF,hP3,C3,cap3,a3,hX3,hO3⟩;have HF3:=G (HFr.out.trans hF);have HP3:=G hP3;have HX3:=G hX3;have HO3:=G hO3;clear hF HC hP3 hX3 hO3)
      |(go_at_call 98;refine(cf g q en ko _ HP3.out).mono ?_;rw[hr2];simp only[if_true];rintro e w4 ⟨rfl,h1,h2⟩;have HP4:=G h1;have HG4:=G h2;clear h1 h2))
     go_end0
     rw[HRR.out];have hb3:base<=w3.heap.size:=by have:=HF3.out.size;omega
     have hO4:=HO3.out.grown HG4.out (fun k e=>by injection e with e;omega);exact⟨HF3.out.trans (cF HG4.out hb3 (fun k e=>by injection e with e;omega)),rfl,HP4.out,_,_,_,HX3.out.grown HG4.out (fun e=>by injection e with e;omega),by have:=hO4.rd;simpa using this⟩
    |false=>
     cases hcm:cI wF q with
     |false=>
      have HRR:=G (show fp (f+1) l= .error (q,3)from by rw[<-HRes.out,HSt.out,he];show(if cI ko q then(Except.ok (acc.map (·.1)++[x],q.tail):PR (List Ex))else _)=_;rw[if_neg (by rw[hr2];simp)];unfold bT;rw[hcm];rfl)
      go_wp2_with (first
       |(go_at_call 223;refine HC.out.mono ?_;rintro e w3 ⟨rfl,hF,hP3,C3,cap3,a3,hX3,hO3⟩;have HF3:=G (HFr.out.trans hF);have HP3:=G hP3;clear hF HC hP3 hX3 hO3)
       |(go_at_call 98;refine(cf g q en ko _ HP3.out).mono ?_;rw[hr2];simp only[aK,if_false];rintro e w4 ⟨rfl,h1,h2⟩;have HP4:=G h1;have HG4:=G h2;clear h1 h2 HP3)
       |(go_at_call 100;refine(fS g q en wF _ HP4.out hcm).mono ?_;unfold aZ;rintro e w5 ⟨rfl,hG⟩;have HG5:=G (ak HG4.out hG);clear hG))
      have hb3:base<=w3.heap.size:=by have:=HF3.out.size;omega
      exact⟨rfl,by rw[HRR.out];exact⟨HF3.out.trans (cF HG5.out hb3 (fun k e=>by injection e with e;omega)),rfl⟩⟩
     |true=>
      have HRR:=G (show fX k (acc.map (·.1)++[x]) q.tail=fp (f+1) l from by rw[<-HRes.out,HSt.out,he];show _=(if cI ko q then(Except.ok (acc.map (·.1)++[x],q.tail):PR (List Ex))else _);rw[if_neg (by rw[hr2];simp)];unfold bT;rw[hcm];rfl);have hqt:=bq hcm
      go_wp2_with (first
       |(go_at_call 223;refine HC.out.mono ?_;rintro e w3 ⟨rfl,hF,hP3,C3,cap3,a3,hX3,hO3⟩;have HF3:=G (HFr.out.trans hF);have HP3:=G hP3;have HX3:=G hX3;have HO3:=G hO3;clear hF HC hP3 hX3 hO3)
       |(go_at_call 98;refine(cf g q en ko _ HP3.out).mono ?_;rw[hr2];simp only[aK,if_false];rintro e w4 ⟨rfl,h1,h2⟩;have HP4:=G h1;have HG4:=G h2;clear h1 h2 HP3)
       |(go_at_call 100;refine(d7 g q en wF _ HP4.out hcm).mono ?_;rintro e w5 ⟨rfl,h1,h2⟩;have HP5:=G h1;have HG5:=G (ak HG4.out h2);clear h1 h2))
      have hb3:base<=w3.heap.size:=by have:=HF3.out.size;omega
      go_roundw
      case rel=>exact⟨k,acc++[(x,a3)],q.tail,C3,n+1,cap3,by omega,by omega,by simp[hn],by omega,G (by simpa using HRR.out),HP5,G (HX3.out.grown HG5.out (fun e=>by injection e with e;omega)),G (by simpa using HO3.out.grown HG5.out (fun k e=>by injection e with e;omega)),G (HF3.out.trans (cF HG5.out hb3 (fun k e=>by injection e with e;omega)))⟩
      case measure=>rw[HPr.out.tokN,HP5.out.tokN];omega
end
section
open Go.RowKit
theorem p8 {w W:World} {g pr:Nat} {en:Int} {q:List bK} {z0 z1 z2 z3 z4 z5:Value} {r:PR Ex} (x:Ex) (k:Int) (so sn st:ByteArray) (v:Int) (A:Option Addr) (n c:Nat) (hr:r= .ok (x,q)) (hk:x.k=k) (ho:ah x.op=so) (hn:ah x.nm=sn) (ht:ah x.tx=st) (hv:x.v=v) (hpr:w.heap.size<=pr)
  (hB:aQ W pr 70 #[z0,z1,z2,z3,z4,z5]) (hG:w.grownBy W (some g)) (hPA:PA W g q en) (hg:g<w.heap.size) (hR:cu W (fun b=>pr<b) (.slice A n c) x.args):
  (∀i,(W.setCells pr 0 [.int .i64 k, .string so, .string sn, .string st, .int .i64 v, .slice A n c]).cell? ⟨pr,i,none⟩=(#[.int .i64 k, .string so, .string sn, .string st, .int .i64 v, .slice A n c]:Array Value)[i]?)/\
  oA g en w r (.returned (.agg #[.int .i64 k, .string so, .string sn, .string st, .int .i64 v, .slice A n c])) (W.setCells pr 0 [.int .i64 k, .string so, .string sn, .string st, .int .i64 v, .slice A n c]):=by
 subst hr hk ho hn ht hv;have hc:=cS pr [.int .i64 x.k, .string (ah x.op), .string (ah x.nm), .string (ah x.tx), .int .i64 x.v, .slice A n c] 0 W;refine⟨(oq hB _ _ _ _ _ _).cell,dq hG hc hpr,A,n,c,rfl,hR.keep (.of_grown hc fun b hb e=>by injection e with e;omega) fun b hb _=>by omega,hPA.grown hc fun k e=>by injection e with e;omega⟩
theorem gR (w:World) (p:Value):let W0:=(w.alloc (.cells #[p] 153)).alloc (.cells #[.int .i64 0, .string ⟨#[]⟩, .string ⟨#[]⟩, .string ⟨#[]⟩, .int .i64 0, .slice none 0 0] 70)
  au w W0/\aQ W0 w.heap.size 153 #[p]/\aQ W0 (w.heap.size+1) 70 #[.int .i64 0, .string ⟨#[]⟩, .string ⟨#[]⟩, .string ⟨#[]⟩, .int .i64 0, .slice none 0 0]:=by
 have h:=am (w.alloc (.cells #[p] 153)) 70 #[.int .i64 0, .string ⟨#[]⟩, .string ⟨#[]⟩, .string ⟨#[]⟩, .int .i64 0, .slice none 0 0];rw[World.size_alloc]at h;exact⟨(I w _).alloc' _,(am w _ _).alloc _,h⟩
theorem sy (f:Nat) (nm:List UInt8) (l:List bK) (en:Int) (w:World) (g:Nat) (h:PA w g l en) (hls:cI pL l=false) (hlp:cI lY l=false):Calls prog 206 #[.pointer (some ⟨g,0,none⟩), .string (ah nm)] w (oA g en w (cj (f+1) nm l)):=by
 have HR:=G (show cj (f+1) nm l= .ok (.mk 3 [] nm [] 0 [],l)from by rw[cj,if_neg (by rw[hls];simp),if_neg (by rw[hlp];simp)]);obtain⟨hX0,hb0,hB0⟩:=gR w (.pointer (some ⟨g,0,none⟩));have HX0:=G hX0;have Hb0:=G hb0;have HB0:=G hB0;have HP0:=G (h.ext hX0);have hbc:=hb0.cell;have hgl:=h.lt;have hbg:w.heap.size≠g:=by omega
 have hrg:w.heap.size+1≠g:=by omega
 have hgr:g≠w.heap.size+1:=by omega
 clear h hX0 hb0 hB0;go_enter func206,ntmps206;go_wp2_with (first|(go_at_call 98;refine(cf g _ en pL _ HP0.out).mono ?_;rw[hls];simp only[aK,if_false];rintro e w1 ⟨rfl,h1,h2⟩;have HP1:=G h1;have HG1:=G (ak (HX0.out.grownBy _) h2);have Hb1:=G (Hb0.out.grown h2 (fun e=>hbg (O e)));have HB1:=G (HB0.out.grown h2 (fun e=>hrg (O e)));clear hbc;have hbc:=Hb1.out.cell;have hrc:=HB1.out.cell;have hrf:=HB1.out.frozen;clear h1 h2 HP0)|(go_at_call 98;refine(cf g _ en lY _ HP1.out).mono ?_;rw[hlp];simp only[aK,if_false];rintro e w2 ⟨rfl,h1,h2⟩;have HP2:=G h1;have HG2:=G (ak HG1.out h2);have Hb2:=G (Hb1.out.grown h2 (fun e=>hbg (O e)));have HB2:=G (HB1.out.grown h2 (fun e=>hrg (O e)));clear hbc;have hbc:=Hb2.out.cell;have hrc:=HB2.out.cell;have hrf:=HB2.out.frozen;clear h1 h2 HP1));obtain⟨hset,hfin⟩:=p8 (.mk 3 [] nm [] 0 []) 3 ⟨#[]⟩ (ah nm) ⟨#[]⟩ 0 none 0 0 HR.out rfl rfl rfl rfl rfl (jV _) HB2.out HG2.out HP2.out hgl (.nil _ _);simp only[World.setCells,aA,Nat.reduceAdd]at hset hfin;exact bodyPost_ret (v:= .agg #[.int .i64 3, .string ⟨#[]⟩, .string (ah nm), .string ⟨#[]⟩, .int .i64 0, .slice none 0 0]) (by simp[results,results206,go_sem,hset]) rfl hfin
theorem uM (f:Nat) (nm:List UInt8) (l:List bK) (en:Int) (w:World) (g:Nat) (h:PA w g l en) (hEx:eA f) (hf:4*l.length+1<=f+1) (hls:cI pL l=true) (q:List bK) (n:Int) (hx:bN f 1 l.tail= .error (q,n)):Calls prog 206 #[.pointer (some ⟨g,0,none⟩), .string (ah nm)] w (oA g en w (cj (f+1) nm l)):=by
 have HR1:=G (show cj (f+1) nm l=(bN f 1 l.tail).then fun x r=>(bT rE r).then fun _ r=> .ok (.mk 4 [] nm [] 0 [x],r)from by rw[cj,if_pos hls]);have hf':4*l.tail.length+2<=f:=by have:=bq hls;omega
 have HR:=G (show cj (f+1) nm l= .error (q,n)from by rw[HR1.out,hx];rfl);obtain⟨hX0,hb0,hB0⟩:=gR w (.pointer (some ⟨g,0,none⟩));have HX0:=G hX0;have Hb0:=G hb0;have HB0:=G hB0;have HP0:=G (h.ext hX0);have hbc:=hb0.cell;have hgl:=h.lt;have hbg:w.heap.size≠g:=by omega
 have hrg:w.heap.size+1≠g:=by omega
 have hgr:g≠w.heap.size+1:=by omega
 clear h hX0 hb0 hB0;go_enter func206,ntmps206;go_wp2_with (first|(go_at_call 98;refine(cf g _ en pL _ HP0.out).mono ?_;rw[hls];simp only[if_true];rintro e w1 ⟨rfl,h1,h2⟩;have HP1:=G h1;have HG1:=G (ak (HX0.out.grownBy _) h2);have Hb1:=G (Hb0.out.grown h2 (fun e=>hbg (O e)));have HB1:=G (HB0.out.grown h2 (fun e=>hrg (O e)));clear hbc;have hbc:=Hb1.out.cell;have hrc:=HB1.out.cell;have hrf:=HB1.out.frozen;clear h1 h2 HP0)|(go_at_call 183;refine(hEx 1 _ en _ g HP1.out (by decide) (by decide) hf').mono ?_;intro e w5 hh;rw[hx]at hh;obtain⟨hG,rfl⟩:=hh;unfold aZ;have HG5:=G (ak HG1.out hG);clear hG));exact⟨rfl,fW HR.out HG5.out⟩
theorem uN (f:Nat) (nm:List UInt8) (l:List bK) (en:Int) (w:World) (g:Nat) (h:PA w g l en) (hEx:eA f) (hf:4*l.length+1<=f+1) (hls:cI pL l=true) (x:Ex) (q:List bK) (hx:bN f 1 l.tail= .ok (x,q)) (hrs:cI rE q=false):Calls prog 206 #[.pointer (some ⟨g,0,none⟩), .string (ah nm)] w (oA g en w (cj (f+1) nm l)):=by
 have HR1:=G (show cj (f+1) nm l=(bN f 1 l.tail).then fun x r=>(bT rE r).then fun _ r=> .ok (.mk 4 [] nm [] 0 [x],r)from by rw[cj,if_pos hls]);have hf':4*l.tail.length+2<=f:=by have:=bq hls;omega
 have HR:=G (show cj (f+1) nm l= .error (q,3)from by rw[HR1.out,hx];show(bT rE q).then (fun _ r=>(Except.ok (.mk 4 [] nm [] 0 [x],r):PR Ex))=_;unfold bT;rw[hrs];rfl);obtain⟨hX0,hb0,hB0⟩:=gR w (.pointer (some ⟨g,0,none⟩));have HX0:=G hX0;have Hb0:=G hb0;have HB0:=G hB0;have HP0:=G (h.ext hX0);have hbc:=hb0.cell;have hgl:=h.lt;have hbg:w.heap.size≠g:=by omega
 have hrg:w.heap.size+1≠g:=by omega
 have hgr:g≠w.heap.size+1:=by omega
 clear h hX0 hb0 hB0;go_enter func206,ntmps206;go_wp2_with (first|(go_at_call 98;refine(cf g _ en pL _ HP0.out).mono ?_;rw[hls];simp only[if_true];rintro e w1 ⟨rfl,h1,h2⟩;have HP1:=G h1;have HG1:=G (ak (HX0.out.grownBy _) h2);have Hb1:=G (Hb0.out.grown h2 (fun e=>hbg (O e)));have HB1:=G (HB0.out.grown h2 (fun e=>hrg (O e)));clear hbc;have hbc:=Hb1.out.cell;have hrc:=HB1.out.cell;have hrf:=HB1.out.frozen;clear h1 h2 HP0)|(go_at_call 183;refine(hEx 1 _ en _ g HP1.out (by decide) (by decide) hf').mono ?_;intro e w5 hh;rw[hx]at hh;obtain⟨hG,A,n,c,rfl,hR,hPA⟩:=hh;have hz1:w.heap.size+2<=w1.heap.size:=HB1.out.lt;have hz5:=hG.size;have hE7:=(I w5 (.cells #[.int .i64 x.k, .string (ah x.op), .string (ah x.nm), .string (ah x.tx), .int .i64 x.v, .slice A n c] 70)).alloc' (.cells #[.int .i64 4, .string ⟨#[]⟩, .string (ah nm), .string ⟨#[]⟩, .int .i64 0, .slice (some ⟨w5.heap.size,0,none⟩) 1 1] 70);have HG5:=G (ak (ak HG1.out hG) (hE7.grownBy (some g)));have Hb5:=G ((Hb1.out.grown hG (fun e=>hbg (O e))).ext hE7);have HB5:=G ((HB1.out.grown hG (fun e=>hrg (O e))).ext hE7);have HV5:=G (am (w5.alloc (.cells #[.int .i64 x.k, .string (ah x.op), .string (ah x.nm), .string (ah x.tx), .int .i64 x.v, .slice A n c] 70)) 70 #[.int .i64 4, .string ⟨#[]⟩, .string (ah nm), .string ⟨#[]⟩, .int .i64 0, .slice (some ⟨w5.heap.size,0,none⟩) 1 1]);have hO1:=(am w5 70 #[.int .i64 x.k, .string (ah x.op), .string (ah x.nm), .string (ah x.tx), .int .i64 x.v, .slice A n c]).alloc (.cells #[.int .i64 4, .string ⟨#[]⟩, .string (ah nm), .string ⟨#[]⟩, .int .i64 0, .slice (some ⟨w5.heap.size,0,none⟩) 1 1] 70);have HRD5:=G (iD (P:=fun b=>w.heap.size+1<b) hO1 (by omega) (hR.keep (.of_ext hE7) (fun b hb _=>by omega)));have HP5:=G (hPA.ext hE7);have hv5:(w5.alloc (.cells #[.int .i64 x.k, .string (ah x.op), .string (ah x.nm), .string (ah x.tx), .int .i64 x.v, .slice A n c] 70)).heap.size≠g:=(by have:=hPA.lt;rw[World.size_alloc];omega);rw[World.size_alloc]at HV5 hv5;clear hbc;have hbc:=Hb5.out.cell;clear hG hR hPA hE7 hO1 HP1)|(go_at_call 100;refine(fS g _ en rE _ HP5.out hrs).mono ?_;unfold aZ;rintro e w6 ⟨rfl,hG⟩;have HG6:=G (ak HG5.out hG);clear hG));exact⟨rfl,fW HR.out HG6.out⟩
theorem xq (f:Nat) (nm:List UInt8) (l:List bK) (en:Int) (w:World) (g:Nat) (h:PA w g l en) (hEx:eA f) (hf:4*l.length+1<=f+1) (hls:cI pL l=true) (x:Ex) (q:List bK) (hx:bN f 1 l.tail= .ok (x,q)) (hrs:cI rE q=true):Calls prog 206 #[.pointer (some ⟨g,0,none⟩), .string (ah nm)] w (oA g en w (cj (f+1) nm l)):=by
 have HR1:=G (show cj (f+1) nm l=(bN f 1 l.tail).then fun x r=>(bT rE r).then fun _ r=> .ok (.mk 4 [] nm [] 0 [x],r)from by rw[cj,if_pos hls]);have hf':4*l.tail.length+2<=f:=by have:=bq hls;omega
 have HR:=G (show cj (f+1) nm l= .ok (.mk 4 [] nm [] 0 [x],q.tail)from by rw[HR1.out,hx];show(bT rE q).then (fun _ r=>(Except.ok (.mk 4 [] nm [] 0 [x],r):PR Ex))=_;unfold bT;rw[hrs];rfl);obtain⟨hX0,hb0,hB0⟩:=gR w (.pointer (some ⟨g,0,none⟩));have HX0:=G hX0;have Hb0:=G hb0;have HB0:=G hB0;have HP0:=G (h.ext hX0);have hbc:=hb0.cell;have hgl:=h.lt;have hbg:w.heap.size≠g:=by omega
 have hrg:w.heap.size+1≠g:=by omega
 have hgr:g≠w.heap.size+1:=by omega
 clear h hX0 hb0 hB0;go_enter func206,ntmps206;go_wp2_with (first|(go_at_call 98;refine(cf g _ en pL _ HP0.out).mono ?_;rw[hls];simp only[if_true];rintro e w1 ⟨rfl,h1,h2⟩;have HP1:=G h1;have HG1:=G (ak (HX0.out.grownBy _) h2);have Hb1:=G (Hb0.out.grown h2 (fun e=>hbg (O e)));have HB1:=G (HB0.out.grown h2 (fun e=>hrg (O e)));clear hbc;have hbc:=Hb1.out.cell;have hrc:=HB1.out.cell;have hrf:=HB1.out.frozen;clear h1 h2 HP0)|(go_at_call 183;refine(hEx 1 _ en _ g HP1.out (by decide) (by decide) hf').mono ?_;intro e w5 hh;rw[hx]at hh;obtain⟨hG,A,n,c,rfl,hR,hPA⟩:=hh;have hz1:w.heap.size+2<=w1.heap.size:=HB1.out.lt;have hz5:=hG.size;have hE7:=(I w5 (.cells #[.int .i64 x.k, .string (ah x.op), .string (ah x.nm), .string (ah x.tx), .int .i64 x.v, .slice A n c] 70)).alloc' (.cells #[.int .i64 4, .string ⟨#[]⟩, .string (ah nm), .string ⟨#[]⟩, .int .i64 0, .slice (some ⟨w5.heap.size,0,none⟩) 1 1] 70);have HG5:=G (ak (ak HG1.out hG) (hE7.grownBy (some g)));have Hb5:=G ((Hb1.out.grown hG (fun e=>hbg (O e))).ext hE7);have HB5:=G ((HB1.out.grown hG (fun e=>hrg (O e))).ext hE7);have HV5:=G (am (w5.alloc (.cells #[.int .i64 x.k, .string (ah x.op), .string (ah x.nm), .string (ah x.tx), .int .i64 x.v, .slice A n c] 70)) 70 #[.int .i64 4, .string ⟨#[]⟩, .string (ah nm), .string ⟨#[]⟩, .int .i64 0, .slice (some ⟨w5.heap.size,0,none⟩) 1 1]);have hO1:=(am w5 70 #[.int .i64 x.k, .string (ah x.op), .string (ah x.nm), .string (ah x.tx), .int .i64 x.v, .slice A n c]).alloc (.cells #[.int .i64 4, .string ⟨#[]⟩, .string (ah nm), .string ⟨#[]⟩, .int .i64 0, .slice (some ⟨w5.heap.size,0,none⟩) 1 1] 70);have HRD5:=G (iD (P:=fun b=>w.heap.size+1<b) hO1 (by omega) (hR.keep (.of_ext hE7) (fun b hb _=>by omega)));have HP5:=G (hPA.ext hE7);have hv5:(w5.alloc (.cells #[.int .i64 x.k, .string (ah x.op), .string (ah x.nm), .string (ah x.tx), .int .i64 x.v, .slice A n c] 70)).heap.size≠g:=(by have:=hPA.lt;rw[World.size_alloc];omega);rw[World.size_alloc]at HV5 hv5;clear hbc;have hbc:=Hb5.out.cell;clear hG hR hPA hE7 hO1 HP1)|(go_at_call 100;refine(d7 g _ en rE _ HP5.out hrs).mono ?_;rintro e w6 ⟨rfl,h1,h2⟩;have HP6:=G h1;have HG6:=G (ak HG5.out h2);have HB6:=G (HB5.out.grown h2 (fun e=>hrg (O e)));have HV6:=G (HV5.out.grown h2 (fun e=>hv5 (O e)));have HRD6:=G (HRD5.out.keep (.of_grown h2 fun b hb e=>by injection e with e;omega) (fun b hb _=>hb));clear hrc hrf;have hrc:=HB6.out.cell;have hrf:=HB6.out.frozen;have hvc:=HV6.out.cell;clear h1 h2 HP5));obtain⟨hset,hfin⟩:=p8 (.mk 4 [] nm [] 0 [x]) 4 ⟨#[]⟩ (ah nm) ⟨#[]⟩ 0 (some ⟨w5.heap.size,0,none⟩) 1 1 HR.out rfl rfl rfl rfl rfl (jV _) HB6.out HG6.out HP6.out hgl HRD6.out;simp only[World.setCells,aA,Nat.reduceAdd]at hset hfin;exact bodyPost_ret (v:= .agg #[.int .i64 4, .string ⟨#[]⟩, .string (ah nm), .string ⟨#[]⟩, .int .i64 0, .slice (some ⟨w5.heap.size,0,none⟩) 1 1]) (by simp[results,results206,go_sem,hset]) rfl hfin
theorem x9 (f:Nat) (nm:List UInt8) (l:List bK) (en:Int) (w:World) (g:Nat) (h:PA w g l en) (hEs: ∀i,i<=f->eA i) (hff:f<=400000) (hf:4*l.length+1<=f+1) (hls:cI pL l=false) (hlp:cI lY l=true) (q:List bK) (n:Int) (hx:fp f l.tail= .error (q,n)):Calls prog 206 #[.pointer (some ⟨g,0,none⟩), .string (ah nm)] w (oA g en w (cj (f+1) nm l)):=by
 obtain⟨f,rfl⟩: ∃f',f=f'+1:=⟨f-1,by have:=bq hlp;omega⟩
 have HR1:=G (show cj (f+1+1) nm l=(fp (f+1) l.tail).then fun a r=> .ok (.mk 5 [] nm [] 0 a,r)from by rw[cj,if_neg (by rw[hls];simp),if_pos hlp]);have hf':4*l.tail.length+4<=f+1:=by have:=bq hlp;omega
 have hmf: ∀(fn:Fn) (first cap:Array Value) (w:World),(Instr.makeFunc fn first cap).run prog w= .ok (.func fn first cap) w:=fun _ _ _ _=>rfl;have HR:=G (show cj (f+1+1) nm l= .error (q,n)from by rw[HR1.out,hx];rfl);obtain⟨hX0,hb0,hB0⟩:=gR w (.pointer (some ⟨g,0,none⟩));have HX0:=G hX0;have Hb0:=G hb0;have HB0:=G hB0;have HP0:=G (h.ext hX0);have hbc:=hb0.cell;have hgl:=h.lt;have hbg:w.heap.size≠g:=by omega
 have hrg:w.heap.size+1≠g:=by omega
 have hgr:g≠w.heap.size+1:=by omega
 clear h hX0 hb0 hB0;go_enter func206,ntmps206;go_wp2_with (first|(go_at_call 98;refine(cf g _ en pL _ HP0.out).mono ?_;rw[hls];simp only[aK,if_false];rintro e w1 ⟨rfl,h1,h2⟩;have HP1:=G h1;have HG1:=G (ak (HX0.out.grownBy _) h2);have Hb1:=G (Hb0.out.grown h2 (fun e=>hbg (O e)));have HB1:=G (HB0.out.grown h2 (fun e=>hrg (O e)));clear hbc;have hbc:=Hb1.out.cell;have hrc:=HB1.out.cell;have hrf:=HB1.out.frozen;clear h1 h2 HP0)|(go_at_call 98;refine(cf g _ en lY _ HP1.out).mono ?_;rw[hlp];simp only[if_true];rintro e w2 ⟨rfl,h1,h2⟩;have HP2:=G h1;have HG2:=G (ak HG1.out h2);have Hb2:=G (Hb1.out.grown h2 (fun e=>hbg (O e)));have HB2:=G (HB1.out.grown h2 (fun e=>hrg (O e)));clear hbc;have hbc:=Hb2.out.cell;have hrc:=HB2.out.cell;have hrf:=HB2.out.frozen;clear h1 h2 HP1;have HL:=G (oU f (fun i hi=>hEs i (by omega)) (w2.heap.size+1) g w2.heap.size w.heap.size nm l.tail en (w2.alloc (.cells #[.int .i64 5, .string ⟨#[]⟩, .string (ah nm), .string ⟨#[]⟩, .int .i64 0, .slice none 0 0] 70)) (HP2.out.ext (I w2 _)) (Hb2.out.alloc _) (am w2 _ _) (by rw[World.size_alloc];exact ag _) (by have:=HP2.out.lt;omega) (by omega) (by have:=Hb2.out.lt;omega) (by omega) (by have:=Hb2.out.lt;omega) hf' (by omega));have HB3:=G (HB2.out.alloc (.cells #[.int .i64 5, .string ⟨#[]⟩, .string (ah nm), .string ⟨#[]⟩, .int .i64 0, .slice none 0 0] 70));have Hb3:=G (Hb2.out.alloc (.cells #[.int .i64 5, .string ⟨#[]⟩, .string (ah nm), .string ⟨#[]⟩, .int .i64 0, .slice none 0 0] 70));have hz2:w.heap.size+2<=w2.heap.size:=HB2.out.lt;have HG3:=G (ak HG2.out ((I w2 (.cells #[.int .i64 5, .string ⟨#[]⟩, .string (ah nm), .string ⟨#[]⟩, .int .i64 0, .slice none 0 0] 70)).grownBy (some g)));clear hbc;have hbc:=Hb3.out.cell)|(go_at_call 102;refine HL.out.mono ?_;intro e w5 hh;rw[hx]at hh;obtain⟨hF,rfl⟩:=hh;unfold aZ;have HG5:=G (jg HG3.out hF (by omega) (by omega));clear hF));exact⟨rfl,fW HR.out HG5.out⟩
theorem zS (f:Nat) (nm:List UInt8) (l:List bK) (en:Int) (w:World) (g:Nat) (h:PA w g l en) (hEs: ∀i,i<=f->eA i) (hff:f<=400000) (hf:4*l.length+1<=f+1) (hls:cI pL l=false) (hlp:cI lY l=true) (a:List Ex) (q:List bK) (hx:fp f l.tail= .ok (a,q)):Calls prog 206 #[.pointer (some ⟨g,0,none⟩), .string (ah nm)] w (oA g en w (cj (f+1) nm l)):=by
 obtain⟨f,rfl⟩: ∃f',f=f'+1:=⟨f-1,by have:=bq hlp;omega⟩
 have HR1:=G (show cj (f+1+1) nm l=(fp (f+1) l.tail).then fun a r=> .ok (.mk 5 [] nm [] 0 a,r)from by rw[cj,if_neg (by rw[hls];simp),if_pos hlp]);have hf':4*l.tail.length+4<=f+1:=by have:=bq hlp;omega
 have hmf: ∀(fn:Fn) (first cap:Array Value) (w:World),(Instr.makeFunc fn first cap).run prog w= .ok (.func fn first cap) w:=fun _ _ _ _=>rfl;have HR:=G (show cj (f+1+1) nm l= .ok (.mk 5 [] nm [] 0 a,q)from by rw[HR1.out,hx];rfl);obtain⟨hX0,hb0,hB0⟩:=gR w (.pointer (some ⟨g,0,none⟩));have HX0:=G hX0;have Hb0:=G hb0;have HB0:=G hB0;have HP0:=G (h.ext hX0);have hbc:=hb0.cell;have hgl:=h.lt;have hbg:w.heap.size≠g:=by omega
 have hrg:w.heap.size+1≠g:=by omega
 have hgr:g≠w.heap.size+1:=by omega
 clear h hX0 hb0 hB0;go_enter func206,ntmps206;go_wp2_with (first|(go_at_call 98;refine(cf g _ en pL _ HP0.out).mono ?_;rw[hls];simp only[aK,if_false];rintro e w1 ⟨rfl,h1,h2⟩;have HP1:=G h1;have HG1:=G (ak (HX0.out.grownBy _) h2);have Hb1:=G (Hb0.out.grown h2 (fun e=>hbg (O e)));have HB1:=G (HB0.out.grown h2 (fun e=>hrg (O e)));clear hbc;have hbc:=Hb1.out.cell;have hrc:=HB1.out.cell;have hrf:=HB1.out.frozen;clear h1 h2 HP0)|(go_at_call 98;refine(cf g _ en lY _ HP1.out).mono ?_;rw[hlp];simp only[if_true];rintro e w2 ⟨rfl,h1,h2⟩;have HP2:=G h1;have HG2:=G (ak HG1.out h2);have Hb2:=G (Hb1.out.grown h2 (fun e=>hbg (O e)));have HB2:=G (HB1.out.grown h2 (fun e=>hrg (O e)));clear hbc;have hbc:=Hb2.out.cell;have hrc:=HB2.out.cell;have hrf:=HB2.out.frozen;clear h1 h2 HP1;have HL:=G (oU f (fun i hi=>hEs i (by omega)) (w2.heap.size+1) g w2.heap.size w.heap.size nm l.tail en (w2.alloc (.cells #[.int .i64 5, .string ⟨#[]⟩, .string (ah nm), .string ⟨#[]⟩, .int .i64 0, .slice none 0 0] 70)) (HP2.out.ext (I w2 _)) (Hb2.out.alloc _) (am w2 _ _) (by rw[World.size_alloc];exact ag _) (by have:=HP2.out.lt;omega) (by omega) (by have:=Hb2.out.lt;omega) (by omega) (by have:=Hb2.out.lt;omega) hf' (by omega));have HB3:=G (HB2.out.alloc (.cells #[.int .i64 5, .string ⟨#[]⟩, .string (ah nm), .string ⟨#[]⟩, .int .i64 0, .slice none 0 0] 70));have Hb3:=G (Hb2.out.alloc (.cells #[.int .i64 5, .string ⟨#[]⟩, .string (ah nm), .string ⟨#[]⟩, .int .i64 0, .slice none 0 0] 70));have hz2:w.heap.size+2<=w2.heap.size:=HB2.out.lt;have HG3:=G (ak HG2.out ((I w2 (.cells #[.int .i64 5, .string ⟨#[]⟩, .string (ah nm), .string ⟨#[]⟩, .int .i64 0, .slice none 0 0] 70)).grownBy (some g)));clear hbc;have hbc:=Hb3.out.cell)|(go_at_call 102;refine HL.out.mono ?_;intro e w5 hh;rw[hx]at hh;obtain⟨hF,rfl,hPA,C,n,cap,hX,hR⟩:=hh;have HG5:=G (jg HG3.out hF (by omega) (by omega));have HP5:=G hPA;have HRD5:=G (hR.mono (Q:=fun b=>w.heap.size+1<b) (fun b hb _=>by omega));have HV5:=G hX;have HB5:=G (hF.blk HB3.out (by omega) hrg (by omega));clear hrc hrf;have hrc:=HB5.out.cell;have hrf:=HB5.out.frozen;have hvc:=HV5.out.cell;clear hF hPA hX hR));obtain⟨hset,hfin⟩:=p8 (.mk 5 [] nm [] 0 a) 5 ⟨#[]⟩ (ah nm) ⟨#[]⟩ 0 C n cap HR.out rfl rfl rfl rfl rfl (jV _) HB5.out HG5.out HP5.out hgl HRD5.out;simp only[World.setCells,aA,Nat.reduceAdd]at hset hfin;exact bodyPost_ret (v:= .agg #[.int .i64 5, .string ⟨#[]⟩, .string (ah nm), .string ⟨#[]⟩, .int .i64 0, .slice C n cap]) (by simp[results,results206,go_sem,hset]) rfl hfin
theorem sw (f:Nat) (hff:f<=400000) (hEs: ∀i,i<=f->eA i):ib (f+1):=by
 intro nm l en w g h hf
 cases hls:cI pL l with
 |true=>
  cases hx:bN f 1 l.tail with
  |error p=>exact uM f nm l en w g h (hEs f (ag _)) hf hls p.1 p.2 hx
  |ok p=>
   cases hrs:cI rE p.2 with
   |false=>exact uN f nm l en w g h (hEs f (ag _)) hf hls p.1 p.2 hx hrs
   |true=>exact xq f nm l en w g h (hEs f (ag _)) hf hls p.1 p.2 hx hrs
 |false=>
  cases hlp:cI lY l with
  |false=>exact sy f nm l en w g h hls hlp
  |true=>
   cases hx:fp f l.tail with
   |error p=>exact x9 f nm l en w g h hEs hff hf hls hlp p.1 p.2 hx
   |ok p=>exact zS f nm l en w g h hEs hff hf hls hlp p.1 p.2 hx
end
section
open Go.RowKit
theorem uR (f:Nat) (hP:pk f) (hEs: ∀i,i<=f->eA i):eA (f+1):=by
 intro n0 l en w g h hn1 hn7 hf;have HX0:=G (I w (.cells #[.int .i64 0, .string ⟨#[]⟩, .string ⟨#[]⟩, .string ⟨#[]⟩, .int .i64 0, .slice none 0 0] 70));have HB0:=G (am w 70 #[.int .i64 0, .string ⟨#[]⟩, .string ⟨#[]⟩, .string ⟨#[]⟩, .int .i64 0, .slice none 0 0]);have HP0:=G (h.ext HX0.out);have hgl:=h.lt;have hrg:w.heap.size≠g:=by omega
 have hgr:g≠w.heap.size:=by omega
 have hfp:4*l.length+1<=f:=by omega
 have HRL:=G (show bN (f+1) n0 l=(cE f l).then fun x r=>gI f n0 x r from by rw[bN]);clear h hf;go_enter func183,ntmps183
 cases hp0:cE f l with
 |error p=>
  obtain⟨q,er⟩:=p;have HR:=G (show bN (f+1) n0 l= .error (q,er)from by rw[HRL.out,hp0];rfl);go_wp2_with (go_at_call 205;refine(hP l en _ g HP0.out hfp).mono ?_;intro e w1 hh;rw[hp0]at hh;obtain⟨hG,rfl⟩:=hh;unfold aZ;have HG1:=G (ak (HX0.out.grownBy _) hG);clear hG);exact⟨rfl,fW HR.out HG1.out⟩
 |ok p=>
  obtain⟨x0,q0⟩:=p;have hq0:=(iu f).2.2.1 _ _ _ hp0;have HR0:=G (show gI f n0 x0 q0=bN (f+1) n0 l from by rw[HRL.out,hp0];rfl);clear HRL;go_wp2_with (go_at_call 205;refine(hP l en _ g HP0.out hfp).mono ?_;intro e w1 hh;rw[hp0]at hh;obtain⟨hG,A0,n1,c0,rfl,hR,hPA⟩:=hh;have hz1:=hG.size;rw[World.size_alloc]at hz1;have hE:=I w1 (.cells #[.int .i64 x0.k, .string (ah x0.op), .string (ah x0.nm), .string (ah x0.tx), .int .i64 x0.v, .slice A0 n1 c0] 70);have HG1:=G (ak (ak (HX0.out.grownBy (some g)) hG) (hE.grownBy (some g)));have HB1:=G ((HB0.out.grown hG (fun e=>hrg (O e))).ext hE);have HV1:=G (am w1 70 #[.int .i64 x0.k, .string (ah x0.op), .string (ah x0.nm), .string (ah x0.tx), .int .i64 x0.v, .slice A0 n1 c0]);have HRD1:=G (hR.keep (.of_ext hE) (Q:=fun b=>w.heap.size<b/\b≠w1.heap.size) (fun b hb hlt=>⟨by rw[World.size_alloc]at hb;omega,by omega⟩));have HP1:=G (hPA.ext hE);have hv1:w1.heap.size≠g:=(by have:=hPA.lt;omega);clear hG hR hPA hE);have hpr:w.heap.size<w1.heap.size:=by omega
  have hprn:w.heap.size≠w1.heap.size:=by omega
  have hprn2:w1.heap.size≠w.heap.size:=by omega
  have hgv:g≠w1.heap.size:=fun e=>hv1 e.symm;clear HX0 HB0 HP0
  go_loopw [] (fun wr=> ∃(k:Nat) (x:Ex) (A:Option Addr) (n c:Nat) (r:List bK),4*r.length+1<=k/\k<=f/\Hid (gI k n0 x r=bN (f+1) n0 l)/\Hid (PA wr g r en)/\Hid (aQ wr w1.heap.size 70 #[.int .i64 x.k, .string (ah x.op), .string (ah x.nm), .string (ah x.tx), .int .i64 x.v, .slice A n c])/\Hid (cu wr (fun b=>w.heap.size<b/\b≠w1.heap.size) (.slice A n c) x.args)/\Hid (aQ wr w.heap.size 70 #[.int .i64 0, .string ⟨#[]⟩, .string ⟨#[]⟩, .string ⟨#[]⟩, .int .i64 0, .slice none 0 0])/\Hid (w.grownBy wr (some g))) (fun wr=>tokN g wr)
  case atStart=>exact⟨f,x0,A0,n1,c0,q0,by omega,ag _,HR0,HP1,HV1,HRD1,HB1,HG1⟩
  case round=>
   clear HR0 HP1 HV1 HRD1 HB1 HG1;obtain⟨k,x,A,n,c,r,hk,hkf,HRes,HPr,HVr,HRr,HBr,HGr⟩:=hrel;obtain⟨k,rfl⟩: ∃k',k=k'+1:=⟨k-1,by omega⟩
   have HN:=G (d9 g r en wr HPr.out);have HSt:=G (show gI (k+1) n0 x r=if(cg r).k=5/\n0<=ky (cg r).t then(bN k (ky (cg r).t+1) r.tail).then fun y q=>gI k n0 (.mk 7 (cg r).t [] [] 0 [x,y]) q else .ok (x,r)from by rw[gI]);by_cases hgo:(cg r).k=5/\n0<=ky (cg r).t
   rotate_left
   ·have HR:=G (show bN (f+1) n0 l= .ok (x,r)from by rw[<-HRes.out,HSt.out,if_neg hgo]);clear HSt HRes;generalize cg r=t at*;obtain⟨tk,tt,tv,tf⟩:=t;simp only at hgo HN;have HLV:=G (kr tt);generalize ky tt=L at*;by_cases h5:tk=5
    ·have hlt:L<n0:=by omega
     obtain rfl:tk=5:=h5;clear hgo;go_wp2_with (first|(go_at_call 146;refine HN.out.mono ?_;rintro e w2 ⟨rfl,hE⟩;have hz2:=df hE;have hE2:=hE.alloc' (.cells #[.int .i64 5, .string (ah tt), .int .i64 tv, .int .i64 tf] 206);have HG3:=G (ak HGr.out (hE2.grownBy (some g)));have HB3:=G (HBr.out.ext hE2);have HV3:=G (HVr.out.ext hE2);have HT3:=G (am w2 206 #[.int .i64 5, .string (ah tt), .int .i64 tv, .int .i64 tf]);have HR3:=G (HRr.out.keep (.of_ext hE2) (fun _ hb _=>hb));have HP3:=G (HPr.out.ext hE2);have hvc:=HV3.out.cell;have hrc:=HB3.out.cell;have hrf:=HB3.out.frozen;clear hE hE2 HN)|(go_at_call 153;refine(HLV.out _).mono ?_;rintro e w3 ⟨rfl,rfl⟩;clear HLV));obtain⟨hset,hfin⟩:=j' x x.k (ah x.op) (ah x.nm) (ah x.tx) x.v A n c HR.out rfl rfl rfl rfl rfl rfl HB3.out HG3.out HP3.out hgl (HR3.out.mono fun b hb _=>by omega);simp only[World.setCells,aA,Nat.reduceAdd]at hset hfin;change bodyPost prog Tryz.f183 _ Exit.ret _ _;exact bodyPost_ret (v:= .agg #[.int .i64 x.k, .string (ah x.op), .string (ah x.nm), .string (ah x.tx), .int .i64 x.v, .slice A n c]) (by simp[results,results183,go_sem,hset]) rfl hfin
    ·have hb5:(tk==5)=false:=beq_eq_false_iff_ne.2 h5;have hb5n:(tk !=5)=true:=by rw[bne,hb5];rfl
     clear hgo;go_wp2_with (first|(go_at_call 146;refine HN.out.mono ?_;rintro e w2 ⟨rfl,hE⟩;have hz2:=df hE;have hE2:=hE.alloc' (.cells #[.int .i64 tk, .string (ah tt), .int .i64 tv, .int .i64 tf] 206);have HG3:=G (ak HGr.out (hE2.grownBy (some g)));have HB3:=G (HBr.out.ext hE2);have HV3:=G (HVr.out.ext hE2);have HT3:=G (am w2 206 #[.int .i64 tk, .string (ah tt), .int .i64 tv, .int .i64 tf]);have HR3:=G (HRr.out.keep (.of_ext hE2) (fun _ hb _=>hb));have HP3:=G (HPr.out.ext hE2);have hvc:=HV3.out.cell;have hrc:=HB3.out.cell;have hrf:=HB3.out.frozen;clear hE hE2 HN)|(go_at_call 153;refine(HLV.out _).mono ?_;rintro e w3 ⟨rfl,rfl⟩;clear HLV));obtain⟨hset,hfin⟩:=j' x x.k (ah x.op) (ah x.nm) (ah x.tx) x.v A n c HR.out rfl rfl rfl rfl rfl rfl HB3.out HG3.out HP3.out hgl (HR3.out.mono fun b hb _=>by omega);simp only[World.setCells,aA,Nat.reduceAdd]at hset hfin;change bodyPost prog Tryz.f183 _ Exit.ret _ _;exact bodyPost_ret (v:= .agg #[.int .i64 x.k, .string (ah x.op), .string (ah x.nm), .string (ah x.tx), .int .i64 x.v, .slice A n c]) (by simp[results,results183,go_sem,hset]) rfl hfin
   ·obtain⟨h5,hle⟩:=hgo;obtain⟨⟨tk,tt,tv,tf⟩,q,rfl⟩:=lJ h5 (by decide);have HS2:=G (show bN (f+1) n0 l=(bN k (ky tt+1) q).then fun y r=>gI k n0 (.mk 7 tt [] [] 0 [x,y]) r from by rw[<-HRes.out,HSt.out,if_pos ⟨h5,hle⟩];rfl);clear HSt HRes;simp only[cg]at h5 hle HN;obtain rfl:tk=5:=h5;have HLV:=G (kr tt);have hL:=Bg tt;have hfq:4*q.length+2<=k:=by simp only[ac]at hk;omega
    generalize hLe:ky tt=L at*;have hlt: ¬L<n0:=by omega
    have hw:wrap64 (L+1)=L+1:=by simp only[wrap64];omega
    have hw2:IntKind.i64.wrap (L+1)=L+1:=by simp[IntKind.wrap,IntKind.signed,IntKind.bits];omega
    clear hLe;go_wp2_with (first|(go_at_call 146;refine HN.out.mono ?_;rintro e w2 ⟨rfl,hE⟩;have hz2:=df hE;have hE2:=hE.alloc' (.cells #[.int .i64 5, .string (ah tt), .int .i64 tv, .int .i64 tf] 206);have HG3:=G (ak HGr.out (hE2.grownBy (some g)));have HB3:=G (HBr.out.ext hE2);have HV3:=G (HVr.out.ext hE2);have HT3:=G (am w2 206 #[.int .i64 5, .string (ah tt), .int .i64 tv, .int .i64 tf]);have HR3:=G (HRr.out.keep (.of_ext hE2) (fun _ hb _=>hb));have HP3:=G (HPr.out.ext hE2);have hvc:=HV3.out.cell;have hrc:=HB3.out.cell;have hrf:=HB3.out.frozen;clear hE hE2 HN;obtain⟨A3,c3,hb,ht,hn⟩:=HP3.out;obtain⟨b,off,rfl,hlt2,_⟩:=ht.at_ 0 (by simp);have hbc:=hb.cell;have hbf:=hb.frozen)|(go_at_call 153;refine(HLV.out _).mono ?_;rintro e w3 ⟨rfl,rfl⟩;clear HLV));all_goals
     first|have hq:=PA.next_a hb ht (hn b off rfl (by simp)) hlt2 (by assumption)|have hq:=PA.next_b hb ht (hn b off rfl (by simp)) hlt2 (by assumption)
     obtain⟨h1,h2⟩:=hq;have htg:w2.heap.size≠g:=by have:=HPr.out.lt;omega
     have HG5:=G (ak HG3.out h2);have HB5:=G (HB3.out.grown h2 (fun e=>hrg (O e)));have HV5:=G (HV3.out.grown h2 (fun e=>hv1 (O e)));have HT5:=G (HT3.out.grown h2 (fun e=>htg (O e)));have HR5:=G (HR3.out.keep (.of_grown h2 fun b hb e=>by injection e with e;omega) (fun b hb _=>hb));have HP5:=G h1;clear hb ht hn hlt2 hbc hbf hvc hrc hrf h2 h1;generalize World.setCell _ _ _=w5 at*;have hg5:g<w5.heap.size:=HP5.out.lt;have hz5:w.heap.size<w5.heap.size:=HB5.out.lt;have hv5:w1.heap.size<w5.heap.size:=HV5.out.lt
     cases hpe:bN k (L+1) q with
     |error p=>
      obtain⟨q1,er⟩:=p;have HR:=G (show bN (f+1) n0 l= .error (q1,er)from by rw[HS2.out,hpe];rfl);refine bO 9 7 [(6,fun v=>v= .agg #[.int .i64 0, .string ⟨#[]⟩, .string ⟨#[]⟩, .string ⟨#[]⟩, .int .i64 0, .slice none 0 0],fun _ _=>False),(7,fun v=> ∃gb,v= .slice (some ⟨gb,0,none⟩) 2 2,fun _ _=>True)] 6 (some g) mixed (by kernel_rfl) ⟨fun _ _ _ h _=>h,fun _ _ _ h _=>h,trivial⟩ ⟨.inl rfl, .inr fun _ _ _ h _=>h,trivial⟩ ?_;repeat (refine sx ?_ (fun w1 hU=> ?_) ?_;rotate_left;(focus have f1:=(HT5.out.grown (aE hU) (fun e=>htg (O e))).cell;have f2:=(HV5.out.grown (aE hU) (fun e=>hv1 (O e))).cell;clear hU;go_simp<;>with_reducible rfl);simp only[aY,aX,aW,aV,aU])
      refine bG _ _ (by rfl) rfl ⟨_,rfl⟩ rfl (fun w6 hT hp K hK=> ?_) ?_
      ·clear hp;have hc:=hEs k (by omega) (L+1) q en w6 g (HP5.out.ext hT.un) (by omega) (by omega) hfq;have HT6:=G hT.un;clear hT;go_simp;refine hc.mono ?_;intro e w7 hh;rw[hpe]at hh;obtain⟨hG,rfl⟩:=hh;unfold aZ;intro a' hd;exact⟨hd,fW HR.out (ak HG5.out (ak (HT6.out.grownBy _) hG))⟩
      rintro _ rfl;simp only[aY,aX,aW,aV,aU];refine bZ _ _ (by rfl) rfl ⟨_,0,rfl⟩ (by simp) (fun w6 hU hp K hK=> ?_) ?_
      ·clear hp;go_simp;exact hK _ _ (I w6 _) ⟨_,rfl⟩ trivial
      rintro _ ⟨gb,rfl⟩;simp only[aY,aX,aW,aV,aU];repeat (refine sx ?_ (fun w1 hU=> ?_) ?_;rotate_left;(focus go_simp<;>with_reducible rfl);simp only[aY,aX,aW,aV,aU])
      intro w6 hw6 hp;exact(hp _ (.tail _ (.head _))).elim
     |ok p=>
      obtain⟨y,q1⟩:=p;have hq1:=(iu k).1 _ _ _ _ hpe;have HRN:=G (show gI k n0 (.mk 7 tt [] [] 0 [x,y]) q1=bN (f+1) n0 l from by rw[HS2.out,hpe];rfl)
      refine bO 9 7 [(6,fun v=> ∃A n c,v= .agg #[.int .i64 y.k, .string (ah y.op), .string (ah y.nm), .string (ah y.tx), .int .i64 y.v, .slice A n c],fun v wx=> ∀A n c,v= .agg #[.int .i64 y.k, .string (ah y.op), .string (ah y.nm), .string (ah y.tx), .int .i64 y.v, .slice A n c]->cu wx (fun b=>w5.heap.size<=b) (.slice A n c) y.args/\PA wx g q1 en),
        (7,fun v=> ∃gb,v= .slice (some ⟨gb,0,none⟩) 2 2,fun v wx=>cu wx (fun b=>w.heap.size<b/\b≠w1.heap.size) v [x,y])] 6 (some g) mixed (by kernel_rfl)
       ⟨fun _ _ _ h hx A n c e=>⟨(h A n c e).1.keep (.of_ext hx) (fun _ hb _=>hb),(h A n c e).2.ext hx⟩,fun _ _ _ h hx=>h.keep (.of_ext hx) (fun _ hb _=>hb),trivial⟩
       ⟨.inl rfl, .inr fun _ _ _ h hx=>h.keep (.of_grown hx fun b hb e=>by injection e with e;omega) (fun _ hb _=>hb),trivial⟩ ?_
      repeat (refine sx ?_ (fun w1 hU=> ?_) ?_;rotate_left;(focus have f1:=(HT5.out.grown (aE hU) (fun e=>htg (O e))).cell;have f2:=(HV5.out.grown (aE hU) (fun e=>hv1 (O e))).cell;clear hU;go_simp<;>with_reducible rfl);simp only[aY,aX,aW,aV,aU])
      refine bG _ _ (by rfl) rfl ⟨_,none,0,0,rfl⟩ rfl (fun w6 hT hp K hK=> ?_) ?_
      ·clear hp;have hc:=hEs k (by omega) (L+1) q en w6 g (HP5.out.ext hT.un) (by omega) (by omega) hfq;have HT6:=G hT.un;clear hT;go_simp;refine hc.mono ?_;intro e w7 hh;rw[hpe]at hh;obtain⟨hG,A,n,c,rfl,hR,hPA⟩:=hh;exact hK _ _ hG ⟨_,_,_,rfl⟩ (fun A' n' c' e=>by injection e with e;simp only[eV,dV,dY,and_true,true_and]at e;obtain⟨rfl,rfl,rfl⟩:=e;exact⟨hR.mono (fun b hb _=>aT (df HT6.out) hb),hPA⟩)
      rintro _ ⟨A2,n2,c2,rfl⟩;simp only[aY,aX,aW,aV,aU];refine bZ _ _ (by rfl) rfl ⟨_,0,rfl⟩ (by simp) (fun w6 hU hp K hK=> ?_) ?_
      ·have h3:=(hp _ (.head _) (by kernel_rfl)) A2 n2 c2 rfl;have hU':=aE hU;have hz6:=hU'.size;have hr6:=HR5.out.keep (.of_grown hU' fun b hb e=>by injection e with e;omega) (fun b hb _=>hb);clear hp hU;go_simp;exact hK _ _ (I w6 _) ⟨_,rfl⟩ (cu.two (am w6 _ _) ⟨by omega,by omega⟩ (hr6.keep (.of_ext (I w6 _)) (fun _ hb _=>hb)) (h3.1.keep (.of_ext (I w6 _)) (fun b hb _=>⟨by omega,by omega⟩)))
      rintro _ ⟨gb,rfl⟩;simp only[aY,aX,aW,aV,aU];repeat (refine sx ?_ (fun w1 hU=> ?_) ?_;rotate_left;(focus go_simp<;>with_reducible rfl);simp only[aY,aX,aW,aV,aU])
      intro w8 hw8 hp;have h4:=hp _ (.head _);have h3:=(hp _ (.tail _ (.head _)) A2 n2 c2 rfl).2;clear hp;simp only[aa,an];have hw8:=aE hw8;have hV8:=HV5.out.grown hw8 (fun e=>hv1 (O e));have hc9:=cS w1.heap.size [.int .i64 7, .string (ah tt), .string ⟨#[]⟩, .string ⟨#[]⟩, .int .i64 0, .slice (some ⟨gb,0,none⟩) 2 2] 0 w8;have hG9:=dq (ak HG5.out hw8) hc9 (aG hpr);have hV9:=oq hV8 (.int .i64 7) (.string (ah tt)) (.string ⟨#[]⟩) (.string ⟨#[]⟩) (.int .i64 0) (.slice (some ⟨gb,0,none⟩) 2 2);have hB9:=(HB5.out.grown hw8 (fun e=>hrg (O e))).grown hc9 (fun e=>hprn (O e));have hR9:=h4.keep (.of_grown hc9 fun b hb e=>hb.2 (O e)) (fun b hb _=>hb);have hP9:=h3.grown hc9 (fun k e=>by injection e with e;omega);simp only[World.setCells,aA,Nat.reduceAdd]at hG9 hV9 hB9 hR9 hP9;have hvc:=hV8.cell;have hvf:=hV8.frozen;have HG9:=G hG9;have HV9:=G hV9;have HB9:=G hB9;have HR9:=G hR9;have HP9:=G hP9;clear hw8 hV8 hc9 hG9 hV9 hB9 hR9 hP9 h4 h3;go_wp2_with fail;go_roundw
      case rel=>exact⟨k, .mk 7 tt [] [] 0 [x,y],some ⟨gb,0,none⟩,2,2,q1,by omega,by omega,HRN,HP9,HV9,HR9,HB9,HG9⟩
      case measure=>rw[HPr.out.tokN,HP9.out.tokN];simp only[ac];omega
end
section
open Go.RowKit
theorem nT: ∀(f:Nat),f<=400000->(∀i,i<=f->eA i)/\pk f/\ib f
 |0,_=>by
  refine⟨fun i hi=> ?_,?_,?_⟩
  ·obtain rfl:i=0:=by omega
   intro n l en w g h _ _ hf;omega
  ·intro l en w g h hf;omega
  ·intro nm l en w g h hf;omega
 |f+1,hf=>by
  obtain⟨h1,h2,h3⟩:=nT f (by omega);have hE:=uR f h2 h1
  exact⟨fun i hi=>by
   rcases fe f i with h|h
   ·obtain rfl:i=f+1:=by omega
    exact hE
   ·exact h1 i h,uz f (h1 f (ag _)) h2 h3,sw f (by omega) h1⟩
theorem xD {f:Nat} (hf:f<=400000):eA f:=(nT f hf).1 f (ag _)
theorem uH {f:Nat} (hf:f<=400000):ib f:=(nT f hf).2.2
def vC (g:Nat) (en:Int) (w:World) (r:PR St) (e:Ending) (w':World):Prop:=
 w.grownBy w' (some g)/\match r with
 | .ok (s,q)=> ∃A n c B m d C k i,e= .returned (.agg #[.int .i64 s.k, .string (ah s.nm), .slice A n c, .slice B m d, .slice C k i])/\
   SV.ok w' (fun b=>w.heap.size<=b) ⟨s, .slice A n c, .slice B m d, .slice C k i⟩/\PA w' g q en
 | .error (q,n)=>e=aZ en q n
def Ct (g:Nat) (en:Int) (w:World) (r:PR (List St)) (e:Ending) (w':World):Prop:=
 w.grownBy w' (some g)/\match r with
 | .ok (b,q)=> ∃A n c,e= .returned (.slice A n c)/\cK w' (fun b=>w.heap.size<=b) (.slice A n c) b/\PA w' g q en
 | .error (q,n)=>e=aZ en q n
theorem cO {g:Nat} {en:Int} {w w':World} {r:PR St} {q:List bK} {n:Int} (hr:r= .error (q,n)) (hG:w.grownBy w' (some g)):vC g en w r (aZ en q n) w':=by
 subst hr;exact⟨hG,rfl⟩
theorem tj {g:Nat} {en:Int} {w w':World} {r:PR (List St)} {q:List bK} {n:Int} (hr:r= .error (q,n)) (hG:w.grownBy w' (some g)):Ct g en w r (aZ en q n) w':=by
 subst hr;exact⟨hG,rfl⟩
def lc (f:Nat):Prop:= ∀(l:List bK) (en:Int) (w:World) (g:Nat),PA w g l en->4*l.length+1<=f->Calls prog 104 #[.pointer (some ⟨g,0,none⟩)] w (Ct g en w (db f l))
def BH (f:Nat):Prop:= ∀(l:List bK) (en:Int) (w:World) (g:Nat),PA w g l en->4*l.length+3<=f->Calls prog 182 #[.pointer (some ⟨g,0,none⟩)] w (vC g en w (m6 f l))
def yq (f:Nat):Prop:= ∀(l:List bK) (en:Int) (w:World) (g:Nat),PA w g l en->4*l.length+3<=f->Calls prog 148 #[.pointer (some ⟨g,0,none⟩)] w (vC g en w (c_ f l))
theorem DK:mU prog 57 72 5 96 (.agg #[.int .i64 0, .string ⟨#[]⟩, .slice none 0 0, .slice none 0 0, .slice none 0 0]):=⟨underlying57,by kernel_rfl,by rfl,by decide⟩
theorem yQ (s:St) (A B C:Option Addr) (n m k c d i:Nat): ∀u∈vF ⟨s, .slice A n c, .slice B m d, .slice C k i⟩,u.oneCell'=true:=by
 intro u hu;simp only[vF,fB,ej,or_false]at hu;rcases hu with rfl|rfl|rfl|rfl|rfl<;>rfl
theorem sK (f:Nat) (hff:f<=400000) (hS: ∀i,i<=f->yq i):lc (f+1):=by
 intro l en w g h hf;have HP0:=G h;have hgl:=h.lt;have HR0:=G (show db (f+1) l=(bT Ca l).then fun _ r=>eh f [] r from by rw[db]);clear h;go_enter func104,ntmps104
 cases hlb:cI Ca l with
 |false=>
  have HR:=G (show db (f+1) l= .error (l,3)from by rw[HR0.out];unfold bT;rw[hlb];rfl);go_wp2_with (go_at_call 100;refine(fS g _ en Ca _ HP0.out hlb).mono ?_;unfold aZ;rintro e w1 ⟨rfl,hG⟩;have HG1:=G hG;clear hG);exact⟨rfl,tj HR.out HG1.out⟩
 |true=>
  have HR:=G (show eh f [] l.tail=db (f+1) l from by rw[HR0.out];unfold bT;rw[hlb];rfl);have hlt:=bq hlb;go_wp2_with (go_at_call 100;refine(d7 g _ en Ca _ HP0.out hlb).mono ?_;rintro e w1 ⟨rfl,h1,h2⟩;have HP1:=G h1;have HG1:=G h2;clear h1 h2);clear HR0 HP0
  go_loopw [3] (fun vo wr=> ∃(k:Nat) (acc:List SV) (r:List bK) (C:Option Addr) (n cap:Nat),vo= .slice C n cap/\acc.length=n/\4*r.length+4<=k/\k<=f/\n+r.length<=l.length/\Hid (eh k (acc.map (·.s)) r=db (f+1) l)/\Hid (PA wr g r en)/\
   Hid (g_ wr w.heap.size 72 (.slice C n cap) acc)/\Hid (w.grownBy wr (some g))) (fun vo wr=>tokN g wr)
  case atStart=>exact⟨f,[],l.tail,none,0,0,rfl,rfl,by omega,ag _,by simp only[List.length_tail];omega,HR,HP1,G (g_.nil_ _ _ _),HG1⟩
  case round=>
   clear HR HP1 HG1;obtain⟨k,acc,r,C,n,cap,rfl,hn,hk,hkf,hnl,HRes,HPr,HOr,HGr⟩:=hrel;obtain⟨k,rfl⟩: ∃k',k=k'+1:=⟨k-1,by omega⟩
   have HSt:=G (show eh (k+1) (acc.map (·.s)) r=if cI BK r then .ok (acc.map (·.s),r.tail)else(c_ k r).then fun s q=>eh k (acc.map (·.s)++[s]) q from by rw[eh])
   cases hrb:cI BK r with
   |true=>
    have HR:=G (show db (f+1) l= .ok (acc.map (·.s),r.tail)from by rw[<-HRes.out,HSt.out,if_pos hrb]);go_wp2_with (go_at_call 98;refine(cf g r en BK _ HPr.out).mono ?_;rw[hrb];simp only[if_true];rintro e w2 ⟨rfl,h1,h2⟩;have HP2:=G h1;have HG2:=G (ak HGr.out h2);have HO2:=G (HOr.out.grown h2 (fun k e=>by injection e with e;omega));clear h1 h2);go_ret;rw[HR.out];exact⟨HG2.out,_,_,_,rfl,HO2.out.rd,HP2.out⟩
   |false=>
    have HS2:=G (show db (f+1) l=(c_ k r).then fun s q=>eh k (acc.map (·.s)++[s]) q from by rw[<-HRes.out,HSt.out,if_neg (by rw[hrb];simp)]);have hfs:4*r.length+3<=k:=by omega
    clear HRes HSt
    cases hps:c_ k r with
    |error p=>
     obtain⟨q,er⟩:=p;have HR:=G (show db (f+1) l= .error (q,er)from by rw[HS2.out,hps];rfl)
     go_wp2_with (first
      |(go_at_call 98;refine(cf g r en BK _ HPr.out).mono ?_;rw[hrb];simp only[aK,if_false];rintro e w2 ⟨rfl,h1,h2⟩;have HP2:=G h1;have HG2:=G (ak HGr.out h2);clear h1 h2 HPr)
      |(go_at_call 148;refine(hS k (by omega) r en _ g HP2.out hfs).mono ?_;intro e w3 hh;rw[hps]at hh;obtain⟨hG,rfl⟩:=hh;unfold aZ;have HG3:=G (ak HG2.out hG);clear hG))
     exact⟨rfl,tj HR.out HG3.out⟩
    |ok p=>
     obtain⟨s,q⟩:=p;have hq:=(mW k).2.2.2 _ _ _ hps;have HRN:=G (show eh k (acc.map (·.s)++[s]) q=db (f+1) l from by rw[HS2.out,hps];rfl)
     go_wp2_with (first
      |(go_at_call 98;refine(cf g r en BK _ HPr.out).mono ?_;rw[hrb];simp only[aK,if_false];rintro e w2 ⟨rfl,h1,h2⟩;have HP2:=G h1;have HG2:=G (ak HGr.out h2);have HO2:=G (HOr.out.grown h2 (fun k e=>by injection e with e;omega));clear h1 h2 HOr)
      |(go_at_call 148;refine(hS k (by omega) r en _ g HP2.out hfs).mono ?_;intro e w3 hh;rw[hps]at hh;obtain⟨hG,A1,n1,c1,A2,n2,c2,A3,n3,c3,rfl,hV,hPA⟩:=hh;have hE:=I w3 (.cells #[.int .i64 s.k, .string (ah s.nm), .slice A1 n1 c1, .slice A2 n2 c2, .slice A3 n3 c3] 72);have hz2:=HG2.out.size;have hzz:=hG.size;have HG3:=G (ak (ak HG2.out hG) (hE.grownBy (some g)));have HO3:=G ((HO2.out.grown hG (fun k e=>by injection e with e;omega)).ext hE);have hrow:=World.ownsRow.lt HO2.out.1;have HV3:=G (hV.keep (.of_ext hE) (Q:=fun b=>w.heap.size<=b/\some b≠Value.ownBlock (.slice C n cap)) (fun b hb _=>⟨by omega,fun e=>by have:=(hrow b e.symm).2;omega⟩));have HP3:=G (hPA.ext hE);have HN3:=G (am w3 72 #[.int .i64 s.k, .string (ah s.nm), .slice A1 n1 c1, .slice A2 n2 c2, .slice A3 n3 c3]);have hrw:=fun k hk=>(hrow k hk).1;clear hG hV hPA hE hrow HO2)
      |(at_builtin;refine eX DK rfl _ _ rfl w.heap.size _ n (d8 acc) rfl (by have:=HO3.out.1;rw[hn]at this;exact this) w3.heap.size (vF ⟨s, .slice A1 n1 c1, .slice A2 n2 c2, .slice A3 n3 c3⟩) rfl HN3.out rfl (yQ _ _ _ _ _ _ _ _ _ _) (by omega) (by decide) HG3.out.size ?_;intro A' cap' w4 hq1 hq2 hq3;have HO4:=G (HO3.out.snoc HV3.out (by rw[hn];exact hq1) hq2 hq3);have HG4:=G (show w.grownBy w4 (some g)from⟨hq2.os.trans HG3.out.os,hq2.tape.trans HG3.out.tape,hq2.output.trans HG3.out.output,aT HG3.out.size hq2.size,fun i hi hne=>(hq2.block i (az hi HG3.out.size) (fun e=>by have:=hrw i e.symm;omega)).trans (HG3.out.block i hi hne)⟩);have HP4:=G (HP3.out.grown hq2 (fun k e=>by have:=hrw k e;omega));clear hq1 hq2 hq3))
     go_roundw
     case rel=>exact⟨k,acc++[⟨s, .slice A1 n1 c1, .slice A2 n2 c2, .slice A3 n3 c3⟩],q,some ⟨A',0,none⟩,n+1,cap',rfl,by simp[hn],by omega,by omega,by omega,G (by simpa using HRN.out),HP4,G (by have:=HO4.out;rw[hn]at this;exact this),HG4⟩
     case measure=>rw[HPr.out.tokN,HP4.out.tokN];omega
end
end Go.Proofs.YtddomeddabfinaaGreatDoor
