/-
  Parts of the proof: ParO ParQ ParR ParS.
-/
import Derived.Test.YtelplgkppalmfaaGreatDoorPs00
import Derived.LoopN
import Derived.Test.YtelplgkppalmfaaGreatDoorPs11
set_option maxRecDepth 100000
set_option maxHeartbeats 8000000
set_option linter.unusedVariables false
set_option linter.unusedSimpArgs false
namespace Go.Proofs.YtelplgkppalmfaaGreatDoor
open Go.Proofs.Tryz
section
open Go.RowKit
theorem wD (f:Nat) (hEx:eF f) (base g px pb:Nat) (nm:List UInt8) (l:List bB) (en:Int) (w:World) (C:Option Addr) (n cap:Nat)
  (hP:PA w g l en) (hb:aT w pb 83 #[.pointer (some ⟨g,0,none⟩)]) (hx:aT w px 131 #[.int .i64 5, .string ⟨#[]⟩, .string (ae nm), .string ⟨#[]⟩, .int .i64 0, .slice C n cap])
  (hbase:base<=w.heap.size) (hg:g<px) (hgp:g<pb) (hf:4*l.length+2<=f)
  (q:List bB) (er:Int) (he:bT f 1 l= .error (q,er)):
  Calls prog 172 #[.pointer (some ⟨px,0,none⟩), .pointer (some ⟨pb,0,none⟩)] w fun e w'=>e=bi en q er/\Fr base g px w w':=by
 have HP:=G hP;have HB:=G hb;have HX:=G hx;have hgw:g<w.heap.size:=hP.lt;have hxg:px≠g:=by omega
 have hbg:pb≠g:=by omega
 clear hP hb hx;go_enter func172,ntmps172;refine jB 6 0 [(3,fun v=>v= .agg #[.int .i64 0, .string ⟨#[]⟩, .string ⟨#[]⟩, .string ⟨#[]⟩, .int .i64 0, .slice none 0 0],fun _ _=>False),(5,fun v=> ∃gb,v= .slice (some ⟨gb,0,none⟩) 1 1,fun _ _=>True)] 3 (some g) mixed (by kernel_rfl)
  ⟨fun _ _ _ h _=>h,fun _ _ _ h _=>h,trivial⟩ ⟨.inl rfl, .inr fun _ _ _ h _=>h,trivial⟩ ?_
 repeat (refine sx ?_ (fun w1 hU=> ?_) ?_;rotate_left;(focus have f1:=(HX.out.grown (aD hU) (fun e=>hxg (M e))).cell;have f2:=(HB.out.grown (aD hU) (fun e=>hbg (M e))).cell;clear hU;go_simp<;>with_reducible rfl);simp only[bf,be,bc,a_,a8])
 refine ce _ _ (by rfl) rfl ⟨_,rfl⟩ rfl (fun w6 hT hp K hK=> ?_) ?_
 ·clear hp;have hc:=hEx 1 l en w6 g (HP.out.ext hT.un) (by decide) (by decide) hf;have HT6:=G hT.un;clear hT;go_simp;refine hc.mono ?_;intro e w7 hh;rw[he]at hh;obtain⟨hG,rfl⟩:=hh;unfold bi;intro a' hd;exact⟨hd,rfl,cR (ah (HT6.out.grownBy _) hG) hbase (fun k e=>by injection e with e;omega)⟩
 rintro _ rfl;simp only[bf,be,bc,a_,a8];repeat (refine sx ?_ (fun w1 hU=> ?_) ?_;rotate_left;(focus have f1:=(HX.out.grown (aD hU) (fun e=>hxg (M e))).cell;have f2:=(HB.out.grown (aD hU) (fun e=>hbg (M e))).cell;clear hU;go_simp<;>with_reducible rfl);simp only[bf,be,bc,a_,a8])
 refine bw _ _ (by rfl) rfl ⟨_,0,rfl⟩ (by simp) (fun w6 hU hp K hK=> ?_) ?_
 ·clear hp;go_simp;exact hK _ _ (O w6 _) ⟨_,rfl⟩ trivial
 rintro _ ⟨gb,rfl⟩;simp only[bf,be,bc,a_,a8];intro w8 hw8 hp;exact(hp _ (.tail _ (.head _))).elim
def tokN (g:Nat) (w:World):Nat:=match w.cell? ⟨g,0,none⟩with
 |some (.slice _ n _)=>n
 | _=>0
theorem PA.tokN {w:World} {g:Nat} {l:List bB} {en:Int} (h:PA w g l en):tokN g w=l.length:=by
 obtain⟨A,c,hb,_⟩:=h;unfold YtelplgkppalmfaaGreatDoor.tokN;rw[hb.cell];rfl
def zW (base g px:Nat) (nm:List UInt8) (en:Int) (w:World) (r:PR (List Ex)) (e:Ending) (w':World):Prop:=
 Fr base g px w w'/\match r with
 | .ok (a,q)=>e= .returned (.tuple #[])/\PA w' g q en/\ ∃C n cap,aT w' px 131 #[.int .i64 5, .string ⟨#[]⟩, .string (ae nm), .string ⟨#[]⟩, .int .i64 0, .slice C n cap]/\bZ w' (fun b=>base<=b) (.slice C n cap) a
 | .error (q,n)=>e=bi en q n
theorem oc (f:Nat) (hEx: ∀i,i<=f->eF i) (base g px pb:Nat) (nm:List UInt8) (l:List bB) (en:Int) (w:World)
  (hP:PA w g l en) (hb:aT w pb 83 #[.pointer (some ⟨g,0,none⟩)]) (hx:aT w px 131 #[.int .i64 5, .string ⟨#[]⟩, .string (ae nm), .string ⟨#[]⟩, .int .i64 0, .slice none 0 0])
  (hbase:base<=w.heap.size) (hg:g<px) (hgp:g<pb) (hpp:pb≠px) (hpx:px<base) (hpb:pb<base) (hf:4*l.length+4<=f+1) (hnb:l.length<=100000):
  Calls prog 65 #[.pointer (some ⟨g,0,none⟩), .func (Fn.func 172) #[] #[.pointer (some ⟨px,0,none⟩), .pointer (some ⟨pb,0,none⟩)]] w (zW base g px nm en w (eL (f+1) l)):=by
 have HP:=G hP;have HB:=G hb;have HX:=G hx;have HG:=G (cv g l en eg w hP);clear hP hb hx
 cases hrp:b6 eg l with
 |true=>
  rw[hrp]at HG;simp only[if_true]at HG;have HR:=G (show eL (f+1) l= .ok ([],l.tail)from by rw[eL,if_pos hrp]);go_enter func65,ntmps65;go_wp2_with (go_at_call 61;refine HG.out.mono ?_;rintro e w1 ⟨rfl,h1,h2⟩;have H1:=G h1;have H2:=G h2;clear h1 h2 HG)
  go_end0
  rw[HR.out];exact⟨cR H2.out hbase (fun k e=>by injection e with e;omega),rfl,H1.out,_,_,_,HX.out.grown H2.out (fun e=>by injection e with e;omega), .nil _ _⟩
 |false=>
  rw[hrp]at HG;simp only[aI,if_false]at HG;have HR:=G (show eL (f+1) l=fu f [] l from by rw[eL,if_neg (by rw[hrp];simp)]);have hf':4*l.length+3<=f:=by omega
  clear hf;go_enter func65,ntmps65;go_wp2_with (go_at_call 61;refine HG.out.mono ?_;rintro e w1 ⟨rfl,h1,h2⟩;have H1:=G h1;have H2:=G h2;clear h1 h2 HG)
  go_loopw [] (fun wr=> ∃(k:Nat) (acc:List (Ex×Value)) (r:List bB) (C:Option Addr) (n cap:Nat),4*r.length+3<=k/\k<=f/\acc.length=n/\n+r.length<=l.length/\Hid (fu k (acc.map (·.1)) r=eL (f+1) l)/\Hid (PA wr g r en)/\Hid (aT wr px 131 #[.int .i64 5, .string ⟨#[]⟩, .string (ae nm), .string ⟨#[]⟩, .int .i64 0, .slice C n cap])/\
   Hid (eV wr base 131 (.slice C n cap) acc)/\Hid (Fr base g px w wr)) (fun wr=>tokN g wr)
  case atStart=>exact⟨f,[],l,none,0,0,hf',ag _,rfl,by omega,G HR.out.symm,H1,G (HX.out.grown H2.out (fun e=>by injection e with e;omega)),G (kg _ _ _),G (cR H2.out hbase (fun k e=>by injection e with e;omega))⟩
  case round=>
   obtain⟨k,acc,r,C,n,cap,hk,hkf,hn,hnl,HRes,HPr,HXr,HOr,HFr⟩:=hrel;obtain⟨k,rfl⟩: ∃k',k=k'+1:=⟨k-1,by omega⟩
   have HBr:=G (HFr.out.blk HB.out hpb (by omega) (by omega));have hbr:base<=wr.heap.size:=by have:=HFr.out.size;omega
   have hf2:4*r.length+2<=k:=by omega
   have HSt:=G (show fu (k+1) (acc.map (·.1)) r=(bT k 1 r).then fun x q=>if b6 eg q then .ok (acc.map (·.1)++[x],q.tail)else(bP kh q).then fun _ q=>fu k (acc.map (·.1)++[x]) q from by rw[fu])
   cases he:bT k 1 r with
   |error p=>
    obtain⟨q,er⟩:=p;have HRR:=G (show eL (f+1) l= .error (q,er)from by rw[<-HRes.out,HSt.out,he];rfl);have HC:=G (wD k (hEx k (by omega)) base g px pb nm r en wr C n cap HPr.out HBr.out HXr.out hbr hg hgp hf2 q er he);unfold bi at HC;go_wp2_with (go_at_call 172;refine HC.out.mono ?_;rintro e w3 ⟨rfl,hF⟩;have HF3:=G (HFr.out.trans hF);clear hF HC);exact⟨rfl,by rw[HRR.out];exact⟨HF3.out,rfl⟩⟩
   |ok p=>
    obtain⟨x,q⟩:=p;have hlt:=(f7 k).1 _ _ _ _ he;have HC:=G (x6 k (hEx k (by omega)) base g px pb nm r en wr acc C n cap HPr.out HBr.out HXr.out HOr.out hn hbr hg hgp hpp hpx hpb hf2 (by omega) x q he)
    cases hr2:b6 eg q with
    |true=>
     have HRR:=G (show eL (f+1) l= .ok (acc.map (·.1)++[x],q.tail)from by rw[<-HRes.out,HSt.out,he];show(if b6 eg q then(Except.ok (acc.map (·.1)++[x],q.tail):PR (List Ex))else _)=_;rw[if_pos hr2])
     go_wp2_with (first
      |(go_at_call 172;refine HC.out.mono ?_;rintro e w3 ⟨rfl,hF,hP3,C3,cap3,a3,hX3,hO3⟩;have HF3:=G (HFr.out.trans hF);have HP3:=G hP3;have HX3:=G hX3;have HO3:=G hO3;clear hF HC hP3 hX3 hO3)
      |(go_at_call 61;refine(cv g q en eg _ HP3.out).mono ?_;rw[hr2];simp only[if_true];rintro e w4 ⟨rfl,h1,h2⟩;have HP4:=G h1;have HG4:=G h2;clear h1 h2))
     go_end0
     rw[HRR.out];have hb3:base<=w3.heap.size:=by have:=HF3.out.size;omega
     have hO4:=HO3.out.grown HG4.out (fun k e=>by injection e with e;omega);exact⟨HF3.out.trans (cR HG4.out hb3 (fun k e=>by injection e with e;omega)),rfl,HP4.out,_,_,_,HX3.out.grown HG4.out (fun e=>by injection e with e;omega),by have:=hO4.rd;simpa using this⟩
    |false=>
     cases hcm:b6 kh q with
     |false=>
      have HRR:=G (show eL (f+1) l= .error (q,3)from by rw[<-HRes.out,HSt.out,he];show(if b6 eg q then(Except.ok (acc.map (·.1)++[x],q.tail):PR (List Ex))else _)=_;rw[if_neg (by rw[hr2];simp)];unfold bP;rw[hcm];rfl)
      go_wp2_with (first
       |(go_at_call 172;refine HC.out.mono ?_;rintro e w3 ⟨rfl,hF,hP3,C3,cap3,a3,hX3,hO3⟩;have HF3:=G (HFr.out.trans hF);have HP3:=G hP3;clear hF HC hP3 hX3 hO3)
       |(go_at_call 61;refine(cv g q en eg _ HP3.out).mono ?_;rw[hr2];simp only[aI,if_false];rintro e w4 ⟨rfl,h1,h2⟩;have HP4:=G h1;have HG4:=G h2;clear h1 h2 HP3)
       |(go_at_call 63;refine(fV g q en kh _ HP4.out hcm).mono ?_;unfold bi;rintro e w5 ⟨rfl,hG⟩;have HG5:=G (ah HG4.out hG);clear hG))
      have hb3:base<=w3.heap.size:=by have:=HF3.out.size;omega
      exact⟨rfl,by rw[HRR.out];exact⟨HF3.out.trans (cR HG5.out hb3 (fun k e=>by injection e with e;omega)),rfl⟩⟩
     |true=>
      have HRR:=G (show fu k (acc.map (·.1)++[x]) q.tail=eL (f+1) l from by rw[<-HRes.out,HSt.out,he];show _=(if b6 eg q then(Except.ok (acc.map (·.1)++[x],q.tail):PR (List Ex))else _);rw[if_neg (by rw[hr2];simp)];unfold bP;rw[hcm];rfl);have hqt:=aW hcm
      go_wp2_with (first
       |(go_at_call 172;refine HC.out.mono ?_;rintro e w3 ⟨rfl,hF,hP3,C3,cap3,a3,hX3,hO3⟩;have HF3:=G (HFr.out.trans hF);have HP3:=G hP3;have HX3:=G hX3;have HO3:=G hO3;clear hF HC hP3 hX3 hO3)
       |(go_at_call 61;refine(cv g q en eg _ HP3.out).mono ?_;rw[hr2];simp only[aI,if_false];rintro e w4 ⟨rfl,h1,h2⟩;have HP4:=G h1;have HG4:=G h2;clear h1 h2 HP3)
       |(go_at_call 63;refine(dZ g q en kh _ HP4.out hcm).mono ?_;rintro e w5 ⟨rfl,h1,h2⟩;have HP5:=G h1;have HG5:=G (ah HG4.out h2);clear h1 h2))
      have hb3:base<=w3.heap.size:=by have:=HF3.out.size;omega
      go_roundw
      case rel=>exact⟨k,acc++[(x,a3)],q.tail,C3,n+1,cap3,by omega,by omega,by simp[hn],by omega,G (by simpa using HRR.out),HP5,G (HX3.out.grown HG5.out (fun e=>by injection e with e;omega)),G (by simpa using HO3.out.grown HG5.out (fun k e=>by injection e with e;omega)),G (HF3.out.trans (cR HG5.out hb3 (fun k e=>by injection e with e;omega)))⟩
      case measure=>rw[HPr.out.tokN,HP5.out.tokN];omega
end
section
open Go.RowKit
theorem pg {w W:World} {g pr:Nat} {en:Int} {q:List bB} {z0 z1 z2 z3 z4 z5:Value} {r:PR Ex} (x:Ex) (k:Int) (so sn st:ByteArray) (v:Int) (A:Option Addr) (n c:Nat) (hr:r= .ok (x,q)) (hk:x.k=k) (ho:ae x.op=so) (hn:ae x.nm=sn) (ht:ae x.tx=st) (hv:x.v=v) (hpr:w.heap.size<=pr)
  (hB:aT W pr 131 #[z0,z1,z2,z3,z4,z5]) (hG:w.grownBy W (some g)) (hPA:PA W g q en) (hg:g<w.heap.size) (hR:bZ W (fun b=>pr<b) (.slice A n c) x.args):
  (∀i,(W.setCells pr 0 [.int .i64 k, .string so, .string sn, .string st, .int .i64 v, .slice A n c]).cell? ⟨pr,i,none⟩=(#[.int .i64 k, .string so, .string sn, .string st, .int .i64 v, .slice A n c]:Array Value)[i]?)/\
  nF g en w r (.returned (.agg #[.int .i64 k, .string so, .string sn, .string st, .int .i64 v, .slice A n c])) (W.setCells pr 0 [.int .i64 k, .string so, .string sn, .string st, .int .i64 v, .slice A n c]):=by
 subst hr hk ho hn ht hv;have hc:=bG pr [.int .i64 x.k, .string (ae x.op), .string (ae x.nm), .string (ae x.tx), .int .i64 x.v, .slice A n c] 0 W;refine⟨(lm hB _ _ _ _ _ _).cell,bX hG hc hpr,A,n,c,rfl,hR.keep (.of_grown hc fun b hb e=>by injection e with e;omega) fun b hb _=>by omega,hPA.grown hc fun k e=>by injection e with e;omega⟩
theorem hM (w:World) (p:Value):let W0:=(w.alloc (.cells #[p] 83)).alloc (.cells #[.int .i64 0, .string ⟨#[]⟩, .string ⟨#[]⟩, .string ⟨#[]⟩, .int .i64 0, .slice none 0 0] 131)
  al w W0/\aT W0 w.heap.size 83 #[p]/\aT W0 (w.heap.size+1) 131 #[.int .i64 0, .string ⟨#[]⟩, .string ⟨#[]⟩, .string ⟨#[]⟩, .int .i64 0, .slice none 0 0]:=by
 have h:=ai (w.alloc (.cells #[p] 83)) 131 #[.int .i64 0, .string ⟨#[]⟩, .string ⟨#[]⟩, .string ⟨#[]⟩, .int .i64 0, .slice none 0 0];rw[aQ]at h;exact⟨(O w _).alloc' _,(ai w _ _).alloc _,h⟩
theorem rx (f:Nat) (nm:List UInt8) (l:List bB) (en:Int) (w:World) (g:Nat) (h:PA w g l en) (hls:b6 jD l=false) (hlp:b6 fi l=false):Calls prog 157 #[.pointer (some ⟨g,0,none⟩), .string (ae nm)] w (nF g en w (ch (f+1) nm l)):=by
 have HR:=G (show ch (f+1) nm l= .ok (.mk 3 [] nm [] 0 [],l)from by rw[ch,if_neg (by rw[hls];simp),if_neg (by rw[hlp];simp)]);obtain⟨hX0,hb0,hB0⟩:=hM w (.pointer (some ⟨g,0,none⟩));have HX0:=G hX0;have Hb0:=G hb0;have HB0:=G hB0;have HP0:=G (h.ext hX0);have hbc:=hb0.cell;have hgl:=h.lt;have hbg:w.heap.size≠g:=by omega
 have hrg:w.heap.size+1≠g:=by omega
 have hgr:g≠w.heap.size+1:=by omega
 clear h hX0 hb0 hB0;go_enter func157,ntmps157;go_wp2_with (first|(go_at_call 61;refine(cv g _ en jD _ HP0.out).mono ?_;rw[hls];simp only[aI,if_false];rintro e w1 ⟨rfl,h1,h2⟩;have HP1:=G h1;have HG1:=G (ah (HX0.out.grownBy _) h2);have Hb1:=G (Hb0.out.grown h2 (fun e=>hbg (M e)));have HB1:=G (HB0.out.grown h2 (fun e=>hrg (M e)));clear hbc;have hbc:=Hb1.out.cell;have hrc:=HB1.out.cell;have hrf:=HB1.out.frozen;clear h1 h2 HP0)|(go_at_call 61;refine(cv g _ en fi _ HP1.out).mono ?_;rw[hlp];simp only[aI,if_false];rintro e w2 ⟨rfl,h1,h2⟩;have HP2:=G h1;have HG2:=G (ah HG1.out h2);have Hb2:=G (Hb1.out.grown h2 (fun e=>hbg (M e)));have HB2:=G (HB1.out.grown h2 (fun e=>hrg (M e)));clear hbc;have hbc:=Hb2.out.cell;have hrc:=HB2.out.cell;have hrf:=HB2.out.frozen;clear h1 h2 HP1));obtain⟨hset,hfin⟩:=pg (.mk 3 [] nm [] 0 []) 3 ⟨#[]⟩ (ae nm) ⟨#[]⟩ 0 none 0 0 HR.out rfl rfl rfl rfl rfl (jL _) HB2.out HG2.out HP2.out hgl (.nil _ _);simp only[World.setCells,ak,Nat.reduceAdd]at hset hfin;exact bodyPost_ret (v:= .agg #[.int .i64 3, .string ⟨#[]⟩, .string (ae nm), .string ⟨#[]⟩, .int .i64 0, .slice none 0 0]) (by simp[results,results157,go_sem,hset]) rfl hfin
theorem tn (f:Nat) (nm:List UInt8) (l:List bB) (en:Int) (w:World) (g:Nat) (h:PA w g l en) (hEx:eF f) (hf:4*l.length+1<=f+1) (hls:b6 jD l=true) (q:List bB) (n:Int) (hx:bT f 1 l.tail= .error (q,n)):Calls prog 157 #[.pointer (some ⟨g,0,none⟩), .string (ae nm)] w (nF g en w (ch (f+1) nm l)):=by
 have HR1:=G (show ch (f+1) nm l=(bT f 1 l.tail).then fun x r=>(bP jq r).then fun _ r=> .ok (.mk 4 [] nm [] 0 [x],r)from by rw[ch,if_pos hls]);have hf':4*l.tail.length+2<=f:=by have:=aW hls;omega
 have HR:=G (show ch (f+1) nm l= .error (q,n)from by rw[HR1.out,hx];rfl);obtain⟨hX0,hb0,hB0⟩:=hM w (.pointer (some ⟨g,0,none⟩));have HX0:=G hX0;have Hb0:=G hb0;have HB0:=G hB0;have HP0:=G (h.ext hX0);have hbc:=hb0.cell;have hgl:=h.lt;have hbg:w.heap.size≠g:=by omega
 have hrg:w.heap.size+1≠g:=by omega
 have hgr:g≠w.heap.size+1:=by omega
 clear h hX0 hb0 hB0;go_enter func157,ntmps157;go_wp2_with (first|(go_at_call 61;refine(cv g _ en jD _ HP0.out).mono ?_;rw[hls];simp only[if_true];rintro e w1 ⟨rfl,h1,h2⟩;have HP1:=G h1;have HG1:=G (ah (HX0.out.grownBy _) h2);have Hb1:=G (Hb0.out.grown h2 (fun e=>hbg (M e)));have HB1:=G (HB0.out.grown h2 (fun e=>hrg (M e)));clear hbc;have hbc:=Hb1.out.cell;have hrc:=HB1.out.cell;have hrf:=HB1.out.frozen;clear h1 h2 HP0)|(go_at_call 141;refine(hEx 1 _ en _ g HP1.out (by decide) (by decide) hf').mono ?_;intro e w5 hh;rw[hx]at hh;obtain⟨hG,rfl⟩:=hh;unfold bi;have HG5:=G (ah HG1.out hG);clear hG));exact⟨rfl,fY HR.out HG5.out⟩
theorem tp (f:Nat) (nm:List UInt8) (l:List bB) (en:Int) (w:World) (g:Nat) (h:PA w g l en) (hEx:eF f) (hf:4*l.length+1<=f+1) (hls:b6 jD l=true) (x:Ex) (q:List bB) (hx:bT f 1 l.tail= .ok (x,q)) (hrs:b6 jq q=false):Calls prog 157 #[.pointer (some ⟨g,0,none⟩), .string (ae nm)] w (nF g en w (ch (f+1) nm l)):=by
 have HR1:=G (show ch (f+1) nm l=(bT f 1 l.tail).then fun x r=>(bP jq r).then fun _ r=> .ok (.mk 4 [] nm [] 0 [x],r)from by rw[ch,if_pos hls]);have hf':4*l.tail.length+2<=f:=by have:=aW hls;omega
 have HR:=G (show ch (f+1) nm l= .error (q,3)from by rw[HR1.out,hx];show(bP jq q).then (fun _ r=>(Except.ok (.mk 4 [] nm [] 0 [x],r):PR Ex))=_;unfold bP;rw[hrs];rfl);obtain⟨hX0,hb0,hB0⟩:=hM w (.pointer (some ⟨g,0,none⟩));have HX0:=G hX0;have Hb0:=G hb0;have HB0:=G hB0;have HP0:=G (h.ext hX0);have hbc:=hb0.cell;have hgl:=h.lt;have hbg:w.heap.size≠g:=by omega
 have hrg:w.heap.size+1≠g:=by omega
 have hgr:g≠w.heap.size+1:=by omega
 clear h hX0 hb0 hB0;go_enter func157,ntmps157;go_wp2_with (first|(go_at_call 61;refine(cv g _ en jD _ HP0.out).mono ?_;rw[hls];simp only[if_true];rintro e w1 ⟨rfl,h1,h2⟩;have HP1:=G h1;have HG1:=G (ah (HX0.out.grownBy _) h2);have Hb1:=G (Hb0.out.grown h2 (fun e=>hbg (M e)));have HB1:=G (HB0.out.grown h2 (fun e=>hrg (M e)));clear hbc;have hbc:=Hb1.out.cell;have hrc:=HB1.out.cell;have hrf:=HB1.out.frozen;clear h1 h2 HP0)|(go_at_call 141;refine(hEx 1 _ en _ g HP1.out (by decide) (by decide) hf').mono ?_;intro e w5 hh;rw[hx]at hh;obtain⟨hG,A,n,c,rfl,hR,hPA⟩:=hh;have hz1:w.heap.size+2<=w1.heap.size:=HB1.out.lt;have hz5:=hG.size;have hE7:=(O w5 (.cells #[.int .i64 x.k, .string (ae x.op), .string (ae x.nm), .string (ae x.tx), .int .i64 x.v, .slice A n c] 131)).alloc' (.cells #[.int .i64 4, .string ⟨#[]⟩, .string (ae nm), .string ⟨#[]⟩, .int .i64 0, .slice (some ⟨w5.heap.size,0,none⟩) 1 1] 131);have HG5:=G (ah (ah HG1.out hG) (hE7.grownBy (some g)));have Hb5:=G ((Hb1.out.grown hG (fun e=>hbg (M e))).ext hE7);have HB5:=G ((HB1.out.grown hG (fun e=>hrg (M e))).ext hE7);have HV5:=G (ai (w5.alloc (.cells #[.int .i64 x.k, .string (ae x.op), .string (ae x.nm), .string (ae x.tx), .int .i64 x.v, .slice A n c] 131)) 131 #[.int .i64 4, .string ⟨#[]⟩, .string (ae nm), .string ⟨#[]⟩, .int .i64 0, .slice (some ⟨w5.heap.size,0,none⟩) 1 1]);have hO1:=(ai w5 131 #[.int .i64 x.k, .string (ae x.op), .string (ae x.nm), .string (ae x.tx), .int .i64 x.v, .slice A n c]).alloc (.cells #[.int .i64 4, .string ⟨#[]⟩, .string (ae nm), .string ⟨#[]⟩, .int .i64 0, .slice (some ⟨w5.heap.size,0,none⟩) 1 1] 131);have HRD5:=G (gq (P:=fun b=>w.heap.size+1<b) hO1 (by omega) (hR.keep (.of_ext hE7) (fun b hb _=>by omega)));have HP5:=G (hPA.ext hE7);have hv5:(w5.alloc (.cells #[.int .i64 x.k, .string (ae x.op), .string (ae x.nm), .string (ae x.tx), .int .i64 x.v, .slice A n c] 131)).heap.size≠g:=(by have:=hPA.lt;rw[aQ];omega);rw[aQ]at HV5 hv5;clear hbc;have hbc:=Hb5.out.cell;clear hG hR hPA hE7 hO1 HP1)|(go_at_call 63;refine(fV g _ en jq _ HP5.out hrs).mono ?_;unfold bi;rintro e w6 ⟨rfl,hG⟩;have HG6:=G (ah HG5.out hG);clear hG));exact⟨rfl,fY HR.out HG6.out⟩
theorem uQ (f:Nat) (nm:List UInt8) (l:List bB) (en:Int) (w:World) (g:Nat) (h:PA w g l en) (hEx:eF f) (hf:4*l.length+1<=f+1) (hls:b6 jD l=true) (x:Ex) (q:List bB) (hx:bT f 1 l.tail= .ok (x,q)) (hrs:b6 jq q=true):Calls prog 157 #[.pointer (some ⟨g,0,none⟩), .string (ae nm)] w (nF g en w (ch (f+1) nm l)):=by
 have HR1:=G (show ch (f+1) nm l=(bT f 1 l.tail).then fun x r=>(bP jq r).then fun _ r=> .ok (.mk 4 [] nm [] 0 [x],r)from by rw[ch,if_pos hls]);have hf':4*l.tail.length+2<=f:=by have:=aW hls;omega
 have HR:=G (show ch (f+1) nm l= .ok (.mk 4 [] nm [] 0 [x],q.tail)from by rw[HR1.out,hx];show(bP jq q).then (fun _ r=>(Except.ok (.mk 4 [] nm [] 0 [x],r):PR Ex))=_;unfold bP;rw[hrs];rfl);obtain⟨hX0,hb0,hB0⟩:=hM w (.pointer (some ⟨g,0,none⟩));have HX0:=G hX0;have Hb0:=G hb0;have HB0:=G hB0;have HP0:=G (h.ext hX0);have hbc:=hb0.cell;have hgl:=h.lt;have hbg:w.heap.size≠g:=by omega
 have hrg:w.heap.size+1≠g:=by omega
 have hgr:g≠w.heap.size+1:=by omega
 clear h hX0 hb0 hB0;go_enter func157,ntmps157;go_wp2_with (first|(go_at_call 61;refine(cv g _ en jD _ HP0.out).mono ?_;rw[hls];simp only[if_true];rintro e w1 ⟨rfl,h1,h2⟩;have HP1:=G h1;have HG1:=G (ah (HX0.out.grownBy _) h2);have Hb1:=G (Hb0.out.grown h2 (fun e=>hbg (M e)));have HB1:=G (HB0.out.grown h2 (fun e=>hrg (M e)));clear hbc;have hbc:=Hb1.out.cell;have hrc:=HB1.out.cell;have hrf:=HB1.out.frozen;clear h1 h2 HP0)|(go_at_call 141;refine(hEx 1 _ en _ g HP1.out (by decide) (by decide) hf').mono ?_;intro e w5 hh;rw[hx]at hh;obtain⟨hG,A,n,c,rfl,hR,hPA⟩:=hh;have hz1:w.heap.size+2<=w1.heap.size:=HB1.out.lt;have hz5:=hG.size;have hE7:=(O w5 (.cells #[.int .i64 x.k, .string (ae x.op), .string (ae x.nm), .string (ae x.tx), .int .i64 x.v, .slice A n c] 131)).alloc' (.cells #[.int .i64 4, .string ⟨#[]⟩, .string (ae nm), .string ⟨#[]⟩, .int .i64 0, .slice (some ⟨w5.heap.size,0,none⟩) 1 1] 131);have HG5:=G (ah (ah HG1.out hG) (hE7.grownBy (some g)));have Hb5:=G ((Hb1.out.grown hG (fun e=>hbg (M e))).ext hE7);have HB5:=G ((HB1.out.grown hG (fun e=>hrg (M e))).ext hE7);have HV5:=G (ai (w5.alloc (.cells #[.int .i64 x.k, .string (ae x.op), .string (ae x.nm), .string (ae x.tx), .int .i64 x.v, .slice A n c] 131)) 131 #[.int .i64 4, .string ⟨#[]⟩, .string (ae nm), .string ⟨#[]⟩, .int .i64 0, .slice (some ⟨w5.heap.size,0,none⟩) 1 1]);have hO1:=(ai w5 131 #[.int .i64 x.k, .string (ae x.op), .string (ae x.nm), .string (ae x.tx), .int .i64 x.v, .slice A n c]).alloc (.cells #[.int .i64 4, .string ⟨#[]⟩, .string (ae nm), .string ⟨#[]⟩, .int .i64 0, .slice (some ⟨w5.heap.size,0,none⟩) 1 1] 131);have HRD5:=G (gq (P:=fun b=>w.heap.size+1<b) hO1 (by omega) (hR.keep (.of_ext hE7) (fun b hb _=>by omega)));have HP5:=G (hPA.ext hE7);have hv5:(w5.alloc (.cells #[.int .i64 x.k, .string (ae x.op), .string (ae x.nm), .string (ae x.tx), .int .i64 x.v, .slice A n c] 131)).heap.size≠g:=(by have:=hPA.lt;rw[aQ];omega);rw[aQ]at HV5 hv5;clear hbc;have hbc:=Hb5.out.cell;clear hG hR hPA hE7 hO1 HP1)|(go_at_call 63;refine(dZ g _ en jq _ HP5.out hrs).mono ?_;rintro e w6 ⟨rfl,h1,h2⟩;have HP6:=G h1;have HG6:=G (ah HG5.out h2);have HB6:=G (HB5.out.grown h2 (fun e=>hrg (M e)));have HV6:=G (HV5.out.grown h2 (fun e=>hv5 (M e)));have HRD6:=G (HRD5.out.keep (.of_grown h2 fun b hb e=>by injection e with e;omega) (fun b hb _=>hb));clear hrc hrf;have hrc:=HB6.out.cell;have hrf:=HB6.out.frozen;have hvc:=HV6.out.cell;clear h1 h2 HP5));obtain⟨hset,hfin⟩:=pg (.mk 4 [] nm [] 0 [x]) 4 ⟨#[]⟩ (ae nm) ⟨#[]⟩ 0 (some ⟨w5.heap.size,0,none⟩) 1 1 HR.out rfl rfl rfl rfl rfl (jL _) HB6.out HG6.out HP6.out hgl HRD6.out;simp only[World.setCells,ak,Nat.reduceAdd]at hset hfin;exact bodyPost_ret (v:= .agg #[.int .i64 4, .string ⟨#[]⟩, .string (ae nm), .string ⟨#[]⟩, .int .i64 0, .slice (some ⟨w5.heap.size,0,none⟩) 1 1]) (by simp[results,results157,go_sem,hset]) rfl hfin
theorem vy (f:Nat) (nm:List UInt8) (l:List bB) (en:Int) (w:World) (g:Nat) (h:PA w g l en) (hEs: ∀i,i<=f->eF i) (hff:f<=400000) (hf:4*l.length+1<=f+1) (hls:b6 jD l=false) (hlp:b6 fi l=true) (q:List bB) (n:Int) (hx:eL f l.tail= .error (q,n)):Calls prog 157 #[.pointer (some ⟨g,0,none⟩), .string (ae nm)] w (nF g en w (ch (f+1) nm l)):=by
 obtain⟨f,rfl⟩: ∃f',f=f'+1:=⟨f-1,by have:=aW hlp;omega⟩
 have HR1:=G (show ch (f+1+1) nm l=(eL (f+1) l.tail).then fun a r=> .ok (.mk 5 [] nm [] 0 a,r)from by rw[ch,if_neg (by rw[hls];simp),if_pos hlp]);have hf':4*l.tail.length+4<=f+1:=by have:=aW hlp;omega
 have hmf: ∀(fn:Fn) (first cap:Array Value) (w:World),(Instr.makeFunc fn first cap).run prog w= .ok (.func fn first cap) w:=fun _ _ _ _=>rfl;have HR:=G (show ch (f+1+1) nm l= .error (q,n)from by rw[HR1.out,hx];rfl);obtain⟨hX0,hb0,hB0⟩:=hM w (.pointer (some ⟨g,0,none⟩));have HX0:=G hX0;have Hb0:=G hb0;have HB0:=G hB0;have HP0:=G (h.ext hX0);have hbc:=hb0.cell;have hgl:=h.lt;have hbg:w.heap.size≠g:=by omega
 have hrg:w.heap.size+1≠g:=by omega
 have hgr:g≠w.heap.size+1:=by omega
 clear h hX0 hb0 hB0;go_enter func157,ntmps157;go_wp2_with (first|(go_at_call 61;refine(cv g _ en jD _ HP0.out).mono ?_;rw[hls];simp only[aI,if_false];rintro e w1 ⟨rfl,h1,h2⟩;have HP1:=G h1;have HG1:=G (ah (HX0.out.grownBy _) h2);have Hb1:=G (Hb0.out.grown h2 (fun e=>hbg (M e)));have HB1:=G (HB0.out.grown h2 (fun e=>hrg (M e)));clear hbc;have hbc:=Hb1.out.cell;have hrc:=HB1.out.cell;have hrf:=HB1.out.frozen;clear h1 h2 HP0)|(go_at_call 61;refine(cv g _ en fi _ HP1.out).mono ?_;rw[hlp];simp only[if_true];rintro e w2 ⟨rfl,h1,h2⟩;have HP2:=G h1;have HG2:=G (ah HG1.out h2);have Hb2:=G (Hb1.out.grown h2 (fun e=>hbg (M e)));have HB2:=G (HB1.out.grown h2 (fun e=>hrg (M e)));clear hbc;have hbc:=Hb2.out.cell;have hrc:=HB2.out.cell;have hrf:=HB2.out.frozen;clear h1 h2 HP1;have HL:=G (oc f (fun i hi=>hEs i (by omega)) (w2.heap.size+1) g w2.heap.size w.heap.size nm l.tail en (w2.alloc (.cells #[.int .i64 5, .string ⟨#[]⟩, .string (ae nm), .string ⟨#[]⟩, .int .i64 0, .slice none 0 0] 131)) (HP2.out.ext (O w2 _)) (Hb2.out.alloc _) (ai w2 _ _) (by rw[aQ];exact ag _) (by have:=HP2.out.lt;omega) (by omega) (by have:=Hb2.out.lt;omega) (by omega) (by have:=Hb2.out.lt;omega) hf' (by omega));have HB3:=G (HB2.out.alloc (.cells #[.int .i64 5, .string ⟨#[]⟩, .string (ae nm), .string ⟨#[]⟩, .int .i64 0, .slice none 0 0] 131));have Hb3:=G (Hb2.out.alloc (.cells #[.int .i64 5, .string ⟨#[]⟩, .string (ae nm), .string ⟨#[]⟩, .int .i64 0, .slice none 0 0] 131));have hz2:w.heap.size+2<=w2.heap.size:=HB2.out.lt;have HG3:=G (ah HG2.out ((O w2 (.cells #[.int .i64 5, .string ⟨#[]⟩, .string (ae nm), .string ⟨#[]⟩, .int .i64 0, .slice none 0 0] 131)).grownBy (some g)));clear hbc;have hbc:=Hb3.out.cell)|(go_at_call 65;refine HL.out.mono ?_;intro e w5 hh;rw[hx]at hh;obtain⟨hF,rfl⟩:=hh;unfold bi;have HG5:=G (ji HG3.out hF (by omega) (by omega));clear hF));exact⟨rfl,fY HR.out HG5.out⟩
theorem wE (f:Nat) (nm:List UInt8) (l:List bB) (en:Int) (w:World) (g:Nat) (h:PA w g l en) (hEs: ∀i,i<=f->eF i) (hff:f<=400000) (hf:4*l.length+1<=f+1) (hls:b6 jD l=false) (hlp:b6 fi l=true) (a:List Ex) (q:List bB) (hx:eL f l.tail= .ok (a,q)):Calls prog 157 #[.pointer (some ⟨g,0,none⟩), .string (ae nm)] w (nF g en w (ch (f+1) nm l)):=by
 obtain⟨f,rfl⟩: ∃f',f=f'+1:=⟨f-1,by have:=aW hlp;omega⟩
 have HR1:=G (show ch (f+1+1) nm l=(eL (f+1) l.tail).then fun a r=> .ok (.mk 5 [] nm [] 0 a,r)from by rw[ch,if_neg (by rw[hls];simp),if_pos hlp]);have hf':4*l.tail.length+4<=f+1:=by have:=aW hlp;omega
 have hmf: ∀(fn:Fn) (first cap:Array Value) (w:World),(Instr.makeFunc fn first cap).run prog w= .ok (.func fn first cap) w:=fun _ _ _ _=>rfl;have HR:=G (show ch (f+1+1) nm l= .ok (.mk 5 [] nm [] 0 a,q)from by rw[HR1.out,hx];rfl);obtain⟨hX0,hb0,hB0⟩:=hM w (.pointer (some ⟨g,0,none⟩));have HX0:=G hX0;have Hb0:=G hb0;have HB0:=G hB0;have HP0:=G (h.ext hX0);have hbc:=hb0.cell;have hgl:=h.lt;have hbg:w.heap.size≠g:=by omega
 have hrg:w.heap.size+1≠g:=by omega
 have hgr:g≠w.heap.size+1:=by omega
 clear h hX0 hb0 hB0;go_enter func157,ntmps157;go_wp2_with (first|(go_at_call 61;refine(cv g _ en jD _ HP0.out).mono ?_;rw[hls];simp only[aI,if_false];rintro e w1 ⟨rfl,h1,h2⟩;have HP1:=G h1;have HG1:=G (ah (HX0.out.grownBy _) h2);have Hb1:=G (Hb0.out.grown h2 (fun e=>hbg (M e)));have HB1:=G (HB0.out.grown h2 (fun e=>hrg (M e)));clear hbc;have hbc:=Hb1.out.cell;have hrc:=HB1.out.cell;have hrf:=HB1.out.frozen;clear h1 h2 HP0)|(go_at_call 61;refine(cv g _ en fi _ HP1.out).mono ?_;rw[hlp];simp only[if_true];rintro e w2 ⟨rfl,h1,h2⟩;have HP2:=G h1;have HG2:=G (ah HG1.out h2);have Hb2:=G (Hb1.out.grown h2 (fun e=>hbg (M e)));have HB2:=G (HB1.out.grown h2 (fun e=>hrg (M e)));clear hbc;have hbc:=Hb2.out.cell;have hrc:=HB2.out.cell;have hrf:=HB2.out.frozen;clear h1 h2 HP1;have HL:=G (oc f (fun i hi=>hEs i (by omega)) (w2.heap.size+1) g w2.heap.size w.heap.size nm l.tail en (w2.alloc (.cells #[.int .i64 5, .string ⟨#[]⟩, .string (ae nm), .string ⟨#[]⟩, .int .i64 0, .slice none 0 0] 131)) (HP2.out.ext (O w2 _)) (Hb2.out.alloc _) (ai w2 _ _) (by rw[aQ];exact ag _) (by have:=HP2.out.lt;omega) (by omega) (by have:=Hb2.out.lt;omega) (by omega) (by have:=Hb2.out.lt;omega) hf' (by omega));have HB3:=G (HB2.out.alloc (.cells #[.int .i64 5, .string ⟨#[]⟩, .string (ae nm), .string ⟨#[]⟩, .int .i64 0, .slice none 0 0] 131));have Hb3:=G (Hb2.out.alloc (.cells #[.int .i64 5, .string ⟨#[]⟩, .string (ae nm), .string ⟨#[]⟩, .int .i64 0, .slice none 0 0] 131));have hz2:w.heap.size+2<=w2.heap.size:=HB2.out.lt;have HG3:=G (ah HG2.out ((O w2 (.cells #[.int .i64 5, .string ⟨#[]⟩, .string (ae nm), .string ⟨#[]⟩, .int .i64 0, .slice none 0 0] 131)).grownBy (some g)));clear hbc;have hbc:=Hb3.out.cell)|(go_at_call 65;refine HL.out.mono ?_;intro e w5 hh;rw[hx]at hh;obtain⟨hF,rfl,hPA,C,n,cap,hX,hR⟩:=hh;have HG5:=G (ji HG3.out hF (by omega) (by omega));have HP5:=G hPA;have HRD5:=G (hR.mono (Q:=fun b=>w.heap.size+1<b) (fun b hb _=>by omega));have HV5:=G hX;have HB5:=G (hF.blk HB3.out (by omega) hrg (by omega));clear hrc hrf;have hrc:=HB5.out.cell;have hrf:=HB5.out.frozen;have hvc:=HV5.out.cell;clear hF hPA hX hR));obtain⟨hset,hfin⟩:=pg (.mk 5 [] nm [] 0 a) 5 ⟨#[]⟩ (ae nm) ⟨#[]⟩ 0 C n cap HR.out rfl rfl rfl rfl rfl (jL _) HB5.out HG5.out HP5.out hgl HRD5.out;simp only[World.setCells,ak,Nat.reduceAdd]at hset hfin;exact bodyPost_ret (v:= .agg #[.int .i64 5, .string ⟨#[]⟩, .string (ae nm), .string ⟨#[]⟩, .int .i64 0, .slice C n cap]) (by simp[results,results157,go_sem,hset]) rfl hfin
theorem ru (f:Nat) (hff:f<=400000) (hEs: ∀i,i<=f->eF i):ip (f+1):=by
 intro nm l en w g h hf
 cases hls:b6 jD l with
 |true=>
  cases hx:bT f 1 l.tail with
  |error p=>exact tn f nm l en w g h (hEs f (ag _)) hf hls p.1 p.2 hx
  |ok p=>
   cases hrs:b6 jq p.2 with
   |false=>exact tp f nm l en w g h (hEs f (ag _)) hf hls p.1 p.2 hx hrs
   |true=>exact uQ f nm l en w g h (hEs f (ag _)) hf hls p.1 p.2 hx hrs
 |false=>
  cases hlp:b6 fi l with
  |false=>exact rx f nm l en w g h hls hlp
  |true=>
   cases hx:eL f l.tail with
   |error p=>exact vy f nm l en w g h hEs hff hf hls hlp p.1 p.2 hx
   |ok p=>exact wE f nm l en w g h hEs hff hf hls hlp p.1 p.2 hx
end
section
open Go.RowKit
theorem tw (f:Nat) (hP:ox f) (hEs: ∀i,i<=f->eF i):eF (f+1):=by
 intro n0 l en w g h hn1 hn7 hf;have HX0:=G (O w (.cells #[.int .i64 0, .string ⟨#[]⟩, .string ⟨#[]⟩, .string ⟨#[]⟩, .int .i64 0, .slice none 0 0] 131));have HB0:=G (ai w 131 #[.int .i64 0, .string ⟨#[]⟩, .string ⟨#[]⟩, .string ⟨#[]⟩, .int .i64 0, .slice none 0 0]);have HP0:=G (h.ext HX0.out);have hgl:=h.lt;have hrg:w.heap.size≠g:=by omega
 have hgr:g≠w.heap.size:=by omega
 have hfp:4*l.length+1<=f:=by omega
 have HRL:=G (show bT (f+1) n0 l=(cE f l).then fun x r=>gd f n0 x r from by rw[bT]);clear h hf;go_enter func141,ntmps141
 cases hp0:cE f l with
 |error p=>
  obtain⟨q,er⟩:=p;have HR:=G (show bT (f+1) n0 l= .error (q,er)from by rw[HRL.out,hp0];rfl);go_wp2_with (go_at_call 156;refine(hP l en _ g HP0.out hfp).mono ?_;intro e w1 hh;rw[hp0]at hh;obtain⟨hG,rfl⟩:=hh;unfold bi;have HG1:=G (ah (HX0.out.grownBy _) hG);clear hG);exact⟨rfl,fY HR.out HG1.out⟩
 |ok p=>
  obtain⟨x0,q0⟩:=p;have hq0:=(f7 f).2.2.1 _ _ _ hp0;have HR0:=G (show gd f n0 x0 q0=bT (f+1) n0 l from by rw[HRL.out,hp0];rfl);clear HRL;go_wp2_with (go_at_call 156;refine(hP l en _ g HP0.out hfp).mono ?_;intro e w1 hh;rw[hp0]at hh;obtain⟨hG,A0,n1,c0,rfl,hR,hPA⟩:=hh;have hz1:=hG.size;rw[aQ]at hz1;have hE:=O w1 (.cells #[.int .i64 x0.k, .string (ae x0.op), .string (ae x0.nm), .string (ae x0.tx), .int .i64 x0.v, .slice A0 n1 c0] 131);have HG1:=G (ah (ah (HX0.out.grownBy (some g)) hG) (hE.grownBy (some g)));have HB1:=G ((HB0.out.grown hG (fun e=>hrg (M e))).ext hE);have HV1:=G (ai w1 131 #[.int .i64 x0.k, .string (ae x0.op), .string (ae x0.nm), .string (ae x0.tx), .int .i64 x0.v, .slice A0 n1 c0]);have HRD1:=G (hR.keep (.of_ext hE) (Q:=fun b=>w.heap.size<b/\b≠w1.heap.size) (fun b hb hlt=>⟨by rw[aQ]at hb;omega,by omega⟩));have HP1:=G (hPA.ext hE);have hv1:w1.heap.size≠g:=(by have:=hPA.lt;omega);clear hG hR hPA hE);have hpr:w.heap.size<w1.heap.size:=by omega
  have hprn:w.heap.size≠w1.heap.size:=by omega
  have hprn2:w1.heap.size≠w.heap.size:=by omega
  have hgv:g≠w1.heap.size:=fun e=>hv1 e.symm;clear HX0 HB0 HP0
  go_loopw [] (fun wr=> ∃(k:Nat) (x:Ex) (A:Option Addr) (n c:Nat) (r:List bB),4*r.length+1<=k/\k<=f/\Hid (gd k n0 x r=bT (f+1) n0 l)/\Hid (PA wr g r en)/\Hid (aT wr w1.heap.size 131 #[.int .i64 x.k, .string (ae x.op), .string (ae x.nm), .string (ae x.tx), .int .i64 x.v, .slice A n c])/\Hid (bZ wr (fun b=>w.heap.size<b/\b≠w1.heap.size) (.slice A n c) x.args)/\Hid (aT wr w.heap.size 131 #[.int .i64 0, .string ⟨#[]⟩, .string ⟨#[]⟩, .string ⟨#[]⟩, .int .i64 0, .slice none 0 0])/\Hid (w.grownBy wr (some g))) (fun wr=>tokN g wr)
  case atStart=>exact⟨f,x0,A0,n1,c0,q0,by omega,ag _,HR0,HP1,HV1,HRD1,HB1,HG1⟩
  case round=>
   clear HR0 HP1 HV1 HRD1 HB1 HG1;obtain⟨k,x,A,n,c,r,hk,hkf,HRes,HPr,HVr,HRr,HBr,HGr⟩:=hrel;obtain⟨k,rfl⟩: ∃k',k=k'+1:=⟨k-1,by omega⟩
   have HN:=G (eb g r en wr HPr.out);have HSt:=G (show gd (k+1) n0 x r=if(bV r).k=5/\n0<=eW (bV r).t then(bT k (eW (bV r).t+1) r.tail).then fun y q=>gd k n0 (.mk 7 (bV r).t [] [] 0 [x,y]) q else .ok (x,r)from by rw[gd]);by_cases hgo:(bV r).k=5/\n0<=eW (bV r).t
   rotate_left
   ·have HR:=G (show bT (f+1) n0 l= .ok (x,r)from by rw[<-HRes.out,HSt.out,if_neg hgo]);clear HSt HRes;generalize bV r=t at*;obtain⟨tk,tt,tv,tf⟩:=t;simp only at hgo HN;have HLV:=G (j9 tt);generalize eW tt=L at*;by_cases h5:tk=5
    ·have hlt:L<n0:=by omega
     obtain rfl:tk=5:=h5;clear hgo;go_wp2_with (first|(go_at_call 116;refine HN.out.mono ?_;rintro e w2 ⟨rfl,hE⟩;have hz2:=bJ hE;have hE2:=hE.alloc' (.cells #[.int .i64 5, .string (ae tt), .int .i64 tv, .int .i64 tf] 116);have HG3:=G (ah HGr.out (hE2.grownBy (some g)));have HB3:=G (HBr.out.ext hE2);have HV3:=G (HVr.out.ext hE2);have HT3:=G (ai w2 116 #[.int .i64 5, .string (ae tt), .int .i64 tv, .int .i64 tf]);have HR3:=G (HRr.out.keep (.of_ext hE2) (fun _ hb _=>hb));have HP3:=G (HPr.out.ext hE2);have hvc:=HV3.out.cell;have hrc:=HB3.out.cell;have hrf:=HB3.out.frozen;clear hE hE2 HN)|(go_at_call 123;refine(HLV.out _).mono ?_;rintro e w3 ⟨rfl,rfl⟩;clear HLV));obtain⟨hset,hfin⟩:=jU x x.k (ae x.op) (ae x.nm) (ae x.tx) x.v A n c HR.out rfl rfl rfl rfl rfl rfl HB3.out HG3.out HP3.out hgl (HR3.out.mono fun b hb _=>by omega);simp only[World.setCells,ak,Nat.reduceAdd]at hset hfin;change bodyPost prog Tryz.f141 _ Exit.ret _ _;exact bodyPost_ret (v:= .agg #[.int .i64 x.k, .string (ae x.op), .string (ae x.nm), .string (ae x.tx), .int .i64 x.v, .slice A n c]) (by simp[results,results141,go_sem,hset]) rfl hfin
    ·have hb5:(tk==5)=false:=beq_eq_false_iff_ne.2 h5;have hb5n:(tk !=5)=true:=by rw[bne,hb5];rfl
     clear hgo;go_wp2_with (first|(go_at_call 116;refine HN.out.mono ?_;rintro e w2 ⟨rfl,hE⟩;have hz2:=bJ hE;have hE2:=hE.alloc' (.cells #[.int .i64 tk, .string (ae tt), .int .i64 tv, .int .i64 tf] 116);have HG3:=G (ah HGr.out (hE2.grownBy (some g)));have HB3:=G (HBr.out.ext hE2);have HV3:=G (HVr.out.ext hE2);have HT3:=G (ai w2 116 #[.int .i64 tk, .string (ae tt), .int .i64 tv, .int .i64 tf]);have HR3:=G (HRr.out.keep (.of_ext hE2) (fun _ hb _=>hb));have HP3:=G (HPr.out.ext hE2);have hvc:=HV3.out.cell;have hrc:=HB3.out.cell;have hrf:=HB3.out.frozen;clear hE hE2 HN)|(go_at_call 123;refine(HLV.out _).mono ?_;rintro e w3 ⟨rfl,rfl⟩;clear HLV));obtain⟨hset,hfin⟩:=jU x x.k (ae x.op) (ae x.nm) (ae x.tx) x.v A n c HR.out rfl rfl rfl rfl rfl rfl HB3.out HG3.out HP3.out hgl (HR3.out.mono fun b hb _=>by omega);simp only[World.setCells,ak,Nat.reduceAdd]at hset hfin;change bodyPost prog Tryz.f141 _ Exit.ret _ _;exact bodyPost_ret (v:= .agg #[.int .i64 x.k, .string (ae x.op), .string (ae x.nm), .string (ae x.tx), .int .i64 x.v, .slice A n c]) (by simp[results,results141,go_sem,hset]) rfl hfin
   ·obtain⟨h5,hle⟩:=hgo;obtain⟨⟨tk,tt,tv,tf⟩,q,rfl⟩:=hd_cons h5 (by decide);have HS2:=G (show bT (f+1) n0 l=(bT k (eW tt+1) q).then fun y r=>gd k n0 (.mk 7 tt [] [] 0 [x,y]) r from by rw[<-HRes.out,HSt.out,if_pos ⟨h5,hle⟩];rfl);clear HSt HRes;simp only[bV]at h5 hle HN;obtain rfl:tk=5:=h5;have HLV:=G (j9 tt);have hL:=ry tt;have hfq:4*q.length+2<=k:=by simp only[ac]at hk;omega
    generalize hLe:eW tt=L at*;have hlt: ¬L<n0:=by omega
    have hw:wrap64 (L+1)=L+1:=by simp only[wrap64];omega
    have hw2:IntKind.i64.wrap (L+1)=L+1:=by simp[IntKind.wrap,IntKind.signed,IntKind.bits];omega
    clear hLe;go_wp2_with (first|(go_at_call 116;refine HN.out.mono ?_;rintro e w2 ⟨rfl,hE⟩;have hz2:=bJ hE;have hE2:=hE.alloc' (.cells #[.int .i64 5, .string (ae tt), .int .i64 tv, .int .i64 tf] 116);have HG3:=G (ah HGr.out (hE2.grownBy (some g)));have HB3:=G (HBr.out.ext hE2);have HV3:=G (HVr.out.ext hE2);have HT3:=G (ai w2 116 #[.int .i64 5, .string (ae tt), .int .i64 tv, .int .i64 tf]);have HR3:=G (HRr.out.keep (.of_ext hE2) (fun _ hb _=>hb));have HP3:=G (HPr.out.ext hE2);have hvc:=HV3.out.cell;have hrc:=HB3.out.cell;have hrf:=HB3.out.frozen;clear hE hE2 HN;obtain⟨A3,c3,hb,ht,hn⟩:=HP3.out;obtain⟨b,off,rfl,hlt2,_⟩:=ht.at_ 0 (by simp);have hbc:=hb.cell;have hbf:=hb.frozen)|(go_at_call 123;refine(HLV.out _).mono ?_;rintro e w3 ⟨rfl,rfl⟩;clear HLV));all_goals
     first|have hq:=PA.next_a hb ht (hn b off rfl (by simp)) hlt2 (by assumption)|have hq:=PA.next_b hb ht (hn b off rfl (by simp)) hlt2 (by assumption)
     obtain⟨h1,h2⟩:=hq;have htg:w2.heap.size≠g:=by have:=HPr.out.lt;omega
     have HG5:=G (ah HG3.out h2);have HB5:=G (HB3.out.grown h2 (fun e=>hrg (M e)));have HV5:=G (HV3.out.grown h2 (fun e=>hv1 (M e)));have HT5:=G (HT3.out.grown h2 (fun e=>htg (M e)));have HR5:=G (HR3.out.keep (.of_grown h2 fun b hb e=>by injection e with e;omega) (fun b hb _=>hb));have HP5:=G h1;clear hb ht hn hlt2 hbc hbf hvc hrc hrf h2 h1;generalize World.setCell _ _ _=w5 at*;have hg5:g<w5.heap.size:=HP5.out.lt;have hz5:w.heap.size<w5.heap.size:=HB5.out.lt;have hv5:w1.heap.size<w5.heap.size:=HV5.out.lt
     cases hpe:bT k (L+1) q with
     |error p=>
      obtain⟨q1,er⟩:=p;have HR:=G (show bT (f+1) n0 l= .error (q1,er)from by rw[HS2.out,hpe];rfl);refine bC 9 7 [(6,fun v=>v= .agg #[.int .i64 0, .string ⟨#[]⟩, .string ⟨#[]⟩, .string ⟨#[]⟩, .int .i64 0, .slice none 0 0],fun _ _=>False),(7,fun v=> ∃gb,v= .slice (some ⟨gb,0,none⟩) 2 2,fun _ _=>True)] 6 (some g) mixed (by kernel_rfl) ⟨fun _ _ _ h _=>h,fun _ _ _ h _=>h,trivial⟩ ⟨.inl rfl, .inr fun _ _ _ h _=>h,trivial⟩ ?_;repeat (refine sx ?_ (fun w1 hU=> ?_) ?_;rotate_left;(focus have f1:=(HT5.out.grown (aD hU) (fun e=>htg (M e))).cell;have f2:=(HV5.out.grown (aD hU) (fun e=>hv1 (M e))).cell;clear hU;go_simp<;>with_reducible rfl);simp only[bf,be,bc,a_,a8])
      refine ce _ _ (by rfl) rfl ⟨_,rfl⟩ rfl (fun w6 hT hp K hK=> ?_) ?_
      ·clear hp;have hc:=hEs k (by omega) (L+1) q en w6 g (HP5.out.ext hT.un) (by omega) (by omega) hfq;have HT6:=G hT.un;clear hT;go_simp;refine hc.mono ?_;intro e w7 hh;rw[hpe]at hh;obtain⟨hG,rfl⟩:=hh;unfold bi;intro a' hd;exact⟨hd,fY HR.out (ah HG5.out (ah (HT6.out.grownBy _) hG))⟩
      rintro _ rfl;simp only[bf,be,bc,a_,a8];refine bw _ _ (by rfl) rfl ⟨_,0,rfl⟩ (by simp) (fun w6 hU hp K hK=> ?_) ?_
      ·clear hp;go_simp;exact hK _ _ (O w6 _) ⟨_,rfl⟩ trivial
      rintro _ ⟨gb,rfl⟩;simp only[bf,be,bc,a_,a8];repeat (refine sx ?_ (fun w1 hU=> ?_) ?_;rotate_left;(focus go_simp<;>with_reducible rfl);simp only[bf,be,bc,a_,a8])
      intro w6 hw6 hp;exact(hp _ (.tail _ (.head _))).elim
     |ok p=>
      obtain⟨y,q1⟩:=p;have hq1:=(f7 k).1 _ _ _ _ hpe;have HRN:=G (show gd k n0 (.mk 7 tt [] [] 0 [x,y]) q1=bT (f+1) n0 l from by rw[HS2.out,hpe];rfl)
      refine bC 9 7 [(6,fun v=> ∃A n c,v= .agg #[.int .i64 y.k, .string (ae y.op), .string (ae y.nm), .string (ae y.tx), .int .i64 y.v, .slice A n c],fun v wx=> ∀A n c,v= .agg #[.int .i64 y.k, .string (ae y.op), .string (ae y.nm), .string (ae y.tx), .int .i64 y.v, .slice A n c]->bZ wx (fun b=>w5.heap.size<=b) (.slice A n c) y.args/\PA wx g q1 en),
        (7,fun v=> ∃gb,v= .slice (some ⟨gb,0,none⟩) 2 2,fun v wx=>bZ wx (fun b=>w.heap.size<b/\b≠w1.heap.size) v [x,y])] 6 (some g) mixed (by kernel_rfl)
       ⟨fun _ _ _ h hx A n c e=>⟨(h A n c e).1.keep (.of_ext hx) (fun _ hb _=>hb),(h A n c e).2.ext hx⟩,fun _ _ _ h hx=>h.keep (.of_ext hx) (fun _ hb _=>hb),trivial⟩
       ⟨.inl rfl, .inr fun _ _ _ h hx=>h.keep (.of_grown hx fun b hb e=>by injection e with e;omega) (fun _ hb _=>hb),trivial⟩ ?_
      repeat (refine sx ?_ (fun w1 hU=> ?_) ?_;rotate_left;(focus have f1:=(HT5.out.grown (aD hU) (fun e=>htg (M e))).cell;have f2:=(HV5.out.grown (aD hU) (fun e=>hv1 (M e))).cell;clear hU;go_simp<;>with_reducible rfl);simp only[bf,be,bc,a_,a8])
      refine ce _ _ (by rfl) rfl ⟨_,none,0,0,rfl⟩ rfl (fun w6 hT hp K hK=> ?_) ?_
      ·clear hp;have hc:=hEs k (by omega) (L+1) q en w6 g (HP5.out.ext hT.un) (by omega) (by omega) hfq;have HT6:=G hT.un;clear hT;go_simp;refine hc.mono ?_;intro e w7 hh;rw[hpe]at hh;obtain⟨hG,A,n,c,rfl,hR,hPA⟩:=hh;exact hK _ _ hG ⟨_,_,_,rfl⟩ (fun A' n' c' e=>by injection e with e;simp only[cI,cw,b_,and_true,true_and]at e;obtain⟨rfl,rfl,rfl⟩:=e;exact⟨hR.mono (fun b hb _=>aS (bJ HT6.out) hb),hPA⟩)
      rintro _ ⟨A2,n2,c2,rfl⟩;simp only[bf,be,bc,a_,a8];refine bw _ _ (by rfl) rfl ⟨_,0,rfl⟩ (by simp) (fun w6 hU hp K hK=> ?_) ?_
      ·have h3:=(hp _ (.head _) (by kernel_rfl)) A2 n2 c2 rfl;have hU':=aD hU;have hz6:=hU'.size;have hr6:=HR5.out.keep (.of_grown hU' fun b hb e=>by injection e with e;omega) (fun b hb _=>hb);clear hp hU;go_simp;exact hK _ _ (O w6 _) ⟨_,rfl⟩ (bZ.two (ai w6 _ _) ⟨by omega,by omega⟩ (hr6.keep (.of_ext (O w6 _)) (fun _ hb _=>hb)) (h3.1.keep (.of_ext (O w6 _)) (fun b hb _=>⟨by omega,by omega⟩)))
      rintro _ ⟨gb,rfl⟩;simp only[bf,be,bc,a_,a8];repeat (refine sx ?_ (fun w1 hU=> ?_) ?_;rotate_left;(focus go_simp<;>with_reducible rfl);simp only[bf,be,bc,a_,a8])
      intro w8 hw8 hp;have h4:=hp _ (.head _);have h3:=(hp _ (.tail _ (.head _)) A2 n2 c2 rfl).2;clear hp;simp only[ab,ap];have hw8:=aD hw8;have hV8:=HV5.out.grown hw8 (fun e=>hv1 (M e));have hc9:=bG w1.heap.size [.int .i64 7, .string (ae tt), .string ⟨#[]⟩, .string ⟨#[]⟩, .int .i64 0, .slice (some ⟨gb,0,none⟩) 2 2] 0 w8;have hG9:=bX (ah HG5.out hw8) hc9 (aH hpr);have hV9:=lm hV8 (.int .i64 7) (.string (ae tt)) (.string ⟨#[]⟩) (.string ⟨#[]⟩) (.int .i64 0) (.slice (some ⟨gb,0,none⟩) 2 2);have hB9:=(HB5.out.grown hw8 (fun e=>hrg (M e))).grown hc9 (fun e=>hprn (M e));have hR9:=h4.keep (.of_grown hc9 fun b hb e=>hb.2 (M e)) (fun b hb _=>hb);have hP9:=h3.grown hc9 (fun k e=>by injection e with e;omega);simp only[World.setCells,ak,Nat.reduceAdd]at hG9 hV9 hB9 hR9 hP9;have hvc:=hV8.cell;have hvf:=hV8.frozen;have HG9:=G hG9;have HV9:=G hV9;have HB9:=G hB9;have HR9:=G hR9;have HP9:=G hP9;clear hw8 hV8 hc9 hG9 hV9 hB9 hR9 hP9 h4 h3;go_wp2_with fail;go_roundw
      case rel=>exact⟨k, .mk 7 tt [] [] 0 [x,y],some ⟨gb,0,none⟩,2,2,q1,by omega,by omega,HRN,HP9,HV9,HR9,HB9,HG9⟩
      case measure=>rw[HPr.out.tokN,HP9.out.tokN];simp only[ac];omega
end
section
open Go.RowKit
theorem mV: ∀(f:Nat),f<=400000->(∀i,i<=f->eF i)/\ox f/\ip f
 |0,_=>by
  refine⟨fun i hi=> ?_,?_,?_⟩
  ·obtain rfl:i=0:=by omega
   intro n l en w g h _ _ hf;omega
  ·intro l en w g h hf;omega
  ·intro nm l en w g h hf;omega
 |f+1,hf=>by
  obtain⟨h1,h2,h3⟩:=mV f (by omega);have hE:=tw f h2 h1
  exact⟨fun i hi=>by
   rcases dB f i with h|h
   ·obtain rfl:i=f+1:=by omega
    exact hE
   ·exact h1 i h,sY f (h1 f (ag _)) h2 h3,ru f (by omega) h1⟩
theorem uX {f:Nat} (hf:f<=400000):eF f:=(mV f hf).1 f (ag _)
theorem tb {f:Nat} (hf:f<=400000):ip f:=(mV f hf).2.2
def tG (g:Nat) (en:Int) (w:World) (r:PR St) (e:Ending) (w':World):Prop:=
 w.grownBy w' (some g)/\match r with
 | .ok (s,q)=> ∃A n c B m d C k i,e= .returned (.agg #[.int .i64 s.k, .string (ae s.nm), .slice A n c, .slice B m d, .slice C k i])/\
   SV.ok w' (fun b=>w.heap.size<=b) ⟨s, .slice A n c, .slice B m d, .slice C k i⟩/\PA w' g q en
 | .error (q,n)=>e=bi en q n
def yM (g:Nat) (en:Int) (w:World) (r:PR (List St)) (e:Ending) (w':World):Prop:=
 w.grownBy w' (some g)/\match r with
 | .ok (b,q)=> ∃A n c,e= .returned (.slice A n c)/\cP w' (fun b=>w.heap.size<=b) (.slice A n c) b/\PA w' g q en
 | .error (q,n)=>e=bi en q n
theorem cY {g:Nat} {en:Int} {w w':World} {r:PR St} {q:List bB} {n:Int} (hr:r= .error (q,n)) (hG:w.grownBy w' (some g)):tG g en w r (bi en q n) w':=by
 subst hr;exact⟨hG,rfl⟩
theorem rT {g:Nat} {en:Int} {w w':World} {r:PR (List St)} {q:List bB} {n:Int} (hr:r= .error (q,n)) (hG:w.grownBy w' (some g)):yM g en w r (bi en q n) w':=by
 subst hr;exact⟨hG,rfl⟩
def kJ (f:Nat):Prop:= ∀(l:List bB) (en:Int) (w:World) (g:Nat),PA w g l en->4*l.length+1<=f->Calls prog 67 #[.pointer (some ⟨g,0,none⟩)] w (yM g en w (cZ f l))
def x8 (f:Nat):Prop:= ∀(l:List bB) (en:Int) (w:World) (g:Nat),PA w g l en->4*l.length+3<=f->Calls prog 140 #[.pointer (some ⟨g,0,none⟩)] w (tG g en w (lW f l))
def vE (f:Nat):Prop:= ∀(l:List bB) (en:Int) (w:World) (g:Nat),PA w g l en->4*l.length+3<=f->Calls prog 118 #[.pointer (some ⟨g,0,none⟩)] w (tG g en w (de f l))
theorem Aa:jw prog 71 76 5 96 (.agg #[.int .i64 0, .string ⟨#[]⟩, .slice none 0 0, .slice none 0 0, .slice none 0 0]):=⟨underlying71,by kernel_rfl,by rfl,by decide⟩
theorem oJ (s:St) (A B C:Option Addr) (n m k c d i:Nat): ∀u∈rN ⟨s, .slice A n c, .slice B m d, .slice C k i⟩,u.oneCell'=true:=by
 intro u hu;simp only[rN,dH,cU,or_false]at hu;rcases hu with rfl|rfl|rfl|rfl|rfl<;>rfl
theorem rD (f:Nat) (hff:f<=400000) (hS: ∀i,i<=f->vE i):kJ (f+1):=by
 intro l en w g h hf;have HP0:=G h;have hgl:=h.lt;have HR0:=G (show cZ (f+1) l=(bP t_ l).then fun _ r=>dS f [] r from by rw[cZ]);clear h;go_enter func67,ntmps67
 cases hlb:b6 t_ l with
 |false=>
  have HR:=G (show cZ (f+1) l= .error (l,3)from by rw[HR0.out];unfold bP;rw[hlb];rfl);go_wp2_with (go_at_call 63;refine(fV g _ en t_ _ HP0.out hlb).mono ?_;unfold bi;rintro e w1 ⟨rfl,hG⟩;have HG1:=G hG;clear hG);exact⟨rfl,rT HR.out HG1.out⟩
 |true=>
  have HR:=G (show dS f [] l.tail=cZ (f+1) l from by rw[HR0.out];unfold bP;rw[hlb];rfl);have hlt:=aW hlb;go_wp2_with (go_at_call 63;refine(dZ g _ en t_ _ HP0.out hlb).mono ?_;rintro e w1 ⟨rfl,h1,h2⟩;have HP1:=G h1;have HG1:=G h2;clear h1 h2);clear HR0 HP0
  go_loopw [3] (fun vo wr=> ∃(k:Nat) (acc:List SV) (r:List bB) (C:Option Addr) (n cap:Nat),vo= .slice C n cap/\acc.length=n/\4*r.length+4<=k/\k<=f/\n+r.length<=l.length/\Hid (dS k (acc.map (·.s)) r=cZ (f+1) l)/\Hid (PA wr g r en)/\
   Hid (f8 wr w.heap.size 76 (.slice C n cap) acc)/\Hid (w.grownBy wr (some g))) (fun vo wr=>tokN g wr)
  case atStart=>exact⟨f,[],l.tail,none,0,0,rfl,rfl,by omega,ag _,by simp only[iW];omega,HR,HP1,G (nj _ _ _),HG1⟩
  case round=>
   clear HR HP1 HG1;obtain⟨k,acc,r,C,n,cap,rfl,hn,hk,hkf,hnl,HRes,HPr,HOr,HGr⟩:=hrel;obtain⟨k,rfl⟩: ∃k',k=k'+1:=⟨k-1,by omega⟩
   have HSt:=G (show dS (k+1) (acc.map (·.s)) r=if b6 pF r then .ok (acc.map (·.s),r.tail)else(de k r).then fun s q=>dS k (acc.map (·.s)++[s]) q from by rw[dS])
   cases hrb:b6 pF r with
   |true=>
    have HR:=G (show cZ (f+1) l= .ok (acc.map (·.s),r.tail)from by rw[<-HRes.out,HSt.out,if_pos hrb]);go_wp2_with (go_at_call 61;refine(cv g r en pF _ HPr.out).mono ?_;rw[hrb];simp only[if_true];rintro e w2 ⟨rfl,h1,h2⟩;have HP2:=G h1;have HG2:=G (ah HGr.out h2);have HO2:=G (HOr.out.grown h2 (fun k e=>by injection e with e;omega));clear h1 h2);go_ret;rw[HR.out];exact⟨HG2.out,_,_,_,rfl,HO2.out.rd,HP2.out⟩
   |false=>
    have HS2:=G (show cZ (f+1) l=(de k r).then fun s q=>dS k (acc.map (·.s)++[s]) q from by rw[<-HRes.out,HSt.out,if_neg (by rw[hrb];simp)]);have hfs:4*r.length+3<=k:=by omega
    clear HRes HSt
    cases hps:de k r with
    |error p=>
     obtain⟨q,er⟩:=p;have HR:=G (show cZ (f+1) l= .error (q,er)from by rw[HS2.out,hps];rfl)
     go_wp2_with (first
      |(go_at_call 61;refine(cv g r en pF _ HPr.out).mono ?_;rw[hrb];simp only[aI,if_false];rintro e w2 ⟨rfl,h1,h2⟩;have HP2:=G h1;have HG2:=G (ah HGr.out h2);clear h1 h2 HPr)
      |(go_at_call 118;refine(hS k (by omega) r en _ g HP2.out hfs).mono ?_;intro e w3 hh;rw[hps]at hh;obtain⟨hG,rfl⟩:=hh;unfold bi;have HG3:=G (ah HG2.out hG);clear hG))
     exact⟨rfl,rT HR.out HG3.out⟩
    |ok p=>
     obtain⟨s,q⟩:=p;have hq:=(iz k).2.2.2 _ _ _ hps;have HRN:=G (show dS k (acc.map (·.s)++[s]) q=cZ (f+1) l from by rw[HS2.out,hps];rfl)
     go_wp2_with (first
      |(go_at_call 61;refine(cv g r en pF _ HPr.out).mono ?_;rw[hrb];simp only[aI,if_false];rintro e w2 ⟨rfl,h1,h2⟩;have HP2:=G h1;have HG2:=G (ah HGr.out h2);have HO2:=G (HOr.out.grown h2 (fun k e=>by injection e with e;omega));clear h1 h2 HOr)
      |(go_at_call 118;refine(hS k (by omega) r en _ g HP2.out hfs).mono ?_;intro e w3 hh;rw[hps]at hh;obtain⟨hG,A1,n1,c1,A2,n2,c2,A3,n3,c3,rfl,hV,hPA⟩:=hh;have hE:=O w3 (.cells #[.int .i64 s.k, .string (ae s.nm), .slice A1 n1 c1, .slice A2 n2 c2, .slice A3 n3 c3] 76);have hz2:=HG2.out.size;have hzz:=hG.size;have HG3:=G (ah (ah HG2.out hG) (hE.grownBy (some g)));have HO3:=G ((HO2.out.grown hG (fun k e=>by injection e with e;omega)).ext hE);have hrow:=aJ HO2.out.1;have HV3:=G (hV.keep (.of_ext hE) (Q:=fun b=>w.heap.size<=b/\some b≠Value.ownBlock (.slice C n cap)) (fun b hb _=>⟨by omega,fun e=>by have:=(hrow b e.symm).2;omega⟩));have HP3:=G (hPA.ext hE);have HN3:=G (ai w3 76 #[.int .i64 s.k, .string (ae s.nm), .slice A1 n1 c1, .slice A2 n2 c2, .slice A3 n3 c3]);have hrw:=fun k hk=>(hrow k hk).1;clear hG hV hPA hE hrow HO2)
      |(at_builtin;refine cQ Aa rfl _ _ rfl w.heap.size _ n (dO acc) rfl (by have:=HO3.out.1;rw[hn]at this;exact this) w3.heap.size (rN ⟨s, .slice A1 n1 c1, .slice A2 n2 c2, .slice A3 n3 c3⟩) rfl HN3.out rfl (oJ _ _ _ _ _ _ _ _ _ _) (by omega) (by decide) HG3.out.size ?_;intro A' cap' w4 hq1 hq2 hq3;have HO4:=G (HO3.out.snoc HV3.out (by rw[hn];exact hq1) hq2 hq3);have HG4:=G (show w.grownBy w4 (some g)from⟨hq2.os.trans HG3.out.os,hq2.tape.trans HG3.out.tape,hq2.output.trans HG3.out.output,aS HG3.out.size hq2.size,fun i hi hne=>(hq2.block i (an hi HG3.out.size) (fun e=>by have:=hrw i e.symm;omega)).trans (HG3.out.block i hi hne)⟩);have HP4:=G (HP3.out.grown hq2 (fun k e=>by have:=hrw k e;omega));clear hq1 hq2 hq3))
     go_roundw
     case rel=>exact⟨k,acc++[⟨s, .slice A1 n1 c1, .slice A2 n2 c2, .slice A3 n3 c3⟩],q,some ⟨A',0,none⟩,n+1,cap',rfl,by simp[hn],by omega,by omega,by omega,G (by simpa using HRN.out),HP4,G (by have:=HO4.out;rw[hn]at this;exact this),HG4⟩
     case measure=>rw[HPr.out.tokN,HP4.out.tokN];omega
end
end Go.Proofs.YtelplgkppalmfaaGreatDoor
