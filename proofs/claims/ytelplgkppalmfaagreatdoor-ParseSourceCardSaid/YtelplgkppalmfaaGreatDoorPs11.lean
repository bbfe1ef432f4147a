/-
  Parts of the proof: ParM SeqR ParN.
-/
import Derived.Test.YtelplgkppalmfaaGreatDoorPs10
import Derived.Test.YtelplgkppalmfaaGreatDoorPs00
set_option maxRecDepth 100000
set_option maxHeartbeats 8000000
set_option linter.unusedVariables false
set_option linter.unusedSimpArgs false
set_option linter.defProp false
namespace Go.Proofs.YtelplgkppalmfaaGreatDoor
open Go.Proofs.Tryz
section
open Go.RowKit
theorem s8 (f:Nat) (l:List bB) (en:Int) (w:World) (g:Nat) (h:PA w g l en) (hEx:eF f) (hf:4*l.length+1<=f+1) (hk3: ¬(bV l).k=3) (hk4: ¬(bV l).k=4) (hk1: ¬(bV l).k=1) (hmi:b6 ln l=false) (hno:b6 l8 l=false) (hlp:b6 fi l=false):Calls prog 156 #[.pointer (some ⟨g,0,none⟩)] w (nF g en w (cE (f+1) l)):=by
 have HRP:=G (iG (f:=f) hk3 hk4 hk1 (by rw[hmi,hno];rfl));have HX0:=G (O w (.cells #[.int .i64 0, .string ⟨#[]⟩, .string ⟨#[]⟩, .string ⟨#[]⟩, .int .i64 0, .slice none 0 0] 131));have HB0:=G (ai w 131 #[.int .i64 0, .string ⟨#[]⟩, .string ⟨#[]⟩, .string ⟨#[]⟩, .int .i64 0, .slice none 0 0]);have HN:=G (eb g _ en _ (h.ext HX0.out));have HP:=G h;have hgl:=h.lt;clear h;have HR:=G (show cE (f+1) l= .error (l,3)from by rw[HRP.out];unfold bP;rw[hlp];rfl);clear HRP;generalize bV l=t at*;obtain⟨k,tx,v,fr⟩:=t;simp only at hk3 hk4 hk1 HN;have hb3:(k==3)=false:=beq_eq_false_iff_ne.2 hk3;have hb4:(k==4)=false:=beq_eq_false_iff_ne.2 hk4;have hb1:(k==1)=false:=beq_eq_false_iff_ne.2 hk1;go_enter func156,ntmps156;go_wp2_with (first|(go_at_call 116;refine HN.out.mono ?_;rintro e w1 ⟨rfl,hE⟩;have hpt:w.heap.size<w1.heap.size:=(by have:=HB0.out.lt;have:=bJ hE;omega);have HX1:=G (hE.alloc' (.cells #[.int .i64 k, .string (ae tx), .int .i64 v, .int .i64 fr] 116));have HB1:=G (HB0.out.ext HX1.out);have HT1:=G (ai w1 116 #[.int .i64 k, .string (ae tx), .int .i64 v, .int .i64 fr]);have hrc:=HB1.out.cell;have hrf:=HB1.out.frozen;have hrg:w.heap.size≠g:=(by omega);have hgr:g≠w.heap.size:=(by omega);clear hE HN;have HP1:=G ((HP.out.ext HX0.out).ext HX1.out))|(go_at_call 115;refine(gi g _ en ln _ HP1.out).mono ?_;rw[hmi];rintro e w2 ⟨rfl,hE⟩;have HX2:=G (HX1.out.trans hE);have HP2:=G (HP1.out.ext hE);have HB2:=G (HB1.out.ext hE);have HT2:=G (HT1.out.ext hE);clear hrc hrf;have hrc:=HB2.out.cell;have hrf:=HB2.out.frozen;clear HP1)|(go_at_call 115;refine(gi g _ en l8 _ HP2.out).mono ?_;rw[hno];rintro e w3 ⟨rfl,hE⟩;have HX3:=G (HX2.out.trans hE);have HP3:=G (HP2.out.ext hE);have HB3:=G (HB2.out.ext hE);have HT3:=G (HT2.out.ext hE);clear hrc hrf;have hrc:=HB3.out.cell;have hrf:=HB3.out.frozen;clear HP2)|(go_at_call 63;refine(fV g _ en fi _ HP3.out hlp).mono ?_;unfold bi;rintro e w4 ⟨rfl,hG⟩;have HG4:=G (ah ((HX0.out.trans HX3.out).grownBy _) hG);clear hG));exact⟨rfl,fY HR.out HG4.out⟩
theorem s6 (f:Nat) (l:List bB) (en:Int) (w:World) (g:Nat) (h:PA w g l en) (hEx:eF f) (hf:4*l.length+1<=f+1) (hk3: ¬(bV l).k=3) (hk4: ¬(bV l).k=4) (hk1: ¬(bV l).k=1) (hmi:b6 ln l=false) (hno:b6 l8 l=false) (hlp:b6 fi l=true) (q:List bB) (n:Int) (hx:bT f 1 l.tail= .error (q,n)):Calls prog 156 #[.pointer (some ⟨g,0,none⟩)] w (nF g en w (cE (f+1) l)):=by
 have HRP:=G (iG (f:=f) hk3 hk4 hk1 (by rw[hmi,hno];rfl));have HX0:=G (O w (.cells #[.int .i64 0, .string ⟨#[]⟩, .string ⟨#[]⟩, .string ⟨#[]⟩, .int .i64 0, .slice none 0 0] 131));have HB0:=G (ai w 131 #[.int .i64 0, .string ⟨#[]⟩, .string ⟨#[]⟩, .string ⟨#[]⟩, .int .i64 0, .slice none 0 0]);have HN:=G (eb g _ en _ (h.ext HX0.out));have HP:=G h;have hgl:=h.lt;clear h;have HR1:=G (show cE (f+1) l=(bT f 1 l.tail).then fun x r=>(bP eg r).then fun _ r=> .ok (x,r)from by rw[HRP.out];unfold bP;rw[hlp];rfl);have hf':4*l.tail.length+2<=f:=by have:=aW hlp;omega
 clear HRP;have HR:=G (show cE (f+1) l= .error (q,n)from by rw[HR1.out,hx];rfl);clear HR1;generalize bV l=t at*;obtain⟨k,tx,v,fr⟩:=t;simp only at hk3 hk4 hk1 HN;have hb3:(k==3)=false:=beq_eq_false_iff_ne.2 hk3;have hb4:(k==4)=false:=beq_eq_false_iff_ne.2 hk4;have hb1:(k==1)=false:=beq_eq_false_iff_ne.2 hk1;go_enter func156,ntmps156;go_wp2_with (first|(go_at_call 116;refine HN.out.mono ?_;rintro e w1 ⟨rfl,hE⟩;have hpt:w.heap.size<w1.heap.size:=(by have:=HB0.out.lt;have:=bJ hE;omega);have HX1:=G (hE.alloc' (.cells #[.int .i64 k, .string (ae tx), .int .i64 v, .int .i64 fr] 116));have HB1:=G (HB0.out.ext HX1.out);have HT1:=G (ai w1 116 #[.int .i64 k, .string (ae tx), .int .i64 v, .int .i64 fr]);have hrc:=HB1.out.cell;have hrf:=HB1.out.frozen;have hrg:w.heap.size≠g:=(by omega);have hgr:g≠w.heap.size:=(by omega);clear hE HN;have HP1:=G ((HP.out.ext HX0.out).ext HX1.out))|(go_at_call 115;refine(gi g _ en ln _ HP1.out).mono ?_;rw[hmi];rintro e w2 ⟨rfl,hE⟩;have HX2:=G (HX1.out.trans hE);have HP2:=G (HP1.out.ext hE);have HB2:=G (HB1.out.ext hE);have HT2:=G (HT1.out.ext hE);clear hrc hrf;have hrc:=HB2.out.cell;have hrf:=HB2.out.frozen;clear HP1)|(go_at_call 115;refine(gi g _ en l8 _ HP2.out).mono ?_;rw[hno];rintro e w3 ⟨rfl,hE⟩;have HX3:=G (HX2.out.trans hE);have HP3:=G (HP2.out.ext hE);have HB3:=G (HB2.out.ext hE);have HT3:=G (HT2.out.ext hE);clear hrc hrf;have hrc:=HB3.out.cell;have hrf:=HB3.out.frozen;clear HP2)|(go_at_call 63;refine(dZ g _ en fi _ HP3.out hlp).mono ?_;rintro e w4 ⟨rfl,h1,h2⟩;have HP4:=G h1;have HG4:=G (ah ((HX0.out.trans HX3.out).grownBy _) h2);have HB4:=G (HB3.out.grown h2 (fun e=>hrg (M e)));clear h1 h2 HP3)|(go_at_call 141;refine(hEx 1 _ en _ g HP4.out (by decide) (by decide) hf').mono ?_;intro e w5 hh;rw[hx]at hh;obtain⟨hG,rfl⟩:=hh;unfold bi;have HG5:=G (ah HG4.out hG);clear hG));exact⟨rfl,fY HR.out HG5.out⟩
theorem s7 (f:Nat) (l:List bB) (en:Int) (w:World) (g:Nat) (h:PA w g l en) (hEx:eF f) (hf:4*l.length+1<=f+1) (hk3: ¬(bV l).k=3) (hk4: ¬(bV l).k=4) (hk1: ¬(bV l).k=1) (hmi:b6 ln l=false) (hno:b6 l8 l=false) (hlp:b6 fi l=true) (x:Ex) (q:List bB) (hx:bT f 1 l.tail= .ok (x,q)) (hrp:b6 eg q=false):Calls prog 156 #[.pointer (some ⟨g,0,none⟩)] w (nF g en w (cE (f+1) l)):=by
 have HRP:=G (iG (f:=f) hk3 hk4 hk1 (by rw[hmi,hno];rfl));have HX0:=G (O w (.cells #[.int .i64 0, .string ⟨#[]⟩, .string ⟨#[]⟩, .string ⟨#[]⟩, .int .i64 0, .slice none 0 0] 131));have HB0:=G (ai w 131 #[.int .i64 0, .string ⟨#[]⟩, .string ⟨#[]⟩, .string ⟨#[]⟩, .int .i64 0, .slice none 0 0]);have HN:=G (eb g _ en _ (h.ext HX0.out));have HP:=G h;have hgl:=h.lt;clear h;have HR1:=G (show cE (f+1) l=(bT f 1 l.tail).then fun x r=>(bP eg r).then fun _ r=> .ok (x,r)from by rw[HRP.out];unfold bP;rw[hlp];rfl);have hf':4*l.tail.length+2<=f:=by have:=aW hlp;omega
 clear HRP;have HR:=G (show cE (f+1) l= .error (q,3)from by rw[HR1.out,hx];show(bP eg q).then (fun _ r=>(Except.ok (x,r):PR Ex))=_;unfold bP;rw[hrp];rfl);clear HR1;generalize bV l=t at*;obtain⟨k,tx,v,fr⟩:=t;simp only at hk3 hk4 hk1 HN;have hb3:(k==3)=false:=beq_eq_false_iff_ne.2 hk3;have hb4:(k==4)=false:=beq_eq_false_iff_ne.2 hk4;have hb1:(k==1)=false:=beq_eq_false_iff_ne.2 hk1;go_enter func156,ntmps156;go_wp2_with (first|(go_at_call 116;refine HN.out.mono ?_;rintro e w1 ⟨rfl,hE⟩;have hpt:w.heap.size<w1.heap.size:=(by have:=HB0.out.lt;have:=bJ hE;omega);have HX1:=G (hE.alloc' (.cells #[.int .i64 k, .string (ae tx), .int .i64 v, .int .i64 fr] 116));have HB1:=G (HB0.out.ext HX1.out);have HT1:=G (ai w1 116 #[.int .i64 k, .string (ae tx), .int .i64 v, .int .i64 fr]);have hrc:=HB1.out.cell;have hrf:=HB1.out.frozen;have hrg:w.heap.size≠g:=(by omega);have hgr:g≠w.heap.size:=(by omega);clear hE HN;have HP1:=G ((HP.out.ext HX0.out).ext HX1.out))|(go_at_call 115;refine(gi g _ en ln _ HP1.out).mono ?_;rw[hmi];rintro e w2 ⟨rfl,hE⟩;have HX2:=G (HX1.out.trans hE);have HP2:=G (HP1.out.ext hE);have HB2:=G (HB1.out.ext hE);have HT2:=G (HT1.out.ext hE);clear hrc hrf;have hrc:=HB2.out.cell;have hrf:=HB2.out.frozen;clear HP1)|(go_at_call 115;refine(gi g _ en l8 _ HP2.out).mono ?_;rw[hno];rintro e w3 ⟨rfl,hE⟩;have HX3:=G (HX2.out.trans hE);have HP3:=G (HP2.out.ext hE);have HB3:=G (HB2.out.ext hE);have HT3:=G (HT2.out.ext hE);clear hrc hrf;have hrc:=HB3.out.cell;have hrf:=HB3.out.frozen;clear HP2)|(go_at_call 63;refine(dZ g _ en fi _ HP3.out hlp).mono ?_;rintro e w4 ⟨rfl,h1,h2⟩;have HP4:=G h1;have HG4:=G (ah ((HX0.out.trans HX3.out).grownBy _) h2);have HB4:=G (HB3.out.grown h2 (fun e=>hrg (M e)));clear h1 h2 HP3)|(go_at_call 141;refine(hEx 1 _ en _ g HP4.out (by decide) (by decide) hf').mono ?_;intro e w5 hh;rw[hx]at hh;obtain⟨hG,A,n,c,rfl,hR,hPA⟩:=hh;have HG5:=G (bX (ah HG4.out hG) ((O w5 (.cells #[.int .i64 x.k, .string (ae x.op), .string (ae x.nm), .string (ae x.tx), .int .i64 x.v, .slice A n c] 131)).grownBy (some w.heap.size)) (ag _));have HB5:=G ((HB4.out.grown hG (fun e=>hrg (M e))).alloc (.cells #[.int .i64 x.k, .string (ae x.op), .string (ae x.nm), .string (ae x.tx), .int .i64 x.v, .slice A n c] 131));have HV5:=G (ai w5 131 #[.int .i64 x.k, .string (ae x.op), .string (ae x.nm), .string (ae x.tx), .int .i64 x.v, .slice A n c]);have HP5:=G (hPA.ext (O w5 (.cells #[.int .i64 x.k, .string (ae x.op), .string (ae x.nm), .string (ae x.tx), .int .i64 x.v, .slice A n c] 131)));have hz4:w.heap.size+1<=w4.heap.size:=HB4.out.lt;have HRD5:=G (hR.keep (.of_ext (O w5 (.cells #[.int .i64 x.k, .string (ae x.op), .string (ae x.nm), .string (ae x.tx), .int .i64 x.v, .slice A n c] 131))) (fun b hb _=>aS hz4 hb));have hv5:w5.heap.size≠g:=(by have:=hPA.lt;omega);clear hG hR hPA HP4)|(go_at_call 63;refine(fV g _ en eg _ HP5.out hrp).mono ?_;unfold bi;rintro e w6 ⟨rfl,hG⟩;have HG6:=G (ah HG5.out hG);clear hG));exact⟨rfl,fY HR.out HG6.out⟩
theorem uw (f:Nat) (l:List bB) (en:Int) (w:World) (g:Nat) (h:PA w g l en) (hEx:eF f) (hf:4*l.length+1<=f+1) (hk3: ¬(bV l).k=3) (hk4: ¬(bV l).k=4) (hk1: ¬(bV l).k=1) (hmi:b6 ln l=false) (hno:b6 l8 l=false) (hlp:b6 fi l=true) (x:Ex) (q:List bB) (hx:bT f 1 l.tail= .ok (x,q)) (hrp:b6 eg q=true):Calls prog 156 #[.pointer (some ⟨g,0,none⟩)] w (nF g en w (cE (f+1) l)):=by
 have HRP:=G (iG (f:=f) hk3 hk4 hk1 (by rw[hmi,hno];rfl));have HX0:=G (O w (.cells #[.int .i64 0, .string ⟨#[]⟩, .string ⟨#[]⟩, .string ⟨#[]⟩, .int .i64 0, .slice none 0 0] 131));have HB0:=G (ai w 131 #[.int .i64 0, .string ⟨#[]⟩, .string ⟨#[]⟩, .string ⟨#[]⟩, .int .i64 0, .slice none 0 0]);have HN:=G (eb g _ en _ (h.ext HX0.out));have HP:=G h;have hgl:=h.lt;clear h;have HR1:=G (show cE (f+1) l=(bT f 1 l.tail).then fun x r=>(bP eg r).then fun _ r=> .ok (x,r)from by rw[HRP.out];unfold bP;rw[hlp];rfl);have hf':4*l.tail.length+2<=f:=by have:=aW hlp;omega
 clear HRP;have HR:=G (show cE (f+1) l= .ok (x,q.tail)from by rw[HR1.out,hx];show(bP eg q).then (fun _ r=>(Except.ok (x,r):PR Ex))=_;unfold bP;rw[hrp];rfl);clear HR1;generalize bV l=t at*;obtain⟨k,tx,v,fr⟩:=t;simp only at hk3 hk4 hk1 HN;have hb3:(k==3)=false:=beq_eq_false_iff_ne.2 hk3;have hb4:(k==4)=false:=beq_eq_false_iff_ne.2 hk4;have hb1:(k==1)=false:=beq_eq_false_iff_ne.2 hk1;go_enter func156,ntmps156;go_wp2_with (first|(go_at_call 116;refine HN.out.mono ?_;rintro e w1 ⟨rfl,hE⟩;have hpt:w.heap.size<w1.heap.size:=(by have:=HB0.out.lt;have:=bJ hE;omega);have HX1:=G (hE.alloc' (.cells #[.int .i64 k, .string (ae tx), .int .i64 v, .int .i64 fr] 116));have HB1:=G (HB0.out.ext HX1.out);have HT1:=G (ai w1 116 #[.int .i64 k, .string (ae tx), .int .i64 v, .int .i64 fr]);have hrc:=HB1.out.cell;have hrf:=HB1.out.frozen;have hrg:w.heap.size≠g:=(by omega);have hgr:g≠w.heap.size:=(by omega);clear hE HN;have HP1:=G ((HP.out.ext HX0.out).ext HX1.out))|(go_at_call 115;refine(gi g _ en ln _ HP1.out).mono ?_;rw[hmi];rintro e w2 ⟨rfl,hE⟩;have HX2:=G (HX1.out.trans hE);have HP2:=G (HP1.out.ext hE);have HB2:=G (HB1.out.ext hE);have HT2:=G (HT1.out.ext hE);clear hrc hrf;have hrc:=HB2.out.cell;have hrf:=HB2.out.frozen;clear HP1)|(go_at_call 115;refine(gi g _ en l8 _ HP2.out).mono ?_;rw[hno];rintro e w3 ⟨rfl,hE⟩;have HX3:=G (HX2.out.trans hE);have HP3:=G (HP2.out.ext hE);have HB3:=G (HB2.out.ext hE);have HT3:=G (HT2.out.ext hE);clear hrc hrf;have hrc:=HB3.out.cell;have hrf:=HB3.out.frozen;clear HP2)|(go_at_call 63;refine(dZ g _ en fi _ HP3.out hlp).mono ?_;rintro e w4 ⟨rfl,h1,h2⟩;have HP4:=G h1;have HG4:=G (ah ((HX0.out.trans HX3.out).grownBy _) h2);have HB4:=G (HB3.out.grown h2 (fun e=>hrg (M e)));clear h1 h2 HP3)|(go_at_call 141;refine(hEx 1 _ en _ g HP4.out (by decide) (by decide) hf').mono ?_;intro e w5 hh;rw[hx]at hh;obtain⟨hG,A,n,c,rfl,hR,hPA⟩:=hh;have HG5:=G (bX (ah HG4.out hG) ((O w5 (.cells #[.int .i64 x.k, .string (ae x.op), .string (ae x.nm), .string (ae x.tx), .int .i64 x.v, .slice A n c] 131)).grownBy (some w.heap.size)) (ag _));have HB5:=G ((HB4.out.grown hG (fun e=>hrg (M e))).alloc (.cells #[.int .i64 x.k, .string (ae x.op), .string (ae x.nm), .string (ae x.tx), .int .i64 x.v, .slice A n c] 131));have HV5:=G (ai w5 131 #[.int .i64 x.k, .string (ae x.op), .string (ae x.nm), .string (ae x.tx), .int .i64 x.v, .slice A n c]);have HP5:=G (hPA.ext (O w5 (.cells #[.int .i64 x.k, .string (ae x.op), .string (ae x.nm), .string (ae x.tx), .int .i64 x.v, .slice A n c] 131)));have hz4:w.heap.size+1<=w4.heap.size:=HB4.out.lt;have HRD5:=G (hR.keep (.of_ext (O w5 (.cells #[.int .i64 x.k, .string (ae x.op), .string (ae x.nm), .string (ae x.tx), .int .i64 x.v, .slice A n c] 131))) (fun b hb _=>aS hz4 hb));have hv5:w5.heap.size≠g:=(by have:=hPA.lt;omega);clear hG hR hPA HP4)|(go_at_call 63;refine(dZ g _ en eg _ HP5.out hrp).mono ?_;rintro e w6 ⟨rfl,h1,h2⟩;have HP6:=G h1;have HG6:=G (ah HG5.out h2);have HB6:=G (HB5.out.grown h2 (fun e=>hrg (M e)));have HV6:=G (HV5.out.grown h2 (fun e=>hv5 (M e)));have HRD6:=G (HRD5.out.keep (.of_grown h2 fun b hb e=>by injection e with e;omega) (fun b hb _=>hb));clear hrc hrf;have hrc:=HB6.out.cell;have hrf:=HB6.out.frozen;have hvc:=HV6.out.cell;clear h1 h2 HP5));obtain⟨hset,hfin⟩:=jU (x) x.k (ae x.op) (ae x.nm) (ae x.tx) x.v A n c HR.out rfl rfl rfl rfl rfl rfl HB6.out HG6.out HP6.out hgl HRD6.out;simp only[World.setCells,ak,Nat.reduceAdd]at hset hfin;exact bodyPost_ret (v:= .agg #[.int .i64 x.k, .string (ae x.op), .string (ae x.nm), .string (ae x.tx), .int .i64 x.v, .slice A n c]) (by simp[results,results156,go_sem,hset]) rfl hfin
theorem sY (f:Nat) (hE:eF f) (hP:ox f) (hN:ip f):ox (f+1):=by
 intro l en w g h hf;by_cases hk3:(bV l).k=3
 ·exact ur f l en w g h hk3
 by_cases hk4:(bV l).k=4
 ·exact uq f l en w g h hk4
 by_cases hk1:(bV l).k=1
 ·exact sZ f l en w g h hN hf hk1
 cases hmi:b6 ln l with
 |true=>exact ro f l en w g h hP hf hk3 hk4 hk1 hmi
 |false=>
  cases hno:b6 l8 l with
  |true=>exact ut f l en w g h hP hf hk3 hk4 hk1 hmi hno
  |false=>
   cases hlp:b6 fi l with
   |false=>exact s8 f l en w g h hE hf hk3 hk4 hk1 hmi hno hlp
   |true=>
    cases hx:bT f 1 l.tail with
    |error p=>exact s6 f l en w g h hE hf hk3 hk4 hk1 hmi hno hlp p.1 p.2 hx
    |ok p=>
     cases hrp:b6 eg p.2 with
     |false=>exact s7 f l en w g h hE hf hk3 hk4 hk1 hmi hno hlp p.1 p.2 hx hrp
     |true=>exact uw f l en w g h hE hf hk3 hk4 hk1 hmi hno hlp p.1 p.2 hx hrp
end
section
open Go.RowKit
structure Fr (base g px:Nat) (w w':World):Prop where
 os:w'.os=w.os
 tape:w'.tape=w.tape
 output:w'.output=w.output
 size:w.heap.size<=w'.heap.size
 block: ∀k,k<base->k≠g->k≠px->w'.heap[k]? =w.heap[k]?
theorem Fr.trans {base g px:Nat} {a b c:World} (h:Fr base g px a b) (k:Fr base g px b c):Fr base g px a c:=
 ⟨k.os.trans h.os,k.tape.trans h.tape,k.output.trans h.output,aS h.size k.size,fun i hi h1 h2=>(k.block i hi h1 h2).trans (h.block i hi h1 h2)⟩
theorem Fr.of_grown {base g px:Nat} {w w':World} {row:Option Nat} (h:w.grownBy w' row) (hb:base<=w.heap.size) (hr: ∀k,row=some k->k=g\/k=px\/base<=k):Fr base g px w w':=
 ⟨h.os,h.tape,h.output,h.size,fun k hk h1 h2=>h.block k (by omega) (fun e=>by rcases hr k e.symm with h|h|h<;>omega)⟩
theorem Fr.grown {base g px:Nat} {w0 w w':World} (h0:w0.grownBy w (some g)) (h:Fr base g px w w') (hp:w0.heap.size<=px) (hb:w0.heap.size<=base):w0.grownBy w' (some g):=
 ⟨h.os.trans h0.os,h.tape.trans h0.tape,h.output.trans h0.output,aS h0.size h.size,fun k hk hn=>(h.block k (by omega) (fun e=>hn (by rw[e])) (by omega)).trans (h0.block k hk hn)⟩
theorem Fr.blk {base g px k:Nat} {t:TypeId} {cs:Array Value} {w w':World} (h:Fr base g px w w') (hB:aT w k t cs) (hk:k<base) (h1:k≠g) (h2:k≠px):aT w' k t cs:=(h.block k hk h1 h2).trans hB
theorem zM:jw prog 74 131 6 88 (.agg #[.int .i64 0, .string ⟨#[]⟩, .string ⟨#[]⟩, .string ⟨#[]⟩, .int .i64 0, .slice none 0 0]):=⟨underlying74,by kernel_rfl,by rfl,by decide⟩
theorem rW {w:World} {base A n cap:Nat} {e:TypeId} {xs:List Value} {z0 z1 z2 z3 z4 z5:Value} (h:w.ownsRow base e 6 (.slice (some ⟨A,0,none⟩) (n+1) cap) (n+1) (xs++[z0,z1,z2,z3,z4,z5])) (hn:xs.length=n*6) (a b c d f i:Value):
  (w.setCells A (n*6) [a,b,c,d,f,i]).ownsRow base e 6 (.slice (some ⟨A,0,none⟩) (n+1) cap) (n+1) (xs++[a,b,c,d,f,i]):=by
 have st: ∀(zs:List Value) (j:Nat) (u:Value),(xs++zs).set (n*6+j) u=xs++zs.set j u:=fun zs j u=>by
  rw[List.set_append,if_neg (by omega)]
  congr 2
  omega
 have h0:=(h.stored (n*6+0) a).1;rw[st]at h0;have h1:=(h0.stored (n*6+1) b).1;rw[st]at h1;have h2:=(h1.stored (n*6+2) c).1;rw[st]at h2;have h3:=(h2.stored (n*6+3) d).1;rw[st]at h3;have h4:=(h3.stored (n*6+4) f).1;rw[st]at h4;have h5:=(h4.stored (n*6+5) i).1;rw[st]at h5;exact h5
theorem cg (w:World) (px i:Nat) (v:Value):w.grownBy (w.setCell ⟨px,i,none⟩ v) (some px):=bG px [v] i w
theorem zP {w:World} {base A px n cap:Nat} {e t:TypeId} {xs:List Value} {z0 z1 z2 z3 z4 z5 y0 y1 y2 y3 y4 y5:Value} (h:w.ownsRow base e 6 (.slice (some ⟨A,0,none⟩) (n+1) cap) (n+1) (xs++[z0,z1,z2,z3,z4,z5])) (hn:xs.length=n*6) (hx:aT w px t #[y0,y1,y2,y3,y4,y5]) (hp:px≠A) (a b c d f i v:Value):
  ((w.setCells A (n*6) [a,b,c,d,f,i]).setCell ⟨px,5,none⟩ v).ownsRow base e 6 (.slice (some ⟨A,0,none⟩) (n+1) cap) (n+1) (xs++[a,b,c,d,f,i])/\aT ((w.setCells A (n*6) [a,b,c,d,f,i]).setCell ⟨px,5,none⟩ v) px t #[y0,y1,y2,y3,y4,v]/\Fr w.heap.size A px w ((w.setCells A (n*6) [a,b,c,d,f,i]).setCell ⟨px,5,none⟩ v):=by
 have hg:=bG A [a,b,c,d,f,i] (n*6) w;have hs:=cg (w.setCells A (n*6) [a,b,c,d,f,i]) px 5 v;refine⟨bH (rW h hn a b c d f i) hs (.inr fun e=> ?_),?_,(Fr.of_grown hg (ag _) (fun k e=> .inl (M e).symm)).trans (Fr.of_grown hs hg.size (fun k e=> .inr (.inl (M e).symm)))⟩
 ·have e:A=px:=M e;exact hp e.symm
 ·have:=(hx.grown hg (fun e=>hp (M e))).set 5 v;simpa using this
theorem zO {w:World} {base A px n cap:Nat} {e t:TypeId} {xs:List Value} {z0 z1 z2 z3 z4 z5 y0 y1 y2 y3 y4 y5:Value} (h:w.ownsRow base e 6 (.slice (some ⟨A,0,none⟩) (n+1) cap) (n+1) (xs++[z0,z1,z2,z3,z4,z5])) (hn:xs.length=n*6) (hx:aT w px t #[y0,y1,y2,y3,y4,y5]) (hp:px≠A) (a b c d f i v:Value):
  ((w.setCell ⟨px,5,none⟩ v).setCells A (n*6) [a,b,c,d,f,i]).ownsRow base e 6 (.slice (some ⟨A,0,none⟩) (n+1) cap) (n+1) (xs++[a,b,c,d,f,i])/\aT ((w.setCell ⟨px,5,none⟩ v).setCells A (n*6) [a,b,c,d,f,i]) px t #[y0,y1,y2,y3,y4,v]/\Fr w.heap.size A px w ((w.setCell ⟨px,5,none⟩ v).setCells A (n*6) [a,b,c,d,f,i]):=by
 have hs:=cg w px 5 v;have hg:=bG A [a,b,c,d,f,i] (n*6) (w.setCell ⟨px,5,none⟩ v);refine⟨rW (bH h hs (.inr fun e=> ?_)) hn a b c d f i,?_,(Fr.of_grown hs (ag _) (fun k e=> .inr (.inl (M e).symm))).trans (Fr.of_grown hg hs.size (fun k e=> .inl (M e).symm))⟩
 ·have e:A=px:=M e;exact hp e.symm
 ·have:=(hx.set 5 v).grown hg (fun e=>hp (M e));simpa using this
theorem eV.snocK {w w':World} {base:Nat} {e:TypeId} {v:Value} {l:List (Ex×Value)} {x:Ex} {a:Value} {A n cap:Nat} (h:eV w base e v l) (ha:bZ w (fun b=>base<=b/\some b≠v.ownBlock) a x.args) (hl:l.length=n)
  (hn:w'.ownsRow base e 6 (.slice (some ⟨A,0,none⟩) (n+1) cap) (n+1) (fe l++qK x a)) (hk:cV (fun b=>base<=b/\some b≠v.ownBlock) w w') (hA:some A=v.ownBlock\/A=w.heap.size):
  eV w' base e (.slice (some ⟨A,0,none⟩) (n+1) cap) (l++[(x,a)]):=by
 subst hl;have hq: ∀b,(base<=b/\some b≠v.ownBlock)->b<w.heap.size->(base<=b/\some b≠Value.ownBlock (.slice (some ⟨A,0,none⟩) (l.length+1) cap)):=fun b hb hlt=>by
  refine⟨hb.1,fun e=> ?_⟩;have e:b=A:=M e;rcases hA with hA|hA
  ·exact hb.2 (by rw[e,hA])
  ·omega
 refine⟨by rw[aa,oh];simpa[fe]using hn,fun p hp=> ?_⟩;rcases List.mem_append.1 hp with hp|hp
 ·exact(h.2 p hp).keep hk hq
 ·rw[cS]at hp;subst hp;exact ha.keep hk hq
theorem wC {w w8 w9 W:World} {base g px A' n cap cap' m:Nat} {C A:Option Addr} {c:Nat} {nm:List UInt8} {acc:List (Ex×Value)} {x:Ex} {q:List bB} {en:Int} (hn:acc.length=n) (hbase:base<=w.heap.size) (hg:g<px) (hpx:px<base)
  (hG8:w.grownBy w8 (some g)) (hO8:eV w8 base 131 (.slice C n cap) acc) (h3:bZ w8 (fun b=>w.heap.size<=b) (.slice A m c) x.args) (h4:PA w8 g q en) (hO:eV w base 131 (.slice C n cap) acc)
  (hq2:w8.grownBy w9 (Value.ownBlock (.slice C n cap))) (hq3:some A'=Value.ownBlock (.slice C n cap)\/A'=w8.heap.size)
  (hW:W.ownsRow base 131 6 (.slice (some ⟨A',0,none⟩) (n+1) cap') (n+1) (fe acc++qK x (.slice A m c))) (hX:aT W px 131 #[.int .i64 5, .string ⟨#[]⟩, .string (ae nm), .string ⟨#[]⟩, .int .i64 0, .slice (some ⟨A',0,none⟩) (n+1) cap'])
  (hF:Fr w9.heap.size A' px w9 W):
  Fr base g px w W/\PA W g q en/\ ∃C' cap' a,aT W px 131 #[.int .i64 5, .string ⟨#[]⟩, .string (ae nm), .string ⟨#[]⟩, .int .i64 0, .slice C' (n+1) cap']/\eV W base 131 (.slice C' (n+1) cap') (acc++[(x,a)]):=by
 have hr: ∀k,Value.ownBlock (.slice C n cap)=some k->base<=k/\k<w.heap.size:=fun k hk=>aJ hO.1 k hk;have hA8:base<=A':=by
  have:=hG8.size;rcases hq3 with h|h
  ·exact(hr A' h.symm).1
  ·omega
 have hz8:=hG8.size;have hz9:=hq2.size;have hF9:Fr base g px w w9:=(Fr.of_grown hG8 hbase (fun k e=>by injection e with e;omega)).trans (Fr.of_grown hq2 (by omega) (fun k e=>by have:=hr k e;omega));have hFW:Fr base g px w W:=⟨hF.os.trans hF9.os,hF.tape.trans hF9.tape,hF.output.trans hF9.output,aS hF9.size hF.size,fun k hk h1 h2=>(hF.block k (by omega) (by omega) h2).trans (hF9.block k hk h1 h2)⟩
 have hP9:=h4.grown hq2 (fun k e=>by have:=hr k e;omega);refine⟨hFW,?_,_,cap',_,hX,hO8.snocK (h3.mono fun b hb _=>⟨by omega,fun e=>by have:=hr b e.symm;omega⟩) hn hW ⟨by have:=hF.size;omega,fun b hP hb=> ?_⟩ hq3⟩
 ·obtain⟨A1,c1,hb,ht,hn1⟩:=hP9;have hbg: ∀k,k<=g->k<w9.heap.size->W.heap[k]? =w9.heap[k]? :=fun k hk hk'=>hF.block k hk' (by omega) (by omega);refine⟨A1,c1,(hbg g (ag _) hb.lt).trans hb,⟨ht.le,ht.max,?_⟩,hn1⟩;by_cases hl:q=[]
  ·exact .inl hl
  rcases ht.rd with h0|⟨b,off,ha,hlt,hc⟩
  ·exact absurd h0 hl
  ·have hbk:=hbg b (by have:=hn1 b off ha hl;omega) hlt;have cc: ∀o,W.cell? ⟨b,o,none⟩=w9.cell? ⟨b,o,none⟩:=fun o=>b8 (w:=w9) (a:=⟨b,o,none⟩) hbk;exact .inr ⟨b,off,ha,by have:=hF.size;omega,fun i hi=>let⟨q0,q1,q2,q3⟩:=hc i hi;⟨(cc _).trans q0,(cc _).trans q1,(cc _).trans q2,(cc _).trans q3⟩⟩
 ·refine(hF.block b (by omega) (fun e=> ?_) (by omega)).trans (hq2.block b hb hP.2);rcases hq3 with h|h
  ·exact hP.2 (by rw[e,h])
  ·omega
theorem x6 (f:Nat) (hEx:eF f) (base g px pb:Nat) (nm:List UInt8) (l:List bB) (en:Int) (w:World) (acc:List (Ex×Value)) (C:Option Addr) (n cap:Nat)
  (hP:PA w g l en) (hb:aT w pb 83 #[.pointer (some ⟨g,0,none⟩)]) (hx:aT w px 131 #[.int .i64 5, .string ⟨#[]⟩, .string (ae nm), .string ⟨#[]⟩, .int .i64 0, .slice C n cap])
  (hO:eV w base 131 (.slice C n cap) acc) (hn:acc.length=n) (hbase:base<=w.heap.size) (hg:g<px) (hgp:g<pb) (hpp:pb≠px) (hpx:px<base) (hpb:pb<base) (hf:4*l.length+2<=f) (hnb:n<=100000)
  (x:Ex) (q:List bB) (he:bT f 1 l= .ok (x,q)):
  Calls prog 172 #[.pointer (some ⟨px,0,none⟩), .pointer (some ⟨pb,0,none⟩)] w fun e w'=>e= .returned (.tuple #[])/\Fr base g px w w'/\PA w' g q en/\
   ∃C' cap' a,aT w' px 131 #[.int .i64 5, .string ⟨#[]⟩, .string (ae nm), .string ⟨#[]⟩, .int .i64 0, .slice C' (n+1) cap']/\eV w' base 131 (.slice C' (n+1) cap') (acc++[(x,a)]):=by
 have HP:=G hP;have HB:=G hb;have HX:=G hx;have HO:=G hO;have hgw:g<w.heap.size:=hP.lt;have hxg:px≠g:=by omega
 have hbg:pb≠g:=by omega
 clear hP hb hx hO;go_enter func172,ntmps172
 refine jB 6 0 [(3,fun v=> ∃A n c,v= .agg #[.int .i64 x.k, .string (ae x.op), .string (ae x.nm), .string (ae x.tx), .int .i64 x.v, .slice A n c],fun v wx=> ∀A n c,v= .agg #[.int .i64 x.k, .string (ae x.op), .string (ae x.nm), .string (ae x.tx), .int .i64 x.v, .slice A n c]->bZ wx (fun b=>w.heap.size<=b) (.slice A n c) x.args/\PA wx g q en),
   (5,fun v=> ∃gb,v= .slice (some ⟨gb,0,none⟩) 1 1,fun v wx=> ∀gb,v= .slice (some ⟨gb,0,none⟩) 1 1->w.heap.size<=gb/\aT wx gb 131 #[.int .i64 0, .string ⟨#[]⟩, .string ⟨#[]⟩, .string ⟨#[]⟩, .int .i64 0, .slice none 0 0])] 3 (some g) mixed (by kernel_rfl)
  ⟨fun _ _ _ h hx A n c e=>⟨(h A n c e).1.keep (.of_ext hx) (fun _ hb _=>hb),(h A n c e).2.ext hx⟩,fun _ _ _ h hx gb e=>⟨(h gb e).1,(h gb e).2.ext hx⟩,trivial⟩
  ⟨.inl rfl, .inr fun _ _ _ h hx gb e=>⟨(h gb e).1,(h gb e).2.grown hx (fun e'=>by have:=(h gb e).1;injection e' with e';omega)⟩,trivial⟩ ?_
 repeat (refine sx ?_ (fun w1 hU=> ?_) ?_;rotate_left;(focus have f1:=(HX.out.grown (aD hU) (fun e=>hxg (M e))).cell;have f2:=(HB.out.grown (aD hU) (fun e=>hbg (M e))).cell;clear hU;go_simp<;>with_reducible rfl);simp only[bf,be,bc,a_,a8])
 refine ce _ _ (by rfl) rfl ⟨_,none,0,0,rfl⟩ rfl (fun w6 hT hp K hK=> ?_) ?_
 ·clear hp;have hc:=hEx 1 l en w6 g (HP.out.ext hT.un) (by decide) (by decide) hf;have HT6:=G hT.un;clear hT;go_simp;refine hc.mono ?_;intro e w7 hh;rw[he]at hh;obtain⟨hG,A,n,c,rfl,hR,hPA⟩:=hh;exact hK _ _ hG ⟨_,_,_,rfl⟩ (fun A' n' c' e=>by injection e with e;simp only[cI,cw,b_,and_true,true_and]at e;obtain⟨rfl,rfl,rfl⟩:=e;exact⟨hR.mono (fun b hb _=>aS (bJ HT6.out) hb),hPA⟩)
 rintro _ ⟨A,m,c,rfl⟩;simp only[bf,be,bc,a_,a8];repeat (refine sx ?_ (fun w1 hU=> ?_) ?_;rotate_left;(focus have f1:=(HX.out.grown (aD hU) (fun e=>hxg (M e))).cell;have f2:=(HB.out.grown (aD hU) (fun e=>hbg (M e))).cell;clear hU;go_simp<;>with_reducible rfl);simp only[bf,be,bc,a_,a8])
 refine bw _ _ (by rfl) rfl ⟨_,0,rfl⟩ (by simp) (fun w6 hU hp K hK=> ?_) ?_
 ·have hz6:=(aD hU).size;clear hp hU;go_simp;exact hK _ _ (O w6 _) ⟨_,rfl⟩ (fun gb e=>by injection e with e;injection e with e;injection e with e;subst e;exact⟨hz6,ai w6 _ _⟩)
 rintro _ ⟨gb,rfl⟩;simp only[bf,be,bc,a_,a8];intro w8 hw8 hp;obtain⟨hz5,h5⟩:=hp _ (.head _) gb rfl;obtain⟨h3,h4⟩:=hp _ (.tail _ (.head _)) A m c rfl;clear hp;have hG8:=aD hw8;have hx8:=HX.out.grown hG8 (fun e=>hxg (M e));have hO8:=HO.out.grown hG8 (fun k e=>by injection e with e;omega);have hz8:=hG8.size;refine eU [6] (by kernel_rfl) (by simp) (fun i hi=> ?_);obtain rfl:i=6:=by simpa using hi
 refine dD rfl (by rfl) ?_;refine oC zM _ _ rfl base _ n (fe acc) rfl (by rw[<-hn];exact hn▸hO8.1) gb [.int .i64 0, .string ⟨#[]⟩, .string ⟨#[]⟩, .string ⟨#[]⟩, .int .i64 0, .slice none 0 0] rfl h5 rfl (by decide) (by omega) (by decide) (by omega) ?_;intro A' cap' w9 hq1 hq2 hq3;have hni:(n:Int)<(n:Int)+1:=by omega
 have hle:(fe acc).length=n*6:=by rw[lc,hn]
 have hc9: ∀i,i<6->w9.cell? ⟨A',n*6+i,none⟩=([.int .i64 0, .string ⟨#[]⟩, .string ⟨#[]⟩, .string ⟨#[]⟩, .int .i64 0, .slice none 0 0]:List Value)[i]? :=fun i hi=>by
  rw[hq1.cellAt (n*6+i) (by omega),cF (by omega)]
  congr 1
  omega
 have e0:=hc9 0 (by omega);have e1:=hc9 1 (by omega);have e2:=hc9 2 (by omega);have e3:=hc9 3 (by omega);have e4:=hc9 4 (by omega);have e5:=hc9 5 (by omega);have g0:=hq1.frozenAt (n*6);have g1:=hq1.frozenAt (n*6+1);have g2:=hq1.frozenAt (n*6+2);have g3:=hq1.frozenAt (n*6+3);have g4:=hq1.frozenAt (n*6+4);have g5:=hq1.frozenAt (n*6+5);rw[bp]at e0;have hrow: ∀k,Value.ownBlock (.slice C n cap)=some k->base<=k/\k<w.heap.size:=fun k hk=>aJ HO.out.1 k hk;have hAb:base<=A':=by
  rcases hq3 with h|h
  ·exact(hrow A' h.symm).1
  ·omega
 have hx9:=hx8.grown hq2 (fun e=>by have:=hrow px e.symm;omega);have hpxc:=hx9.cell;have hpxf:=hx9.frozen;have hAp:A'≠px:=by omega
 have hpA:px≠A':=by omega
 have hz9:=hq2.size;have CF:=G (fun W cap'=>wC (W:=W) (cap':=cap') (nm:=nm) hn hbase hg hpx hG8 hO8 h3 h4 HO.out hq2 hq3);have PA':=G (zP hq1 hle hx9 hpA (.int .i64 x.k) (.string (ae x.op)) (.string (ae x.nm)) (.string (ae x.tx)) (.int .i64 x.v) (.slice A m c) (.slice (some ⟨A',0,none⟩) (n+1) cap'));have PB':=G (zO hq1 hle hx9 hpA (.int .i64 x.k) (.string (ae x.op)) (.string (ae x.nm)) (.string (ae x.tx)) (.int .i64 x.v) (.slice A m c) (.slice (some ⟨A',0,none⟩) (n+1) cap'));clear hc9 hx9 hrow;refine eU [7,9] (by kernel_rfl) (by simp) (fun i hi=> ?_);have hi:i=7\/i=9:=by simpa using hi
 rcases hi with rfl|rfl
 ·refine dD rfl (by rfl) ?_;go_simp;try simp only[bf,be,bc,a_,a8]
  refine eU [8,9] (by kernel_rfl) (by simp) (fun i hi=> ?_);have hi:i=8\/i=9:=by simpa using hi
  rcases hi with rfl|rfl
  ·refine dD rfl (by rfl) ?_;go_simp;try simp only[bf,be,bc,a_,a8]
   refine eU [9] (by kernel_rfl) (by simp) (fun i hi=> ?_);obtain rfl:i=9:=by simpa using hi
   refine dD rfl (by rfl) ?_;go_simp;try simp only[bf,be,bc,a_,a8]
   refine eU [10] (by kernel_rfl) (by simp) (fun i hi=> ?_);obtain rfl:i=10:=by simpa using hi
   refine dD rfl (by rfl) ?_;go_simp;try simp only[bf,be,bc,a_,a8]
   refine jh (by kernel_rfl) ?_;obtain⟨q1,q2,q3⟩:=PA'.out;have fin:=CF.out _ _ q1 q2 q3;simp only[World.setCells,dG,Nat.reduceAdd]at fin
   go_end0
   obtain⟨f1,f2,C',c',a,f3,f4⟩:=fin;first|exact⟨rfl,f1,f2,C',c',a,f3,f4⟩|exact⟨rfl,f1,f2,C',c',f3,a,f4⟩
  ·refine dD rfl (by rfl) ?_;go_simp;try simp only[bf,be,bc,a_,a8]
   refine eU [8,10] (by kernel_rfl) (by simp) (fun i hi=> ?_);have hi:i=8\/i=10:=by simpa using hi
   rcases hi with rfl|rfl
   ·refine dD rfl (by rfl) ?_;go_simp;try simp only[bf,be,bc,a_,a8]
    refine eU [10] (by kernel_rfl) (by simp) (fun i hi=> ?_);obtain rfl:i=10:=by simpa using hi
    refine dD rfl (by rfl) ?_;go_simp;try simp only[bf,be,bc,a_,a8]
    refine jh (by kernel_rfl) ?_;obtain⟨q1,q2,q3⟩:=PA'.out;have fin:=CF.out _ _ q1 q2 q3;simp only[World.setCells,dG,Nat.reduceAdd]at fin
    go_end0
    obtain⟨f1,f2,C',c',a,f3,f4⟩:=fin;first|exact⟨rfl,f1,f2,C',c',a,f3,f4⟩|exact⟨rfl,f1,f2,C',c',f3,a,f4⟩
   ·refine dD rfl (by rfl) ?_;go_simp;try simp only[bf,be,bc,a_,a8]
    refine eU [8] (by kernel_rfl) (by simp) (fun i hi=> ?_);obtain rfl:i=8:=by simpa using hi
    refine dD rfl (by rfl) ?_;go_simp;try simp only[bf,be,bc,a_,a8]
    refine jh (by kernel_rfl) ?_;obtain⟨q1,q2,q3⟩:=PB'.out;have fin:=CF.out _ _ q1 q2 q3;simp only[World.setCells,dG,Nat.reduceAdd]at fin
    go_end0
    obtain⟨f1,f2,C',c',a,f3,f4⟩:=fin;first|exact⟨rfl,f1,f2,C',c',a,f3,f4⟩|exact⟨rfl,f1,f2,C',c',f3,a,f4⟩
 ·refine dD rfl (by rfl) ?_;go_simp;try simp only[bf,be,bc,a_,a8]
  refine eU [7,10] (by kernel_rfl) (by simp) (fun i hi=> ?_);have hi:i=7\/i=10:=by simpa using hi
  rcases hi with rfl|rfl
  ·refine dD rfl (by rfl) ?_;go_simp;try simp only[bf,be,bc,a_,a8]
   refine eU [8,10] (by kernel_rfl) (by simp) (fun i hi=> ?_);have hi:i=8\/i=10:=by simpa using hi
   rcases hi with rfl|rfl
   ·refine dD rfl (by rfl) ?_;go_simp;try simp only[bf,be,bc,a_,a8]
    refine eU [10] (by kernel_rfl) (by simp) (fun i hi=> ?_);obtain rfl:i=10:=by simpa using hi
    refine dD rfl (by rfl) ?_;go_simp;try simp only[bf,be,bc,a_,a8]
    refine jh (by kernel_rfl) ?_;obtain⟨q1,q2,q3⟩:=PA'.out;have fin:=CF.out _ _ q1 q2 q3;simp only[World.setCells,dG,Nat.reduceAdd]at fin
    go_end0
    obtain⟨f1,f2,C',c',a,f3,f4⟩:=fin;first|exact⟨rfl,f1,f2,C',c',a,f3,f4⟩|exact⟨rfl,f1,f2,C',c',f3,a,f4⟩
   ·refine dD rfl (by rfl) ?_;go_simp;try simp only[bf,be,bc,a_,a8]
    refine eU [8] (by kernel_rfl) (by simp) (fun i hi=> ?_);obtain rfl:i=8:=by simpa using hi
    refine dD rfl (by rfl) ?_;go_simp;try simp only[bf,be,bc,a_,a8]
    refine jh (by kernel_rfl) ?_;obtain⟨q1,q2,q3⟩:=PB'.out;have fin:=CF.out _ _ q1 q2 q3;simp only[World.setCells,dG,Nat.reduceAdd]at fin
    go_end0
    obtain⟨f1,f2,C',c',a,f3,f4⟩:=fin;first|exact⟨rfl,f1,f2,C',c',a,f3,f4⟩|exact⟨rfl,f1,f2,C',c',f3,a,f4⟩
  ·refine dD rfl (by rfl) ?_;go_simp;try simp only[bf,be,bc,a_,a8]
   refine eU [7] (by kernel_rfl) (by simp) (fun i hi=> ?_);obtain rfl:i=7:=by simpa using hi
   refine dD rfl (by rfl) ?_;go_simp;try simp only[bf,be,bc,a_,a8]
   refine eU [8] (by kernel_rfl) (by simp) (fun i hi=> ?_);obtain rfl:i=8:=by simpa using hi
   refine dD rfl (by rfl) ?_;go_simp;try simp only[bf,be,bc,a_,a8]
   refine jh (by kernel_rfl) ?_;obtain⟨q1,q2,q3⟩:=PB'.out;have fin:=CF.out _ _ q1 q2 q3;simp only[World.setCells,dG,Nat.reduceAdd]at fin
   go_end0
   obtain⟨f1,f2,C',c',a,f3,f4⟩:=fin;first|exact⟨rfl,f1,f2,C',c',a,f3,f4⟩|exact⟨rfl,f1,f2,C',c',f3,a,f4⟩
def cR:=@Fr.of_grown
def ji:=@Fr.grown
end
end Go.Proofs.YtelplgkppalmfaaGreatDoor
