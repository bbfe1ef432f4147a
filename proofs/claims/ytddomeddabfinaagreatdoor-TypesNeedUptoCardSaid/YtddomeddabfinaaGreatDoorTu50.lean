/-
  Parts of the proof: RcI.
-/
import Derived.Test.YtddomeddabfinaaGreatDoorTu00
import Derived.BigQuiet
import Derived.Test.YtddomeddabfinaaGreatDoorTu45
import Derived.Test.YtddomeddabfinaaGreatDoorTu49
import Derived.Test.YtddomeddabfinaaGreatDoorTu23
set_option maxRecDepth 100000
set_option maxHeartbeats 8000000
set_option linter.unusedVariables false
set_option linter.unusedSimpArgs false
set_option linter.unusedSectionVars false
namespace Go.Proofs.YtddomeddabfinaaGreatDoor
open Go.Proofs.Tryz
open Go.RowKit
theorem vy {g:Nat} {v v':Value} {w W W':World} (hE:au w W) (hl:LG g v W v' W') (hg:w.heap.size<=g) (hv: ∀k,v.ownBlock=some k->w.heap.size<=k):au w W':=
 ((jQ (S:=fun k=>k=g\/some k=v.ownBlock) hE).trans hl.mv).ext fun k hk hs=>by
  rcases hs with h|h
  ·omega
  ·have:=hv k h.symm;omega
theorem zy {gl:Gl} {lo:Ls} {l:List (List UInt8)} {j:Nat} (h:j<l.length):im gl lo (l.drop j)=if gl.known lo l[j]=true then .error (l[j],9)else im gl (lo.add l[j]) (l.drop (j+1)):=by
 rw[ay h,im]
theorem zz {gl:Gl} {l:List Fc} {j:Nat} (h:j<l.length):fd gl (l.drop j)=CR.then (im gl ek l[j].ps) fun lo=>CR.then (dm gl lo l[j].body) fun _=>fd gl (l.drop (j+1)):=by
 rw[ay h,fd]
theorem xK {l:List Fc} {j:Nat} (h:j<l.length):cY (l.drop j)=if 20<l[j].ps.length+cC l[j].body\/jN l[j].body=true then .error (l[j].nm,6)else cY (l.drop (j+1)):=by
 rw[ay h,cY]
theorem pY:b7 []=ek:=by funext s;rfl
theorem xL {p:Pg} (h:fa p=true):gO p=ip (fT p):=by unfold gO ip;rw[if_pos h];cases fT p<;>rfl
theorem vj {p:Pg}:fT p=CR.then (iU p) fun _=>match ji p with| .error e=> .error e| .ok g=>CR.then (fd g p.fs) fun _=>cY p.fs:=by
 rw[iR];unfold fT
 cases ji p<;>rfl
theorem mo (p:Pg) (hw:jS p<=6000000) (P0:Nat->Prop) (w:World) (A B:Option Addr) (n c m d:Nat) (hV0:fH w P0 (.slice A n c) p.vs) (hF0:fO w P0 (.slice B m d) p.fs):
  Calls prog 15 #[.agg #[.slice A n c, .slice B m d]] w fun e w'=>e= .returned (.tuple #[.string (ag (gO p).1), .int .i64 (gO p).2])/\au w w':=by
 have hV:=hV0.keep (Q:=fun b=>b<w.heap.size) ⟨an _,fun _ _ _=>rfl⟩ (fun b h1 h2=>h2);have hF:=hF0.keep (Q:=fun b=>b<w.heap.size) ⟨an _,fun _ _ _=>rfl⟩ (fun b h1 h2=>h2);have hmn:=hF.ln;have HMN:=G hmn;have HW:=G hw;have HV:=G (fun(W:World) (h:au w W)=>hV.keep (.of_ext h) (Q:=fun b=>b<w.heap.size) (fun _ hb _=>hb));have HF0:=G hF;have HF:=G (fun(W:World) (h:au w W)=>hF.keep (.of_ext h) (Q:=fun b=>b<w.heap.size) (fun _ hb _=>hb));have HE0:=G (O w (.cells #[.slice A n c, .slice B m d] 25));have HP0:=G (ax w 25 #[.slice A n c, .slice B m d]);have HVD:=G (fun W (h:au w W)=>uy p hw (fun b=>b<w.heap.size) W A B n c m d (HV.out W h) (HF.out W h));have c0:=HP0.out.cell;clear hV0 hF0 hV hF hw
 cases hok:fa p with
 |false=>
  have HQ:=G (show gO p=([],1) by unfold gO;rw[if_neg (by rw[hok];decide)]);rw[hok]at HVD;clear hok;go_enter func15,ntmps15;go_wp2_with (go_at_call 39;refine(HVD.out _ HE0.out).mono ?_;rintro e w1 ⟨rfl,hE⟩;have HX1:=G (HE0.out.trans hE);clear hE HVD);exact bodyPost_ret (v:= .tuple #[.string ⟨#[]⟩, .int .i64 1]) (by simp[results,results15,go_sem]) rfl ⟨by rw[HQ.out];rfl,HX1.out⟩
 |true=>
  rw[hok]at HVD;have hS:zY p:=by
   have:=hok;unfold fa at this;simp only[ak,decide_eq_true_eq]at this;exact⟨by omega,by omega⟩
  have hmb:=hS.f;rw[hmn]at hmb;have HS:=G hS;have HNM:=G (fun W (h:au w W)=>qO p hS (fun b=>b<w.heap.size) W A B n c m d (HV.out W h) (HF.out W h));have HPr:=G (xL hok);have HFok:=G (show p.fs.all je=true by have:=hok;unfold fa at this;simp only[ak]at this;exact this.1.1.1.2);have hcks:=vj (p:=p);obtain⟨R,hR⟩: ∃R,fT p=R:=⟨_,rfl⟩
  rw[hR]at hcks;rw[hR]at HPr;clear hok hR;have VA:True:=trivial
  cases htp:ji p with
  |error er=>
   obtain⟨ea,eb⟩:=er;have hnm:iU p= .error (ea,eb):=by rw[iR,htp];rfl
   have hne:(eb==(0:Int))=false:=by
    have h2:NZ (ji p):=by
     have:=ze p;unfold fT at this;rw[htp]at this⊢;exact this
    rw[htp]at h2;exact beq_eq_false_iff_ne.2 h2
   have hne':=kM hne;have HF9:=G (show R= .error (ea,eb) by rw[hcks,hnm];rfl);rw[hnm]at HNM;clear hcks hnm htp;go_enter func15,ntmps15;go_wp2_with (first|(go_at_call 39;refine(HVD.out _ HE0.out).mono ?_;rintro e w1 ⟨rfl,hE⟩;have HX1:=G (HE0.out.trans hE);clear c0;have c0:=(HP0.out.ext hE).cell;clear hE HVD)|(go_at_call 40;refine(HNM.out _ HX1.out).mono ?_;unfold qV ip;rintro e w2 ⟨rfl,hE⟩;have HX2:=G ((HX1.out.trans hE).trans (O w2 (.cells #[.string (ag ea), .int .i64 eb] 112)));have c2:=(ax w2 112 #[.string (ag ea), .int .i64 eb]).cell;clear hE HNM)|go_quiet (fail));exact bodyPost_ret (v:= .tuple #[.string (ag ea), .int .i64 eb]) (by simp[results,results15,go_sem]) rfl ⟨by rw[HPr.out,HF9.out];rfl,HX2.out.drewN _⟩
  |ok gl=>
   have hG:=wG htp;have hnm:iU p= .ok ():=by rw[iR,htp];rfl
   rw[hnm,htp]at hcks;have HQ0:=G (show CR.then (fd gl (p.fs.drop 0)) (fun _=>cY p.fs)=R from hcks.symm);rw[hnm]at HNM;have HPZ:=G (show ip (.ok ():CR)=([],0)from rfl);clear hcks hnm htp;go_enter func15,ntmps15;go_wp2_with (first|(go_at_call 39;refine(HVD.out _ HE0.out).mono ?_;rintro e w1 ⟨rfl,hE⟩;have HX1:=G (HE0.out.trans hE);have HP1:=G (HP0.out.ext hE);clear c0;have c0:=HP1.out.cell;clear hE HVD)|(go_at_call 40;refine(HNM.out _ HX1.out).mono ?_;unfold qV ip;rintro e w2 ⟨rfl,hE⟩;have HX2:=G ((HX1.out.trans hE).trans (O w2 (.cells #[.string (ag []), .int .i64 0] 112)));have HP2:=G (HP1.out.ext (hE.trans (O w2 (.cells #[.string (ag []), .int .i64 0] 112))));have c2:=(ax w2 112 #[.string (ag []), .int .i64 0]).cell;clear c0;have c0:=HP2.out.cell;clear hE HNM));clear c2 c0
   go_loopw [5] (fun vi wr=> ∃(j:Nat),vi= .int .i64 (j:Int)/\j<=m/\Hid (CR.then (fd gl (p.fs.drop j)) (fun _=>cY p.fs)=R)/\Hid (au w wr)/\Hid (aO wr w.heap.size 25 #[.slice A n c, .slice B m d])) (fun vi _=>m-(intOf vi).toNat)
   case atStart=>exact⟨0,rfl,az _,HQ0,HX2,HP2⟩
   case round=>
    obtain⟨j,rfl,hj,HQ,HX,HPB⟩:=hrel;clear HX1 HX2 HP1 HP2 HQ0;have c0:=HPB.out.cell;generalize wr=wo at*;by_cases hlt:j<m
    ·have hlt':(j:Int)<m:=by omega
     have hjl:j<p.fs.length:=by have:=HMN.out;omega
     obtain⟨b,o,pv,bv,rfl,hP,hb,h0,h1,h2,hN1,hS1⟩:=HF0.out.at0 j hjl;have hFd:=zz (gl:=gl) hjl;have hfw:=jd (ai hjl)|>fun h=>a_ h HW.out;have hfo:=List.all_eq_true.1 HFok.out _ (ai hjl);obtain⟨f,hf⟩: ∃f,p.fs[j]=f:=⟨_,rfl⟩
     rw[hf]at h0 hN1 hS1 hFd hfw hfo;clear hf;obtain⟨nm,ps,bd⟩:=f;simp only at h0 hN1 hS1 hFd hfw hfo;obtain⟨pA,pc,rfl,_⟩:=id hN1;obtain⟨bA,bc,rfl,_⟩:=hS1.form;obtain⟨M,hM⟩: ∃z,ps.length=z:=⟨_,rfl⟩
     rw[hM]at h1 hN1;have HM:=G hM;unfold je at hfo;simp only[ak,decide_eq_true_eq]at hfo;have hp4:ps.length<=4:=hfo.1.1.2;have hMb:M<=4:=by omega
     unfold Fc.wt at hfw;simp only at hfw;have hwb:dq bd<=6000000:=by omega
     have hokb:iM bd=true:=by
      rw[dX,bG];intro s hs;have:=List.all_eq_true.1 hfo.2 s hs;simp only[ak]at this;exact this.2
     have g0:=(HX.out.cell b _ hb).trans h0;have g1:=(HX.out.cell b _ hb).trans h1;have g2:=(HX.out.cell b _ hb).trans h2;have HPS:=G hN1;have HBD:=G hS1;obtain⟨g,hg⟩: ∃g,wo.heap.size=g:=⟨_,rfl⟩
     have hgz:w.heap.size<=g:=hg▸HX.out.size;have hwg:w.heap.size<g:=hg▸HPB.out.lt;have hea:=O wo (.cells #[.slice A n c, .slice (some ⟨b,o,none⟩) m d, .slice none 0 0] 116);have heb:=hea.alloc' (.cells #[.string (ag nm), .slice pA M pc, .slice bA bd.length bc] 63);have HX1:=G (HX.out.trans heb);have HB1:=G (HPB.out.ext heb);have HKA:=G (show RK p (fun b=>b<w.heap.size) g (g+2) A (some ⟨b,o,none⟩) none n c m d 0 0 [] _ from⟨by rw[<-hg];exact(ax wo 116 #[.slice A n c, .slice (some ⟨b,o,none⟩) m d, .slice none 0 0]).alloc (.cells #[.string (ag nm), .slice pA M pc, .slice bA bd.length bc] 63),HV.out _ HX1.out,HF.out _ HX1.out,World.ownsRow_nil _ _ _ _⟩)
     have HFA:=G (show aO _ (g+1) 63 #[.string (ag nm), .slice pA M pc, .slice bA bd.length bc]from by
      have:=ax (wo.alloc (.cells #[.slice A n c, .slice (some ⟨b,o,none⟩) m d, .slice none 0 0] 116)) 63 #[.string (ag nm), .slice pA M pc, .slice bA bd.length bc];rw[World.size_alloc,hg]at this
      exact this)
     have HQ1:=G (show CR.then (im gl (b7 []) (ps.drop 0)) (fun lo=>CR.then (CR.then (dm gl lo bd) fun _=>fd gl (p.fs.drop (j+1))) fun _=>cY p.fs)=R by rw[pY,<-HQ.out,hFd,mM];rfl);have k0:=(HPB.out.ext hea).cell;have k1:=((HX.out.trans hea).cell b _ hb).trans h0;have k2:=((HX.out.trans hea).cell b _ hb).trans h1;have k3:=((HX.out.trans hea).cell b _ hb).trans h2;clear h0 h1 h2 hN1 hS1 hFd hfw hfo hM hea heb HQ;go_wp2_with fail
     go_loopw [8] (fun vi wr=> ∃(i:Nat) (C1:Option Addr) (q1 e1:Nat) (ls1:List (List UInt8)),vi= .int .i64 (i:Int)/\i<=M/\Hid (CR.then (im gl (b7 ls1) (ps.drop i)) (fun lo=>CR.then (CR.then (dm gl lo bd) fun _=>fd gl (p.fs.drop (j+1))) fun _=>cY p.fs)=R)/\Hid (au w wr)/\Hid (RK p (fun b=>b<w.heap.size) g (g+2) A (some ⟨b,o,none⟩) C1 n c m d q1 e1 ls1 wr)/\Hid (aO wr (g+1) 63 #[.string (ag nm), .slice pA M pc, .slice bA bd.length bc])/\Hid (aO wr w.heap.size 25 #[.slice A n c, .slice (some ⟨b,o,none⟩) m d])/\Hid (ls1.length=i)/\Hid (Dj p (b7 ls1))) (fun vi _=>M-(intOf vi).toNat)
     case atStart=>exact⟨0,none,0,0,[],rfl,az _,HQ1,HX1,HKA,HFA,HB1,G rfl,G (pY▸AJ p)⟩
     case round=>
      obtain⟨i,C1,q1,e1,ls1,rfl,hi,HQ,HX,HK,HBF,HPB,HLs,HDj⟩:=hrel;clear HX1 HB1 HKA HFA HQ1 c0 g0 g1 g2 k0 k1 k2 k3;have c0:=HPB.out.cell;have c1:=HBF.out.cell;by_cases hli:i<M
      ·have hli':(i:Int)<M:=by omega
       have hil:i<ps.length:=by have:=HM.out;omega
       obtain⟨bp,op,rfl,hpp,hbp,hpc⟩:=HPS.out.at0 i hil;have HPC:=G hpc;have hbpg:bp<g:=aF hbp hgz;have HST:=G (zy (gl:=gl) (lo:=b7 ls1) hil);generalize ps[i]=y at*;have HKN:=G (show gl.known (b7 ls1) y=(cX p y||(decide (0<=tX p.vs y)||b7 ls1 y)) by rw[jD hG,o8]);have HDA:=G (fun(h:gl.known (b7 ls1) y=false)=>rj hG HDj.out h);have HCA:=G (fun(W:World) (h:RK p (fun b=>b<w.heap.size) g (g+2) A (some ⟨b,o,none⟩) C1 n c m d q1 e1 ls1 W)=>jL HS.out h y);have HVA:=G (fun(W:World) (h:RK p (fun b=>b<w.heap.size) g (g+2) A (some ⟨b,o,none⟩) C1 n c m d q1 e1 ls1 W)=>kB p _ W (.slice (some ⟨b,o,none⟩) m d) A n c h.v (by have:=HS.out.v;omega) y);have HIN:=G (fun(W:World) (h:RK p (fun b=>b<w.heap.size) g (g+2) A (some ⟨b,o,none⟩) C1 n c m d q1 e1 ls1 W)=>kC ls1 _ W _ h.l.rd (by have:=HLs.out;omega) y);generalize cX p y=cb at*;generalize tX p.vs y=vx at*;obtain⟨lb,hlb⟩: ∃z,b7 ls1 y=z:=⟨_,rfl⟩
       obtain⟨kn,hkn⟩: ∃z,gl.known (b7 ls1) y=z:=⟨_,rfl⟩
       rw[hkn]at HKN HDA HST;rw[hlb]at HKN;have HIN:=G (fun(W:World) (h:RK p (fun b=>b<w.heap.size) g (g+2) A (some ⟨b,o,none⟩) C1 n c m d q1 e1 ls1 W)=>show Calls prog 43 #[.slice C1 q1 e1, .string (ag y)] W fun e w'=>e= .returned (.bool lb)/\au W w' from by have:=HIN.out W h;rw[hlb]at this;exact this);clear hpc hlb hkn
       go_upto_region 14 with fail
       clear c0 c1
       cases cb with
       |true=>
        clear HVA HIN;refine am 29 1 [(6,fun v=>v= .bool true,fun _ _=>True),(14,fun v=>v= .int .i64 vx,fun _ _=>True),(27,fun v=>v= .bool lb,fun _ _=>True)] mixed (by kernel_rfl) ⟨fun _ _ _ _ _=>trivial,fun _ _ _ _ _=>trivial,fun _ _ _ _ _=>trivial,trivial⟩ ?_;repeat (first|(refine a7 (by rfl) ?_;simp only[aU,aT,aS,aR,aQ])|(refine sx ?_ (fun w1 hU=> ?_) ?_;rotate_left;(focus have hqu:=HK.out.ext hU.un;have f1:=hqu.blk.cell;have f2:=(HBF.out.ext hU.un).cell;have f3:=((HX.out.trans hU.un).cell bp _ hbp).trans HPC.out;have f4:=(HPB.out.ext hU.un).cell;clear hqu hU;go_simp<;>with_reducible rfl);simp only[aU,aT,aS,aR,aQ]))
        refine so (fun w6 hU hp K hK=> ?_) ?_
        ·have hc:=HCA.out w6 (HK.out.ext hU.un);clear hp hU;go_simp;refine hc.mono ?_;rintro e w7 ⟨rfl,hE⟩;exact hK _ _ hE rfl trivial
        rintro _ rfl;simp only[aU,aT,aS,aR,aQ];repeat (first|(refine a7 (by rfl) ?_;simp only[aU,aT,aS,aR,aQ])|(refine sx ?_ (fun w1 hU=> ?_) ?_;rotate_left;(focus have hqu:=HK.out.ext hU.un;have f1:=hqu.blk.cell;have f2:=(HBF.out.ext hU.un).cell;have f3:=((HX.out.trans hU.un).cell bp _ hbp).trans HPC.out;have f4:=(HPB.out.ext hU.un).cell;clear hqu hU;go_simp<;>with_reducible rfl);simp only[aU,aT,aS,aR,aQ]))
        intro w8 hw8 hp;clear hp;simp only[ab,aG];have HX8:=G (HX.out.trans hw8.un);have HK8:=G (HK.out.ext hw8.un);have HBF8:=G (HBF.out.ext hw8.un);have HPB8:=G (HPB.out.ext hw8.un);clear hw8;have HF:=G (show R= .error (y,9) by rw[<-HQ.out,HST.out,HKN.out];rfl);have f2:=HBF8.out.cell;have f3:=(HX8.out.cell bp _ hbp).trans HPC.out;go_wp2_with fail;exact bodyPost_ret (v:= .tuple #[.string (ag y), .int .i64 9]) (by simp[results,results15,go_sem]) rfl ⟨by rw[HPr.out,HF.out];rfl,HX8.out⟩
       |false=>
        by_cases hvx:0<=vx
        ·have hvd:=decide_eq_true hvx;rw[hvd]at HKN;clear HIN;refine am 29 1 [(6,fun v=>v= .bool false,fun _ _=>True),(14,fun v=>v= .int .i64 vx,fun _ _=>True),(27,fun v=>v= .bool lb,fun _ _=>True)] mixed (by kernel_rfl) ⟨fun _ _ _ _ _=>trivial,fun _ _ _ _ _=>trivial,fun _ _ _ _ _=>trivial,trivial⟩ ?_;repeat (first|(refine a7 (by rfl) ?_;simp only[aU,aT,aS,aR,aQ])|(refine sx ?_ (fun w1 hU=> ?_) ?_;rotate_left;(focus have hqu:=HK.out.ext hU.un;have f1:=hqu.blk.cell;have f2:=(HBF.out.ext hU.un).cell;have f3:=((HX.out.trans hU.un).cell bp _ hbp).trans HPC.out;have f4:=(HPB.out.ext hU.un).cell;clear hqu hU;go_simp<;>with_reducible rfl);simp only[aU,aT,aS,aR,aQ]))
         refine so (fun w6 hU hp K hK=> ?_) ?_
         ·have hc:=HCA.out w6 (HK.out.ext hU.un);clear hp hU;go_simp;refine hc.mono ?_;rintro e w7 ⟨rfl,hE⟩;exact hK _ _ hE rfl trivial
         rintro _ rfl;simp only[aU,aT,aS,aR,aQ];repeat (first|(refine a7 (by rfl) ?_;simp only[aU,aT,aS,aR,aQ])|(refine sx ?_ (fun w1 hU=> ?_) ?_;rotate_left;(focus have hqu:=HK.out.ext hU.un;have f1:=hqu.blk.cell;have f2:=(HBF.out.ext hU.un).cell;have f3:=((HX.out.trans hU.un).cell bp _ hbp).trans HPC.out;have f4:=(HPB.out.ext hU.un).cell;clear hqu hU;go_simp<;>with_reducible rfl);simp only[aU,aT,aS,aR,aQ]))
         refine so (fun w6 hU hp K hK=> ?_) ?_
         ·have hc:=HVA.out w6 (HK.out.ext hU.un);clear hp hU;go_simp;refine hc.mono ?_;rintro e w7 ⟨rfl,hE⟩;exact hK _ _ hE rfl trivial
         rintro _ rfl;simp only[aU,aT,aS,aR,aQ];repeat (first|(refine a7 (by rfl) ?_;simp only[aU,aT,aS,aR,aQ])|(refine sx ?_ (fun w1 hU=> ?_) ?_;rotate_left;(focus have hqu:=HK.out.ext hU.un;have f1:=hqu.blk.cell;have f2:=(HBF.out.ext hU.un).cell;have f3:=((HX.out.trans hU.un).cell bp _ hbp).trans HPC.out;have f4:=(HPB.out.ext hU.un).cell;clear hqu hU;go_simp<;>with_reducible rfl);simp only[aU,aT,aS,aR,aQ]))
         intro w8 hw8 hp;clear hp;simp only[ab,aG];have HX8:=G (HX.out.trans hw8.un);have HK8:=G (HK.out.ext hw8.un);have HBF8:=G (HBF.out.ext hw8.un);have HPB8:=G (HPB.out.ext hw8.un);clear hw8;have HF:=G (show R= .error (y,9) by rw[<-HQ.out,HST.out,HKN.out];rfl);have f2:=HBF8.out.cell;have f3:=(HX8.out.cell bp _ hbp).trans HPC.out;go_wp2_with fail;exact bodyPost_ret (v:= .tuple #[.string (ag y), .int .i64 9]) (by simp[results,results15,go_sem]) rfl ⟨by rw[HPr.out,HF.out];rfl,HX8.out⟩
        ·have hvd:=decide_eq_false hvx;rw[hvd]at HKN
         cases lb with
         |true=>
          refine am 29 1 [(6,fun v=>v= .bool false,fun _ _=>True),(14,fun v=>v= .int .i64 vx,fun _ _=>True),(27,fun v=>v= .bool true,fun _ _=>True)] mixed (by kernel_rfl) ⟨fun _ _ _ _ _=>trivial,fun _ _ _ _ _=>trivial,fun _ _ _ _ _=>trivial,trivial⟩ ?_;repeat (first|(refine a7 (by rfl) ?_;simp only[aU,aT,aS,aR,aQ])|(refine sx ?_ (fun w1 hU=> ?_) ?_;rotate_left;(focus have hqu:=HK.out.ext hU.un;have f1:=hqu.blk.cell;have f2:=(HBF.out.ext hU.un).cell;have f3:=((HX.out.trans hU.un).cell bp _ hbp).trans HPC.out;have f4:=(HPB.out.ext hU.un).cell;clear hqu hU;go_simp<;>with_reducible rfl);simp only[aU,aT,aS,aR,aQ]))
          refine so (fun w6 hU hp K hK=> ?_) ?_
          ·have hc:=HCA.out w6 (HK.out.ext hU.un);clear hp hU;go_simp;refine hc.mono ?_;rintro e w7 ⟨rfl,hE⟩;exact hK _ _ hE rfl trivial
          rintro _ rfl;simp only[aU,aT,aS,aR,aQ];repeat (first|(refine a7 (by rfl) ?_;simp only[aU,aT,aS,aR,aQ])|(refine sx ?_ (fun w1 hU=> ?_) ?_;rotate_left;(focus have hqu:=HK.out.ext hU.un;have f1:=hqu.blk.cell;have f2:=(HBF.out.ext hU.un).cell;have f3:=((HX.out.trans hU.un).cell bp _ hbp).trans HPC.out;have f4:=(HPB.out.ext hU.un).cell;clear hqu hU;go_simp<;>with_reducible rfl);simp only[aU,aT,aS,aR,aQ]))
          refine so (fun w6 hU hp K hK=> ?_) ?_
          ·have hc:=HVA.out w6 (HK.out.ext hU.un);clear hp hU;go_simp;refine hc.mono ?_;rintro e w7 ⟨rfl,hE⟩;exact hK _ _ hE rfl trivial
          rintro _ rfl;simp only[aU,aT,aS,aR,aQ];repeat (first|(refine a7 (by rfl) ?_;simp only[aU,aT,aS,aR,aQ])|(refine sx ?_ (fun w1 hU=> ?_) ?_;rotate_left;(focus have hqu:=HK.out.ext hU.un;have f1:=hqu.blk.cell;have f2:=(HBF.out.ext hU.un).cell;have f3:=((HX.out.trans hU.un).cell bp _ hbp).trans HPC.out;have f4:=(HPB.out.ext hU.un).cell;clear hqu hU;go_simp<;>with_reducible rfl);simp only[aU,aT,aS,aR,aQ]))
          refine so (fun w6 hU hp K hK=> ?_) ?_
          ·have hc:=HIN.out w6 (HK.out.ext hU.un);clear hp hU;go_simp;refine hc.mono ?_;rintro e w7 ⟨rfl,hE⟩;exact hK _ _ hE rfl trivial
          rintro _ rfl;simp only[aU,aT,aS,aR,aQ];repeat (first|(refine a7 (by rfl) ?_;simp only[aU,aT,aS,aR,aQ])|(refine sx ?_ (fun w1 hU=> ?_) ?_;rotate_left;(focus have hqu:=HK.out.ext hU.un;have f1:=hqu.blk.cell;have f2:=(HBF.out.ext hU.un).cell;have f3:=((HX.out.trans hU.un).cell bp _ hbp).trans HPC.out;have f4:=(HPB.out.ext hU.un).cell;clear hqu hU;go_simp<;>with_reducible rfl);simp only[aU,aT,aS,aR,aQ]))
          intro w8 hw8 hp;clear hp;simp only[ab,aG];have HX8:=G (HX.out.trans hw8.un);have HK8:=G (HK.out.ext hw8.un);have HBF8:=G (HBF.out.ext hw8.un);have HPB8:=G (HPB.out.ext hw8.un);clear hw8;have HF:=G (show R= .error (y,9) by rw[<-HQ.out,HST.out,HKN.out];rfl);have f2:=HBF8.out.cell;have f3:=(HX8.out.cell bp _ hbp).trans HPC.out;go_wp2_with fail;exact bodyPost_ret (v:= .tuple #[.string (ag y), .int .i64 9]) (by simp[results,results15,go_sem]) rfl ⟨by rw[HPr.out,HF.out];rfl,HX8.out⟩
         |false=>
          refine am 29 1 [(6,fun v=>v= .bool false,fun _ _=>True),(14,fun v=>v= .int .i64 vx,fun _ _=>True),(27,fun v=>v= .bool false,fun _ _=>True)] mixed (by kernel_rfl) ⟨fun _ _ _ _ _=>trivial,fun _ _ _ _ _=>trivial,fun _ _ _ _ _=>trivial,trivial⟩ ?_;repeat (first|(refine a7 (by rfl) ?_;simp only[aU,aT,aS,aR,aQ])|(refine sx ?_ (fun w1 hU=> ?_) ?_;rotate_left;(focus have hqu:=HK.out.ext hU.un;have f1:=hqu.blk.cell;have f2:=(HBF.out.ext hU.un).cell;have f3:=((HX.out.trans hU.un).cell bp _ hbp).trans HPC.out;have f4:=(HPB.out.ext hU.un).cell;clear hqu hU;go_simp<;>with_reducible rfl);simp only[aU,aT,aS,aR,aQ]))
          refine so (fun w6 hU hp K hK=> ?_) ?_
          ·have hc:=HCA.out w6 (HK.out.ext hU.un);clear hp hU;go_simp;refine hc.mono ?_;rintro e w7 ⟨rfl,hE⟩;exact hK _ _ hE rfl trivial
          rintro _ rfl;simp only[aU,aT,aS,aR,aQ];repeat (first|(refine a7 (by rfl) ?_;simp only[aU,aT,aS,aR,aQ])|(refine sx ?_ (fun w1 hU=> ?_) ?_;rotate_left;(focus have hqu:=HK.out.ext hU.un;have f1:=hqu.blk.cell;have f2:=(HBF.out.ext hU.un).cell;have f3:=((HX.out.trans hU.un).cell bp _ hbp).trans HPC.out;have f4:=(HPB.out.ext hU.un).cell;clear hqu hU;go_simp<;>with_reducible rfl);simp only[aU,aT,aS,aR,aQ]))
          refine so (fun w6 hU hp K hK=> ?_) ?_
          ·have hc:=HVA.out w6 (HK.out.ext hU.un);clear hp hU;go_simp;refine hc.mono ?_;rintro e w7 ⟨rfl,hE⟩;exact hK _ _ hE rfl trivial
          rintro _ rfl;simp only[aU,aT,aS,aR,aQ];repeat (first|(refine a7 (by rfl) ?_;simp only[aU,aT,aS,aR,aQ])|(refine sx ?_ (fun w1 hU=> ?_) ?_;rotate_left;(focus have hqu:=HK.out.ext hU.un;have f1:=hqu.blk.cell;have f2:=(HBF.out.ext hU.un).cell;have f3:=((HX.out.trans hU.un).cell bp _ hbp).trans HPC.out;have f4:=(HPB.out.ext hU.un).cell;clear hqu hU;go_simp<;>with_reducible rfl);simp only[aU,aT,aS,aR,aQ]))
          refine so (fun w6 hU hp K hK=> ?_) ?_
          ·have hc:=HIN.out w6 (HK.out.ext hU.un);clear hp hU;go_simp;refine hc.mono ?_;rintro e w7 ⟨rfl,hE⟩;exact hK _ _ hE rfl trivial
          rintro _ rfl;simp only[aU,aT,aS,aR,aQ];repeat (first|(refine a7 (by rfl) ?_;simp only[aU,aT,aS,aR,aQ])|(refine sx ?_ (fun w1 hU=> ?_) ?_;rotate_left;(focus have hqu:=HK.out.ext hU.un;have f1:=hqu.blk.cell;have f2:=(HBF.out.ext hU.un).cell;have f3:=((HX.out.trans hU.un).cell bp _ hbp).trans HPC.out;have f4:=(HPB.out.ext hU.un).cell;clear hqu hU;go_simp<;>with_reducible rfl);simp only[aU,aT,aS,aR,aQ]))
          intro w8 hw8 hp;clear hp;simp only[ab,aG];have HX8:=G (HX.out.trans hw8.un);have HK8:=G (HK.out.ext hw8.un);have HBF8:=G (HBF.out.ext hw8.un);have HPB8:=G (HPB.out.ext hw8.un);clear hw8;have hgw5:g<w8.heap.size:=HK8.out.blk.lt;have hrow:=World.ownsRow.lt HK8.out.l;have hq2:ls1.length=q1:=HK8.out.l.rd.ln;have HOL:=G (show w8.ownsRow (g+2) 9 1 (.slice C1 q1 e1) q1 (eZ ls1) by have h1:=HK8.out.l;unfold mU at h1;rwa [hq2]at h1);have hq2b:q1<=1000000000:=by have:=HLs.out;omega
          have hbz:g+2<=w8.heap.size:=by have:=HBF8.out.lt;omega
          go_upto_region 16 with fail
          refine eo 12 1 [(10,fun v=> ∃gb,v= .slice (some ⟨gb,0,none⟩) 1 1,fun v wx=> ∀gb,v= .slice (some ⟨gb,0,none⟩) 1 1->w8.heap.size<=gb/\aO wx gb 9 #[.string (ag y)]),(11,fun v=> ∃A' cap',v= .slice (some ⟨A',0,none⟩) (q1+1) cap',fun v wx=> ∀A' cap',v= .slice (some ⟨A',0,none⟩) (q1+1) cap'->wx.ownsRow (g+2) 9 1 (.slice (some ⟨A',0,none⟩) (q1+1) cap') (q1+1) (eZ ls1++[.string (ag y)])/\(some A'=(Value.slice C1 q1 e1).ownBlock\/w8.heap.size<=A'))] 11 (Value.slice C1 q1 e1).ownBlock mixed (by kernel_rfl)
           ⟨fun _ _ _ h hx gb e=>⟨(h gb e).1,(h gb e).2.ext hx⟩,fun _ _ _ h hx A' cap' e=>⟨cm (h A' cap' e).1 (fun b _ hb _=>hx.obj hb),(h A' cap' e).2⟩,trivial⟩ ⟨.inr fun _ _ _ h hx gb e=>⟨(h gb e).1,(h gb e).2.grown hx (fun e'=>by have:=(h gb e).1;have:=(hrow gb e'.symm).2;omega)⟩, .inl rfl,trivial⟩ ?_
          repeat (refine sx ?_ (fun w1 hU=> ?_) ?_;rotate_left;(focus have f1:=(HK8.out.blk.grown (aV hU) (fun e=>by have:=(hrow g e.symm).1;omega)).cell;have f2:=(HBF8.out.grown (aV hU) (fun e=>by have:=(hrow (g+1) e.symm).1;omega)).cell;have f3:=((cP.of_grown (P:=fun k=>k<g+2) (aV hU) (fun b hb e=>by have:=(hrow b e.symm).1;omega)).cell _ (show bp<g+2 by omega) (aF hbp HX8.out.size)).trans ((HX8.out.cell bp _ hbp).trans HPC.out);clear hU;go_simp<;>with_reducible rfl);simp only[aU,aT,aS,aR,aQ])
          refine b6 _ _ (by rfl) rfl ⟨_,0,rfl⟩ (by simp) (fun w6 hU hp K hK=> ?_) ?_
          ·have hz6:=(aV hU).size;clear hp hU;go_simp;exact hK _ _ (O w6 _) ⟨_,rfl⟩ (fun gb e=>by injection e with e;injection e with e;injection e with e;subst e;exact⟨hz6,ax w6 _ _⟩)
          rintro _ ⟨gb,rfl⟩;simp only[aU,aT,aS,aR,aQ];refine eQ _ _ (by rfl) rfl ⟨_,0,0,rfl⟩ rfl (fun w6 hT hp K hK=> ?_) ?_
          ·obtain⟨hgb,hB3⟩:=hp _ (.head _) (by kernel_rfl) gb rfl;have hz6:=hT.un.size;have hO6:=cm HOL.out (fun b _ hb _=>hT.un.obj hb);clear hp hT;refine lO AX _ _ rfl (g+2) _ q1 (eZ ls1) rfl hO6 gb [.string (ag y)] rfl hB3 rfl (by simp[Value.oneCell']) (by omega) (by decide) (by omega) ?_;intro A' cap' w9 hq1 hq2' hq3;exact hK _ _ hq2' ⟨A',cap',rfl⟩ (fun A2 cap2 e=>by injection e with e1 e2 e3;injection e1 with e1;injection e1 with e1;subst e1 e3;exact⟨hq1,hq3.imp id (fun h=>by omega)⟩)
          rintro _ ⟨A',cap',rfl⟩;simp only[aU,aT,aS,aR,aQ];intro w9 hw9 hp;obtain⟨ho9,hA9⟩:=hp _ (.head _) A' cap' rfl;clear hp;have hw9:=aV hw9;simp only[ab,ap];have hAb:g+2<=A':=by
           rcases hA9 with h|h
           ·exact(hrow A' h.symm).1
           ·omega
          have hb8:=HK8.out.blk.grown hw9 (fun e=>by have:=(hrow g e.symm).1;omega);have hcc:=hb8.cell;have hff:=hb8.frozen;have hs8:=ks w9 g 2 (.slice (some ⟨A',0,none⟩) (q1+1) cap');have hb9:=hb8.set 2 (.slice (some ⟨A',0,none⟩) (q1+1) cap');have hmv:Mv (fun k=>k=g\/some k=(Value.slice C1 q1 e1).ownBlock) w8 (w9.setCell ⟨g,2,none⟩ (.slice (some ⟨A',0,none⟩) (q1+1) cap')):=
           (Mv.of_grown hw9 (fun k hk=> .inr hk.symm)).set (fun _=> .inl rfl) _
          have hlg:LG g (.slice C1 q1 e1) w8 (.slice (some ⟨A',0,none⟩) (q1+1) cap') (w9.setCell ⟨g,2,none⟩ (.slice (some ⟨A',0,none⟩) (q1+1) cap')):=⟨hmv,hA9.imp (fun h=>h) (fun h k hk=>by injection hk with hk;subst hk;exact h)⟩
          have hkp:cP (fun b=>b<w.heap.size) w8 (w9.setCell ⟨g,2,none⟩ (.slice (some ⟨A',0,none⟩) (q1+1) cap')):=hmv.keepP (fun k hk hl hh=>by
           rcases hh with h|h
           ·omega
           ·have:=(hrow k h.symm).1;omega)
          have HKn:=G (show RK p (fun b=>b<w.heap.size) g (g+2) A (some ⟨b,o,none⟩) (some ⟨A',0,none⟩) n c m d (q1+1) cap' (ls1++[y]) _ from⟨by simpa using hb9,HK8.out.v.keep hkp (fun _ hb _=>hb),HK8.out.f.keep hkp (fun _ hb _=>hb),by
           have:=World.ownsRow.kept ho9 hs8 (.inr (fun e=>by have e:A'=g:=aw e;omega));unfold mU;rw[aa,hq2]
           simpa[eZ]using this⟩)
          have HXn:=G (vy HX8.out hlg hgz (fun k hk=>by have:=(hrow k hk).1;omega));have HBFn:=G (hlg.blk HBF8.out (by omega) (fun e=>by have:=(hrow _ e).1;omega));have HPBn:=G (hlg.blk HPB8.out (by omega) (fun e=>by have:=(hrow _ e).1;omega));clear hw9 ho9 hA9 hb8 hs8 hb9 hmv hkp hrow hlg HK8 HX8 HBF8 HPB8 HOL;go_wp2_with fail
          have HQn:=G (show CR.then (im gl (b7 (ls1++[y])) (ps.drop (i+1))) (fun lo=>CR.then (CR.then (dm gl lo bd) fun _=>fd gl (p.fs.drop (j+1))) fun _=>cY p.fs)=R by
           rw[<-HQ.out,HST.out,HKN.out,show b7 (ls1++[y])=Ls.add (b7 ls1) y by funext s;rw[kI,kH,eI];rfl]
           rfl)
          have HDn:=G (show Dj p (b7 (ls1++[y])) by
           rw[show b7 (ls1++[y])=Ls.add (b7 ls1) y by funext s;rw[kI,kH,eI];rfl]
           exact HDA.out HKN.out)
          go_roundw
          case rel=>exact⟨i+1,_,_,_,ls1++[y],by go_num,by omega,HQn,HXn,HKn,HBFn,HPBn,G (by rw[aa,HLs.out];rfl),HDn⟩
          case measure=>simp[intOf];omega
      ·have hli': ¬(i:Int)<M:=by omega
       have HQe:=G (show CR.then (CR.then (dm gl (b7 ls1) bd) fun _=>fd gl (p.fs.drop (j+1))) (fun _=>cY p.fs)=R by
        have:=HQ.out;rw[aB (l:=ps) (by have:=HM.out;omega),im]at this
        exact this)
       have HCS:=G (kd HS.out hG _ bd (an _) (by omega) hokb (fun b=>b<w.heap.size) (fun b=>b<w.heap.size) g (g+2) A (some ⟨b,o,none⟩) C1 n c m d q1 e1 ls1 wr bA bd.length bc HK.out HDj.out (by have:=HLs.out;omega) (by omega) (by have:=HBF.out.lt;omega) (fun k hk=>by omega) (fun k hk=>by omega) (HBD.out.keep (.of_ext HX.out) (fun b hb _=>hb)));have HNs:=G (mB gl bd (b7 ls1));have hrow:=World.ownsRow.lt HK.out.l;have HRW:=G (fun(v':Value) (W:World) (h:LG g (.slice C1 q1 e1) wr v' W)=>show au w W/\aO W w.heap.size 25 #[.slice A n c, .slice (some ⟨b,o,none⟩) m d]from⟨vy HX.out h hgz (fun k hk=>by have:=(hrow k hk).1;omega),h.blk HPB.out (by omega) (fun e=>by have:=(hrow _ e).1;omega)⟩);clear HQ hrow;generalize dm gl (b7 ls1) bd=rs at*
       cases rs with
       |ok lo'=>
        have HQn:=G (show CR.then (fd gl (p.fs.drop (j+1))) (fun _=>cY p.fs)=R from HQe.out);go_wp2_with (go_at_call 44;refine HCS.out.mono ?_;rintro e w6 ⟨C',q',e',ls',rfl,g2,g3,g4,g5⟩;obtain⟨hx6,hp6⟩:=HRW.out _ _ g2;have hE:=O w6 (.cells #[.string ⟨#[]⟩, .int .i64 0] 112);have HX6:=G (hx6.trans hE);have HP6:=G (hp6.ext hE);have c6:=(ax w6 112 #[.string ⟨#[]⟩, .int .i64 0]).cell;clear g2 g3 g4 g5 hx6 hp6 hE HCS c0 c1);go_roundw
        case rel=>exact⟨j+1,by go_num,by omega,HQn,HX6,HP6⟩
        case measure=>simp[intOf];omega
       |error er=>
        obtain⟨ea,eb⟩:=er;have hne:=beq_eq_false_iff_ne.2 (show eb≠(0:Int)from HNs.out);have hne':=kM hne;have HF9:=G (show R= .error (ea,eb)from HQe.out.symm);go_wp2_with (first|(go_at_call 44;refine HCS.out.mono ?_;rintro e w6 ⟨C',q',e',ls',rfl,g2,g3,g5⟩;obtain⟨hx6,hp6⟩:=HRW.out _ _ g2;have hE:=O w6 (.cells #[.string (ag ea), .int .i64 eb] 112);have HX6:=G (hx6.trans hE);have c6:=(ax w6 112 #[.string (ag ea), .int .i64 eb]).cell;clear g2 g3 g5 hx6 hp6 hE HCS c0 c1)|go_quiet (fail));exact bodyPost_ret (v:= .tuple #[.string (ag ea), .int .i64 eb]) (by simp[results,results15,go_sem]) rfl ⟨by rw[HPr.out,HF9.out];rfl,HX6.out.drewN _⟩
    ·have hlt': ¬(j:Int)<m:=by omega
     have HQ0:=G (show cY (p.fs.drop 0)=R by
      have:=HQ.out;rw[aB (l:=p.fs) (by have:=HMN.out;omega),fd]at this
      exact this)
     clear HQ;go_wp2_with fail;clear c0
     go_loopw [10] (fun vi wr=> ∃(i:Nat),vi= .int .i64 (i:Int)/\i<=m/\Hid (cY (p.fs.drop i)=R)/\Hid (au w wr)/\Hid (aO wr w.heap.size 25 #[.slice A n c, .slice B m d])) (fun vi _=>m-(intOf vi).toNat)
     case atStart=>exact⟨0,rfl,az _,HQ0,HX,HPB⟩
     case round=>
      clear HX HPB HQ0;obtain⟨i,rfl,hi,HQ,HX,HPB⟩:=hrel;have c0:=HPB.out.cell;by_cases hli:i<m
      ·have hli':(i:Int)<m:=by omega
       have hjl:i<p.fs.length:=by have:=HMN.out;omega
       obtain⟨b,o,pv,bv,rfl,hP,hb,h0,h1,h2,hN1,hS1⟩:=HF0.out.at0 i hjl;have hLd:=xK hjl;have hfw:=jd (ai hjl)|>fun h=>a_ h HW.out;have hfo:=List.all_eq_true.1 HFok.out _ (ai hjl);generalize p.fs[i]=f at*;obtain⟨nm,ps,bd⟩:=f;simp only at h0 hN1 hS1 hLd hfw hfo;obtain⟨pA,pc,rfl,_⟩:=id hN1;obtain⟨bA,bc,rfl,_⟩:=hS1.form;unfold je at hfo;simp only[ak,decide_eq_true_eq]at hfo;have hp4:ps.length<=4:=hfo.1.1.2;unfold Fc.wt at hfw;simp only at hfw;have hwb:dq bd<=6000000:=by omega
       have hokb:iM bd=true:=by
        rw[dX,bG];intro s hs;have:=List.all_eq_true.1 hfo.2 s hs;simp only[ak]at this;exact this.2
       have HLO:=G (pz nm ps bd hwb (by omega) (fun b=>b<w.heap.size) wr pA bA pc bc (hS1.keep (.of_ext HX.out) (fun b hb _=>hb)));have HND:=G (fun(W:World) (hE:au w W)=>ke _ bd (an _) (by omega) hokb (fun b=>b<w.heap.size) W bA _ bc (hS1.keep (.of_ext hE) (fun b hb _=>hb)));have HK0:=G (aq h0 (aq h1 h2));have g0:=(HX.out.cell b _ hb).trans h0;have g1:=(HX.out.cell b _ hb).trans h1;have g2:=(HX.out.cell b _ hb).trans h2;have hql:ps.length+cC bd<=6000004:=by have:=fK bd;omega
       have hnl:ki bd<=6000000:=by have:=mC bd;omega
       have HST:=G (show cY (p.fs.drop i)=if 20<ps.length+cC bd\/7<ki bd then .error (nm,6)else cY (p.fs.drop (i+1)) by
        rw[hLd];have:(jN bd=true)=(7<ki bd):=by rw[<-se];simp
        simp only[this])
       generalize ps.length+cC bd=ql at*;generalize ki bd=nl at*;clear h0 h1 h2 hN1 hS1 hLd hfw hfo hokb;by_cases hq:20<ql
       ·have hq':(20:Int)<(ql:Int):=by omega
        have HF9:=G (show R= .error (nm,6) by rw[<-HQ.out,HST.out,if_pos (.inl hq)]);clear HND;go_wp2_with (go_at_call 45;refine HLO.out.mono ?_;rintro e w6 ⟨rfl,hE⟩;have HX6:=G (HX.out.trans hE);have c6:=(HPB.out.ext hE).cell;have k0:=(HX6.out.cell b _ hb).trans HK0.out.1;have k1:=(HX6.out.cell b _ hb).trans HK0.out.2.1;have k2:=(HX6.out.cell b _ hb).trans HK0.out.2.2;clear hE HLO c0 g0 g1 g2);exact bodyPost_ret (v:= .tuple #[.string (ag nm), .int .i64 6]) (by simp[results,results15,go_sem]) rfl ⟨by rw[HPr.out,HF9.out];rfl,HX6.out⟩
       ·have hq': ¬(20:Int)<(ql:Int):=by omega
        by_cases hn:7<nl
        ·have hn':(7:Int)<(nl:Int):=by omega
         have HF9:=G (show R= .error (nm,6) by rw[<-HQ.out,HST.out,if_pos (.inr hn)]);go_wp2_with (first|(go_at_call 45;refine HLO.out.mono ?_;rintro e w6 ⟨rfl,hE⟩;have HX6:=G (HX.out.trans hE);have HP6:=G (HPB.out.ext hE);have c6:=HP6.out.cell;have k0:=(HX6.out.cell b _ hb).trans HK0.out.1;have k1:=(HX6.out.cell b _ hb).trans HK0.out.2.1;have k2:=(HX6.out.cell b _ hb).trans HK0.out.2.2;clear hE HLO c0 g0 g1 g2)|(go_at_call 46;refine(HND.out _ HX6.out).mono ?_;rintro e w7 ⟨rfl,hE⟩;have HX7:=G (HX6.out.trans hE);have c7:=(HP6.out.ext hE).cell;clear c6 k0 k1 k2;have k0:=(HX7.out.cell b _ hb).trans HK0.out.1;have k1:=(HX7.out.cell b _ hb).trans HK0.out.2.1;have k2:=(HX7.out.cell b _ hb).trans HK0.out.2.2;clear hE HND));exact bodyPost_ret (v:= .tuple #[.string (ag nm), .int .i64 6]) (by simp[results,results15,go_sem]) rfl ⟨by rw[HPr.out,HF9.out];rfl,HX7.out⟩
        ·have hn': ¬(7:Int)<(nl:Int):=by omega
         have HQn:=G (show cY (p.fs.drop (i+1))=R by rw[<-HQ.out,HST.out,if_neg (fun h=>h.elim hq hn)]);go_wp2_with (first|(go_at_call 45;refine HLO.out.mono ?_;rintro e w6 ⟨rfl,hE⟩;have HX6:=G (HX.out.trans hE);have HP6:=G (HPB.out.ext hE);have c6:=HP6.out.cell;have k0:=(HX6.out.cell b _ hb).trans HK0.out.1;have k1:=(HX6.out.cell b _ hb).trans HK0.out.2.1;have k2:=(HX6.out.cell b _ hb).trans HK0.out.2.2;clear hE HLO c0 g0 g1 g2)|(go_at_call 46;refine(HND.out _ HX6.out).mono ?_;rintro e w7 ⟨rfl,hE⟩;have HX7:=G (HX6.out.trans hE);have HP7:=G (HP6.out.ext hE);clear c6 k0 k1 k2 hE HND));go_roundw
         case rel=>exact⟨i+1,by go_num,by omega,HQn,HX7,HP7⟩
         case measure=>simp[intOf];omega
      ·have hli': ¬(i:Int)<m:=by omega
       have HF9:=G (show R= .ok () by
        have:=HQ.out;rw[aB (l:=p.fs) (by have:=HMN.out;omega),cY]at this
        exact this.symm)
       go_wp2_with fail;exact bodyPost_ret (v:= .tuple #[.string ⟨#[]⟩, .int .i64 0]) (by simp[results,results15,go_sem]) rfl ⟨by rw[HPr.out,HF9.out];rfl,HX.out⟩
end Go.Proofs.YtddomeddabfinaaGreatDoor
