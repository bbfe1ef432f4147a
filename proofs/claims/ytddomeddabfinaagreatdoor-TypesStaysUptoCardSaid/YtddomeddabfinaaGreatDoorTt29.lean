/- Parts of the proof. -/
import Derived.Test.YtddomeddabfinaaGreatDoorTt00
import Derived.Lib.ConvBytes
import Derived.Test.YtddomeddabfinaaGreatDoorTt26
import Derived.Test.YtddomeddabfinaaGreatDoorTt27
import Derived.Test.YtddomeddabfinaaGreatDoorTt28
set_option maxRecDepth 100000
set_option maxHeartbeats 8000000
set_option linter.unusedVariables false
set_option linter.unusedSimpArgs false
set_option linter.unusedSectionVars false
namespace Go.Proofs.YtddomeddabfinaaGreatDoor
open IntKind(i64)
open Go.Proofs.Tryz
section
open Go.RowKit
theorem BB (a:World) (t:List UInt8) (z:t.length<=1073741824): ∃g c j,(Go.convert 9 40 (.string (J t))).run prog a=.ok (.slice (some ⟨g,0,none⟩) t.length c) j/\az a j/\Sl j (some ⟨g,0,none⟩) c t/\a.heap.size<=g:=by
 have h:=Lib.run_convert_string_bytes (P:=prog) a 9 40 5 (J t) (u:=.string) underlying9 underlying40 underlying5;rw[bm]at h;refine⟨_,_,_,h,⟨rfl,rfl,rfl,by rw[Lib.bytesWorld_size];omega,λk w=>Lib.bytesWorld_at_old a _ _ k w⟩,⟨grownCap_ge a t.length 0 _,grownCap_le_maxLen a t.length 0 _ Qi,(λh=>by cases h),.inr ⟨_,0,rfl,by rw[Lib.bytesWorld_size];omega,λi o=> ?_⟩⟩,ak _⟩;rw[aG,Lib.bytesWorld_cell a _ _ i (by rw[bm];exact o)];simp[J,o,List.getD]
def Ci (X:MX) (n0:Nat) (w:World) (d:Dt) (v:Value):Prop:=match d with
 | .no=>v=.slice none 0 0
 | .txt t=> ∃A c,v=.slice A t.length c/\Sl w A c t/\t.length<=1073741824/\ ∀b o,A=some ⟨b,o,none⟩->t≠ []->n0<=b
 | .arr nm=>v=sO X nm
theorem Ci.mv {w:MX} {a:Nat} {j w':World} {d:Dt} {v:Value} {S:Nat->Prop} (h:Ci w a j d v) (G:Mv S j w') (A: ∀k,a<=k-> ¬S k):Ci w a w' d v:=by
 cases d with
 |no=>exact h
 |txt t=>
  obtain⟨R,c,O,M,K,o⟩:=h;exact⟨R,c,O,M.keepP (P:=λb=>a<=b) (G.keepP λk z _=>A k z) o,K,o⟩
 |arr nm=>exact h
theorem Ci.toV {h:MX} {o:Nat} {j:World} {d:Dt} {v:Value} (a:Ci h o j d v) (O:h.hi<=o):Ib h j d v:=by
 cases d with
 |no=>exact a
 |txt t=>
  obtain⟨M,c,K,G,_,A⟩:=a;exact⟨M,c,K,G,λb w e z=>by have:=A b w e z;omega⟩
 |arr nm=>exact a
theorem Ci.len {j:MX} {C:Cx} {a:Ms} {o:Nat} {h:World} {d:Dt} {v:Value} (A:Ci j o h d v) (w:MA j C a h):(d.rd a).length<=1073741824:=by
 cases d with
 |no=>exact aI _
 |txt t=>obtain⟨G,c,_,_,z,_⟩:=A;exact z
 |arr nm=>
  show(a.arrs nm).length<=_;by_cases e:a.arrs nm=[]
  ·rw[e];exact aI _
  ·exact(w.row nm e).2.2.2
theorem Sl.take {h:World} {j:Option Addr} {c:Nat} {l:List UInt8} (a:Sl h j c l) (k:Nat):Sl h j c (l.take k):=by
 refine⟨by rw[bN];have:=a.le;omega,a.max,a.nil,?_⟩;rcases a.rd with rfl|⟨b,o,rfl,hb,hc⟩
 ·left;simp
 ·right;refine⟨b,o,rfl,hb,λi w=> ?_⟩;rw[bN]at w;rw[gW];exact hc i Qa
structure BQ (X:MX) (C:Cx) (σ:Ms) (l:Lo) (fb lb:Nat) (w:World) (cs:Array Value) (v:Value) (xs:List Ex) (vs:List Int) (d:Dt) (dv:Value) (W:World):Prop where
 q:EQ X C σ l fb lb w w.heap.size cs v xs W
 ab:aU W (w.heap.size+1) 39 (aC vs)
 dt:Ci X (w.heap.size+2) W d dv
section
variable {X:MX} {C:Cx} {σ σ':Ms} {l:Lo} {fb lb:Nat} {w W W':World} {cs:Array Value} {v:Value} {xs:List Ex} {vs:List Int} {d:Dt} {dv:Value}
theorem BQ.ms (a:BQ X C σ l fb lb w cs v xs vs d dv W) (h:Mv X.S W W') (j:MA X C σ' W'):BQ X C σ' l fb lb w cs v xs vs d dv W':=by
 have o:=a.q.hw;exact⟨a.q.nx h j,h.blk a.ab (jm Qa),a.dt.mv h λk z=>jm Qa⟩
theorem BQ.ext (h:BQ X C σ l fb lb w cs v xs vs d dv W) (a:az W W'):BQ X C σ l fb lb w cs v xs vs d dv W':=h.ms (.of_ext a) (h.q.ma.ext a)
theorem BQ.arg (h:BQ X C σ l fb lb w cs v xs vs d dv W) (z:vs.length<3) (a:Int) (lf:fb<w.heap.size) (o:lb<w.heap.size):BQ X C σ l fb lb w cs v xs (vs++[a]) d dv (W.setCell ⟨w.heap.size+1,vs.length,none⟩ (.int i64 a)):=by
 have j:=cH W (w.heap.size+1) vs.length (.int i64 a);have A:Mv (λk=>k=w.heap.size+1) W (W.setCell ⟨w.heap.size+1,vs.length,none⟩ (.int i64 a)):=.of_grown j λk e=>by injection e with e;exact e.symm
 refine⟨h.q.row j (λk e=>by injection e with e;omega) lf o,?_,h.dt.mv A λk G e=>by omega⟩;rw[<-D_ vs a z];exact h.ab.set _ _
theorem BQ.put (a:BQ X C σ l fb lb w cs v xs vs d dv W) {d':Dt} {dv':Value} (h:Ci X (w.heap.size+2) W d' dv'):BQ X C σ l fb lb w cs v xs vs d' dv' W:=⟨a.q,a.ab,h⟩
end
theorem z6 {s:Ms} {nm:List UInt8} (a:s.arrs nm=[]):s.setA nm []=s:=by
 unfold Ms.setA
 congr 1
 funext x;by_cases e:x=nm
 ·rw[if_pos e,e,a]
 ·rw[if_neg e]
theorem Bt {h:MX} {G:Nat} {A:World} {d:Dt} {z:Option Addr} {n c:Nat} (a:Ci h G A d (.slice z n c)) (K: ∀t,d≠ .txt t):(z=none/\n=0/\c=0/\(d=.no\/ ∃nm,d=.arr nm/\h.al nm=0))\/ ∃nm,d=.arr nm/\z=some ⟨h.rb nm,0,none⟩/\n=h.al nm/\c=h.al nm/\h.al nm≠0:=by
 cases d with
 |txt t=>exact absurd rfl (K t)
 |no=>
  have a:Value.slice z n c=.slice none 0 0:=a;injection a with w o j;exact .inl ⟨w,o,j,.inl rfl⟩
 |arr nm=>
  have a:Value.slice z n c=sO h nm:=a;unfold sO at a;by_cases hz:h.al nm=0
  ·rw[if_pos hz]at a;injection a with w o j;exact .inl ⟨w,o,j,.inr ⟨nm,rfl,hz⟩⟩
  ·rw[if_neg hz]at a;injection a with w o j;exact .inr ⟨nm,rfl,w,o,j,hz⟩
theorem Gg {j:MX} {C:Cx} {s:Ms} {o:World} {d:Dt} {r:List UInt8} (z:MA j C s o) (w:d=.no\/ ∃nm,d=.arr nm/\j.al nm=0):d.put s 0 r=s:=by
 rcases w with rfl|⟨nm,rfl,hz⟩
 ·rfl
 ·have h:=z.len nm;rw[hz]at h;have a:s.arrs nm=[]:=ax h;show s.setA nm (r.take 0++(s.arrs nm).drop (min 0 r.length))=s;rw[a];simpa using z6 a
theorem MA.putD {a:MX} {C:Cx} {s:Ms} {h w':World} {nm:List UInt8} (w:MA a C s h) (z:a.al nm≠0) (k:Nat) (G:k<=a.al nm) (r:List UInt8) (A:h.grownBy w' (some (a.rb nm))) (o:Rw w' (a.rb nm) 5 (EM (s.arrs nm) 0 (r.take k))):MA a C ((Dt.arr nm).put s k r) w':=by
 have j:=w.len nm;have e:EM (s.arrs nm) 0 (r.take k)=r.take k++(s.arrs nm).drop (min k r.length):=by simp[EM,bN]
 rw[e]at o;exact w.putA (λe=>by rw[e]at j;exact z j.symm) (by rw[ac,bN,bD];omega) A o
theorem GA (vs:List Int) (i:Nat) (a:i<3):(aC vs)[i]? =some (.int i64 (vs.getD i 0)):=by
 obtain rfl|rfl|rfl:i=0\/i=1\/i=2:=Qa
 all_goals rfl
theorem BF {ls:List UInt8} {a:Nat} (h:a<ls.length):((ls.drop a).filter (· ==105)).length=(if ls[a]=105 then 1 else 0)+((ls.drop (a+1)).filter (· ==105)).length:=by
 rw[aD h,List.filter_cons];by_cases e:ls[a]=105
 ·rw[if_pos (by simp[e]),if_pos e,ah];omega
 ·rw[if_neg (by simp[e]),if_neg e];omega
theorem EU (h:Int) (w:Option Addr) (j o:Nat) (a:World):(Instr.field 80 (.agg #[.int i64 h,.slice w j o]) 0).run prog a=.ok (.int i64 h) a:=Qb
theorem AL (A:MX) (C:Cx) (n:Nat) (k:Int) (op nm tx:List UInt8) (v:Int) (xs:List Ex) (z:Int) (ls:List UInt8) (bv:fp nm=some (z,ls)) (a9:xs.length=ls.length) (dW:ls.length<=3) (cE:z=9-> ∀y∈xs,y.k≠2) (cz: ∀a (j:a<xs.length) (eg:a<ls.length),ls[a]=105->oQ A C n xs[a]) (cy: ∀y∈xs,y.nm.length<=1073741824/\y.tx.length<=1073741824):FP A C n k op nm tx v xs z ls:=by
 intro bF l bW bH I aV c cD bT cr bS;have dr:=O cz;have dp:=O cy;have dJ:=O cE;have cI:=O bS;have dc:=(BR bv).1;have dA:=O (up bv);obtain⟨aS,ca⟩: ∃dm,qf C.R (λs y=>ev C n s l y) bF z ls xs=dm:=⟨_,rfl⟩
 have dD:=O (show(eO (λs y=>ev C n s l y) (ls.drop 0) (xs.drop 0) [] 0 .no bF).then (fun(p:List Int×Int×Dt) s=>oV C.R z p.1 p.2.1 p.2.2 s)=aS from by rw[<-ca];rfl);rw[ca];obtain⟨N,cb⟩: ∃N,xs.length=N:=⟨_,rfl⟩
 have dx:=O cb;rw[cb]at bS cI a9⊢;have eb:N<=3:=Qa
 have cN:=O a9;have lf:=bT.fr.blk.lt;have cj:=bT.fr.m.lt;have cM:=O (aE lf cj);have cJ:=O (kd cD bT bS #[.int i64 k,.string (J op),.string (J nm),.string (J tx),.int i64 v,.slice aV N c]);have G:=Z (I.alloc (.cells #[.int i64 k,.string (J op),.string (J nm),.string (J tx),.int i64 v,.slice aV N c] 70)) (.cells #[.int i64 0,.int i64 0,.int i64 0] 39);have b9:=aw (I.alloc (.cells #[.int i64 k,.string (J op),.string (J nm),.string (J tx),.int i64 v,.slice aV N c] 70)) 39 #[.int i64 0,.int i64 0,.int i64 0];rw[World.size_alloc]at b9;have cQ:=O (show BQ A C bF l bW bH I #[.int i64 k,.string (J op),.string (J nm),.string (J tx),.int i64 v,.slice aV N c] (.slice aV N c) xs [] .no (.slice none 0 0) ((I.alloc (.cells #[.int i64 k,.string (J op),.string (J nm),.string (J tx),.int i64 v,.slice aV N c] 70)).alloc (.cells #[.int i64 0,.int i64 0,.int i64 0] 39))from⟨cJ.out.ext G,b9,rfl⟩);have dk:=cQ.out.q.bk.cell;have dw:=O cr;have dB:=O (show nM []/\jH 0 from⟨λx cY=>(by cases cY),by decide⟩);have dE:=O (show 0+((ls.drop 0).filter (· ==105)).length<=2 by rw[au];omega);have dI:=O (show z=9-> ∀t,Dt.no≠ .txt t from λ_ t e=>by cases e);clear cD bT bS cb cz ca lf cj cr cy cE G b9 cJ dc bv a9;simp only[MX.p]at*;go_enter func209,ntmps209;go_wp2_with fail;clear dk
 go_loopw [12,13,14,21] (λcX cV cW b4 wr=> ∃(a:Nat) (vs:List Int) (K:Nat) (la:Int) (d:Dt) (o:Ms),b4=.int i64 (a:Int)/\cV=.int i64 (K:Int)/\cW=.int i64 la/\a<=N/\Hid (vs.length=K)/\Hid (K+((ls.drop a).filter (· ==105)).length<=2)/\Hid (2*o.left<=n)/\Hid ((eO (λs y=>ev C n s l y) (ls.drop a) (xs.drop a) vs la d o).then (fun(p:List Int×Int×Dt) s=>oV C.R z p.1 p.2.1 p.2.2 s)=aS)/\Hid (BQ A C o l bW bH I #[.int i64 k,.string (J op),.string (J nm),.string (J tx),.int i64 v,.slice aV N c] (.slice aV N c) xs vs d cX wr)/\Hid (nM vs/\jH la)/\Hid (z=9-> ∀t,d≠ .txt t)) (λ_ _ _ b4 _=>N-(intOf b4).toNat)
 case atStart=>exact⟨0,[],0,0,.no,bF,rfl,rfl,rfl,aI _,O rfl,dE,dw,dD,cQ,dB,dI⟩
 case round=>
  obtain⟨a,vs,K,la,d,o,rfl,rfl,rfl,d5,be,bD,bY,bd,M,bC,cU⟩:=hrel;by_cases hlt:a<N
  ·have c7:(a:Int)<N:=Qa
   have bq:a<xs.length:=by have:=dx.out;omega
   have bp:a<ls.length:=by have:=cN.out;omega
   have d4:(a:Int)<ls.length:=Qa
   obtain⟨b,a4,bE,bz,rfl,bv,de,bP,bQ⟩:=cI.out.yc a bq;have G:=v_ (E:=(λs y=>ev C n s l y)) (vs:=vs) (la:=la) (d:=d) (s:=o) bp bq;have aK:=dr.out a bq bp;have aW:=λj=>dJ.out j _ (ay bq);have aD:=dp.out _ (ay bq);have bc:=BF bp;have bn:=dA.out _ (ay bp);have b8:=λI=>nW ls a bp I;obtain⟨y,cl⟩: ∃y,xs[a]=y:=⟨_,rfl⟩
   rw[cl]at bP bQ G aK aW aD;clear cl;obtain⟨bl,bi,ao,al,bh,bA⟩:=y;unfold oQ at aK;simp only[Ex.k,Ex.op,Ex.nm,Ex.tx,Ex.v,Ex.args]at bP bQ aK aW aD;obtain⟨eo,dl,cd,em,el,ek⟩:=bP.ms M.out.q.mv de bv;have cc:=Z wr (.cells #[.int i64 bl,.string (J bi),.string (J ao),.string (J al),.int i64 bh,.slice bE bA.length bz] 70);have aq:=O (M.out.ext cc);have dq:=O (aw wr 70 #[.int i64 bl,.string (J bi),.string (J ao),.string (J al),.int i64 bh,.slice bE bA.length bz]);have ck: ¬A.S wr.heap.size:=jm (aR M.out.q.hw M.out.q.mv.size);have er:=O ck;have dv:=O ((bQ.ms M.out.q.mv).xt cc);have dQ:I.heap.size+1<wr.heap.size:=M.out.ab.lt;generalize ls[a]=q at G aK bc bn b8;clear ck bP bQ cc;by_cases hq5:q=105
   ·subst hq5;rw[if_pos rfl]at G bc;have b8: ∀I,(Instr.index 9 (.string (J ls)) (.int i64 (a:Int))).run prog I=.ok (.int .u8 105) I:=b8;have dU:K<=1:=by have:=bD.out;omega
    have c3:K<3:=Qa
    have dT:(K:Int)<3:=Qa
    have bZ:=O (show K+1+((ls.drop (a+1)).filter (· ==105)).length<=2 by have:=bD.out;omega);have a2:=O (aK rfl o l bW bH _ bE bz aq.out.q.ma aq.out.q.fi bY.out dv.out);simp only[MX.p]at a2;have co:=aq.out.q.ma.rng;have cu:=aq.out.q.fi.fr.rng;rcases aH:ev C n o l (.mk bl bi ao al bh bA)with bG|⟨ak,s2⟩
    ·rw[aH,fj]at G;have a1:=O (show aS=.error bG by rw[<-bd.out,G];rfl);rw[aH]at a2;clear G aH aK bn bc aW aD;go_wp2_with (go_at_call 164;refine a2.out.mono ?_;intro e b3 j;obtain⟨bw,rfl,ar⟩:=j.err_;have aX:=O (aq.out.q.mv.trans bw);have aF:=O ar;clear bw ar j a2);exact⟨rfl,dK aX.out a1.out rfl aF.out⟩
    ·have b5:=oq aH co cu;have dX:=ph aH;rw[aH,gh]at G;have a1:=O (show(eO (λs y=>ev C n s l y) (ls.drop (a+1)) (xs.drop (a+1)) (vs++[ak]) ak d s2).then (fun(p:List Int×Int×Dt) s=>oV C.R z p.1 p.2.1 p.2.2 s)=aS by rw[<-bd.out,G]);rw[aH]at a2;have dO:IntKind.i64.wrap ak=ak:=by unfold jH at b5;simp[IntKind.wrap,IntKind.signed,IntKind.bits];omega
     clear G aH co cu aK bn bc aW aD;go_wp2_with (go_at_call 164;refine a2.out.mono ?_;intro e b3 j;obtain⟨bw,rfl,cC⟩:=j.ok_;have aT:=O (aq.out.ms bw cC);have ha:=aT.out.ab.cell;have ea:=aT.out.ab.frozen;simp only[aC]at ha;have dG:=O (show BQ A C s2 l bW bH I #[.int i64 k,.string (J op),.string (J nm),.string (J tx),.int i64 v,.slice (some ⟨b,a4,none⟩) N c] (.slice (some ⟨b,a4,none⟩) N c) xs (vs++[ak]) d _ (b3.setCell ⟨I.heap.size+1,K,none⟩ (.int i64 ak))from be.out▸aT.out.arg (by have:=be.out;omega) ak cM.out.1 cM.out.2);have dd:b3.cell? ⟨I.heap.size+1,K,none⟩=(aC vs)[K]? :=aT.out.ab.cell K;rw[GA vs K c3]at dd;clear bw cC j a2);go_roundw
     case rel=>exact⟨a+1,vs++[ak],K+1,ak,d,s2,by go_num,by go_num,rfl,by omega,O (by rw[ac,be.out];rfl),bZ,O (by have:=bY.out;omega),a1,dG,O ⟨bC.out.1.snoc b5,b5⟩,cU⟩
     case measure=>simp[intOf];omega
   ·rw[if_neg hq5]at G bc;have dR:((q.toNat:Int)==105)=false:=by
     rcases bn with rfl|rfl|rfl|rfl
     ·exact absurd rfl hq5
     all_goals decide
    have bZ:=O (show K+((ls.drop (a+1)).filter (· ==105)).length<=2 by have:=bD.out;omega);clear aK bn bc hq5;by_cases ba:bl=2
    ·subst ba;have G:eO (λs y=>ev C n s l y) (ls.drop a) (xs.drop a) vs la d o=eO (λs y=>ev C n s l y) (ls.drop (a+1)) (xs.drop (a+1)) vs la (.txt al) o:=G.trans (if_pos rfl);have a1:=O (show(eO (λs y=>ev C n s l y) (ls.drop (a+1)) (xs.drop (a+1)) vs la (.txt al) o).then (fun(p:List Int×Int×Dt) s=>oV C.R z p.1 p.2.1 p.2.2 s)=aS by rw[<-bd.out,G]);obtain⟨dg,az,eq,d8,cB,cm,c9⟩:=BB (wr.alloc (.cells #[.int i64 2,.string (J bi),.string (J ao),.string (J al),.int i64 bh,.slice bE bA.length bz] 70)) al aD.2;have c0:(wr.alloc (.cells #[.int i64 2,.string (J bi),.string (J ao),.string (J al),.int i64 bh,.slice bE bA.length bz] 70)).heap.size=wr.heap.size+1:=World.size_alloc _ _;have dF:=O ((aq.out.ext cB).put (d':=.txt al) (dv':=.slice (some ⟨dg,0,none⟩) al.length az) ⟨_,_,rfl,cm,aD.2,λb a4 e _=>by injection e with e;injection e with dl cd;omega⟩);have ch:=O (show z=9-> ∀t,Dt.txt al≠ .txt t from λj=>absurd rfl (aW j));clear G cB cm aW aD c0 c9;go_wp2_with fail;go_roundw
     case rel=>exact⟨a+1,vs,K,la,.txt al,o,by go_num,rfl,rfl,by omega,be,bZ,bY,a1,dF,bC,ch⟩
     case measure=>simp[intOf];omega
    ·have G:eO (λs y=>ev C n s l y) (ls.drop a) (xs.drop a) vs la d o=eO (λs y=>ev C n s l y) (ls.drop (a+1)) (xs.drop (a+1)) vs la (.arr ao) o:=G.trans (if_neg ba);have d1:(bl==2)=false:=by simpa using ba
     have a1:=O (show(eO (λs y=>ev C n s l y) (ls.drop (a+1)) (xs.drop (a+1)) vs la (.arr ao) o).then (fun(p:List Int×Int×Dt) s=>oV C.R z p.1 p.2.1 p.2.2 s)=aS by rw[<-bd.out,G]);have c4:=aD.1;have ch:=O (show z=9-> ∀t,Dt.arr ao≠ .txt t from λ_ t e=>by cases e);obtain⟨lf,_,_,_,cs⟩:=aq.out.q.ma.mcl;have dy:=O cs;clear G aW aD cs;go_wp2_with fail;refine aB 8 1 [] mixed Qb trivial ?_
     iterate 8 (refine sx ?_ (λbg V=> ?_) ?_;rotate_left;(focus have eh:=(dq.out.ext V.un).cell;have ei:=(dy.out.ext V.un).cell;have dj:=(aq.out.q.ma.ext V.un).lookA c4;rw[aq.out.q.ma.arrE]at dj;clear V;go_simp<;>with_reducible rfl);simp only[a8,a7,a6,aZ,aY])
     intro b1 aG _;simp only[ae,aQ];have b0:=O ((aq.out.ext aG.un).put (d':=.arr ao) (dv':=sO A ao) rfl);clear aG;go_wp2_with fail;go_roundw
     case rel=>exact⟨a+1,vs,K,la,.arr ao,o,by go_num,rfl,rfl,by omega,be,bZ,bY,a1,b0,bC,ch⟩
     case measure=>simp[intOf];omega
  ·obtain rfl:a=N:=Qa
   have c7: ¬(a:Int)<a:=Qa
   have cH:=O (show oV C.R z vs la d o=aS by rw[<-bd.out,yZ (by have:=cN.out;omega)];rfl);have cv:=M.out.dt.len M.out.q.ma;have cP:=O M.out.dt;have cS:=O M.out.ab;have dV:=M.out.q.hw;obtain⟨bf,az,cZ,bI,b7⟩:=(M.out.dt.toV Qa).sl M.out.q.ma;have ha:=M.out.ab.cell;simp only[aC]at ha;have d7:=EU;have aA:=O M.out.q.mv;have aj:=O M.out.q.ma;have a9:=bC.out.2;unfold jH at a9;have dS:K<=2:=by have:=bD.out;omega
   subst cZ;obtain⟨an,bb⟩: ∃x,d.rd o=x:=⟨_,rfl⟩
   rw[bb]at cv bI b7;obtain⟨bj,bo⟩: ∃x,an.length=x:=⟨_,rfl⟩
   have bB:=O bo;have bX:=O bI;have cF:=O b7;have et:=O bb;have c8:=bI.le;rw[bb,bo];rw[bo]at cv c8;have w:=cH.out;obtain⟨a0,bO⟩: ∃x,vs.getD 0 0=x:=⟨_,rfl⟩
   obtain⟨aP,bM⟩: ∃x,vs.getD 1 0=x:=⟨_,rfl⟩
   obtain⟨aO,bL⟩: ∃x,vs.getD 2 0=x:=⟨_,rfl⟩
   unfold oV at w;rw[bO,bM,bL,bb]at w;rw[bO,bM,bL]at ha;have dP: ∀ak:Int,IntKind.i32.wrap ak=m9 ak:=λ_=>rfl;have bK:=cS.out;unfold aC at bK;rw[bO,bM,bL]at bK;have cR:=O bK;rw[bb,bo]at cP;have cw:I.heap.size+1≠A.g:=by have:=aj.out.ok.g;simp only[MX.S]at this;omega
   have cO:=O cw;clear bI b7 bo bb bO bM bL cH bd be bD bC bK cS cw;by_cases ai:z≠9/\z≠10
   ·rw[if_pos ai]at w;obtain⟨c1,c2⟩:=ai;have dL:(z !=9)=true:=by simpa using c1
    have dM:(z !=10)=true:=by simpa using c2
    have ag:=O (λW (j:MA A C o W) (bx:Sl W bf az an)=>show Calls prog 49 #[A.p,.int i64 z,.agg #[.int i64 a0,.int i64 aP,.int i64 aO],.slice bf bj az] W (D' A C W (gZ C.R o z a0 aP aO an))from bB.out▸ny A C o W j z a0 aP aO an bf az bx (by have:=bB.out;omega) cF.out);simp only[MX.p]at ag;rcases ah:gZ C.R o z a0 aP aO an with bG|⟨⟨r1,r2⟩,s2⟩
    ·rw[ah,fj]at w;have X:=O w.symm;clear w;go_wp2_with (go_at_call 49;refine(ag.out _ M.out.q.ma bX.out).mono ?_;intro e a3 j;rw[ah]at j;obtain⟨af,ap,ar⟩:=j;unfold jT at ap;subst ap;have aX:=O (aA.out.trans (.ms_g aj.out.ok af));have aF:=O ar;clear af ar ag);exact⟨rfl,dK aX.out X.out rfl aF.out⟩
    ·rw[ah,gh]at w;have X:=O w.symm;clear w;go_wp2_with (go_at_call 49;refine(ag.out _ M.out.q.ma bX.out).mono ?_;intro e a3 j;rw[ah]at j;obtain⟨af,aM,ax,av,rfl,bm,_⟩:=j;have aX:=O (aA.out.trans (.ms_g aj.out.ok af));have dH:=O aM;clear af aM bm ag);go_ret;exact fh aX.out X.out dH.out
   rw[if_neg ai]at w;by_cases hbad:la<0\/(an.length:Int)<la\/128<la
   ·rw[if_pos hbad]at w;have X:=O w.symm;have aF:=O (aj.out.halt 2);have bu:z=9\/z=10:=Qa
    have cp:(an.length:Int)=bj:=by have:=bB.out;omega
    rw[cp]at hbad;clear w ai cp;by_cases hb1:la<0
    ·rcases bu with rfl|rfl;all_goals
      go_wp2_with fail;exact⟨rfl,dK aA.out X.out rfl aF.out⟩
    ·by_cases hb2:(bj:Int)<la
     ·rcases bu with rfl|rfl;all_goals
       go_wp2_with fail;exact⟨rfl,dK aA.out X.out rfl aF.out⟩
     ·have d9:(128:Int)<la:=Qa
      rcases bu with rfl|rfl;all_goals
       go_wp2_with fail;exact⟨rfl,dK aA.out X.out rfl aF.out⟩
   rw[if_neg hbad]at w;obtain⟨ad,rfl⟩:=d6 (show 0<=la by omega);have dZ:ad<=bj:=by have:=bB.out;omega
   have d2: ¬(128:Int)<(ad:Int):=Qa
   have dY: ¬(bj:Int)<(ad:Int):=Qa
   have d0:ad<=az:=Qa
   have d3: ¬(ad:Int)<0:=Qa
   simp only[eS]at w;have bu:z=9\/z=10:=Qa
   clear hbad ai a9;rcases bu with rfl|rfl
   ·rw[if_neg Qc]at w;have ag:=O (λW (j:MA A C o W)=>show Calls prog 49 #[A.p,.int i64 9,.agg #[.int i64 a0,.int i64 aP,.int i64 aO],.slice none 0 0] W (D' A C W (gZ C.R o 9 a0 aP aO []))from ny A C o W j 9 a0 aP aO [] none 0 (kC W) Qd (λb a4 e=>by cases e));simp only[MX.p]at ag;have cx:=Bt cP.out (cU.out rfl);rcases ah:gZ C.R o 9 a0 aP aO []with bG|⟨⟨r1,r2⟩,s2⟩
    ·rw[ah,fj]at w;have X:=O w.symm;clear w cx;go_wp2_with (go_at_call 49;refine(ag.out _ aj.out).mono ?_;intro e a3 j;rw[ah]at j;obtain⟨af,ap,ar⟩:=j;unfold jT at ap;subst ap;have aX:=O (aA.out.trans (.ms_g aj.out.ok af));have aF:=O ar;clear af ar ag);exact⟨rfl,dK aX.out X.out rfl aF.out⟩
    ·rw[ah,gh]at w;have X:=O w.symm;obtain⟨a5,cq⟩: ∃x,r2.length=x:=⟨_,rfl⟩
     have cK:=O cq;clear w cq;go_wp2_with (go_at_call 49;refine(ag.out _ aj.out).mono ?_;intro e a3 j;rw[ah]at j;obtain⟨af,aM,ax,av,ap,bm,_⟩:=j;rw[cK.out]at ap;subst ap;have bU:=Z a3 (.cells #[.int i64 r1,.slice ax a5 av] 80);have cL:=O ((aA.out.trans (.ms_g aj.out.ok af)).trans (.of_ext bU));have cT:=O (aM.ext bU);have cG:=O (bm.ext bU);have aT:=O (aw a3 80 #[.int i64 r1,.slice ax a5 av]);have ds:=O aM.top;clear af aM bm ag bU);refine aB 5 1 [] mixed Qb trivial ?_
     iterate 5 (refine sx ?_ (λbg V=> ?_) ?_;rotate_left;(focus have ej:=(aT.out.ext V.un).cell;clear V;go_simp<;>with_reducible rfl);simp only[a8,a7,a6,aZ,aY])
     intro b1 aG _;simp only[ae,au];have cf:=O (cL.out.trans (.of_ext aG.un));have aU:=O (cT.out.ext aG.un);have du:=O (cG.out.ext aG.un);have b0:=O (aT.out.ext aG.un);clear aG cL cT cG aT;rcases cx with⟨rfl,rfl,rfl,da⟩|⟨nmq,rfl,rfl,hnq,hcq,hz⟩
     ·obtain rfl:ad=0:=Qa
      have dC:=O (show aS=.ok (m9 r1,s2) by rw[X.out,Gg aU.out da]);have di:=b0.out.cell;refine wpList_copy_nothing rfl _ _ _ _ rfl 5 underlying40 Qb none ax 0 0 a5 av rfl rfl (Nat.min_zero _) ?_;go_wp2_with fail;go_ret;exact fh cf.out dC.out aU.out
     ·have c6:A.rb nmq≠a3.heap.size:=λe=>by
       have aN:=aU.out.len nmq;have bx:=(aU.out.row nmq (λe=>by rw[e]at aN;exact hz aN.symm)).2.1;have ef:=aA.out.size;have ee:=aj.out.top;have ed:=cf.out.size;have ec:=ds.out;simp only[MX.S]at bx;omega
      have aN:=aU.out.len nmq;have cn:=(aU.out.row nmq (λe=>by rw[e]at aN;exact hz aN.symm)).1;subst hnq;refine rS bt rfl _ _ rfl (A.rb nmq) 0 ad az rfl (s2.arrs nmq) cn ax av r2 (by rw[cK.out];rfl) du.out Qa ?_;intro ci dN ct bJ;have cg:=O (aU.out.putD hz ad Qa r2 bJ ct);have ce:=O (cf.out.trans (.of_grown bJ λk e=>by injection e with e;subst e;exact(aU.out.row nmq (λe=>by rw[e]at aN;exact hz aN.symm)).2.1));have di:=(b0.out.grown bJ (od (gp c6))).cell;clear ct bJ cn aN;go_wp2_with fail;go_ret;exact fh ce.out X.out cg.out
   ·rw[if_pos rfl]at w;have ba:(an.take ad).length=ad:=by rw[bN];have:=bB.out;omega
    have ag:=O (λW (j:MA A C o W) (bx:Sl W bf az an)=>show Calls prog 49 #[A.p,.int i64 10,.agg #[.int i64 a0,.int i64 0,.int i64 0],.slice bf ad az] W (D' A C W (gZ C.R o 10 a0 0 0 (an.take ad)))from by
     have:=ny A C o W j 10 a0 0 0 (an.take ad) bf az (bx.take ad) Qa (λb a4 e c5=>cF.out b a4 e (λcd=>c5 (by rw[cd];simp)))
     rwa [ba]at this)
    simp only[MX.p]at ag;clear ba;go_wp2_with fail;rcases ah:gZ C.R o 10 a0 0 0 (an.take ad)with bG|⟨⟨r1,r2⟩,s2⟩
    ·rw[ah,fj]at w;have X:=O w.symm;clear w;refine bV 11 8 [(8,λx=>x=.agg #[.int i64 0,.slice none 0 0],λ_ _=>False)] 8 (some A.g) mixed Qb ⟨λ_ _ _ j _=>j,trivial⟩ ⟨.inl rfl,trivial⟩ ?_
     iterate 8 (refine sx ?_ (λbg V=> ?_) ?_;rotate_left;(focus have dh:=(cR.out.grown (aJ V) (od cO.out)).cell;clear V;go_simp<;>with_reducible rfl);simp only[a8,a7,a6,aZ,aY])
     refine bR _ _ Qe rfl ⟨_,rfl⟩ rfl (λb2 aL ai dn cA=> ?_) ?_
     ·clear ai;have br:=ag.out b2 (aj.out.ext aL.un) (bX.out.ext aL.un);rw[ah]at br;have dz:=O (aA.out.trans (.of_ext aL.un));clear aL;go_simp;refine br.mono ?_;intro e b1 j;obtain⟨af,ap,ar⟩:=j;unfold jT at ap;subst ap;intro ep db;exact⟨db,dK (dz.out.trans (.ms_g aj.out.ok af)) X.out rfl ar⟩
     rintro _ rfl;simp only[a8,a7,a6,aZ,aY]
     iterate 2 (refine sx ?_ (λbg V=> ?_) ?_;rotate_left;(focus clear V;go_simp<;>with_reducible rfl);simp only[a8,a7,a6,aZ,aY])
     intro ci b6 ai;exact(ai _ (.head _)).elim
    ·rw[ah,gh]at w;have X:=O w.symm;clear w;refine bV 11 8 [(8,λx=> ∃(ax:Option Addr) (a5 av:Nat),x=.agg #[.int i64 r1,.slice ax a5 av],λ_ W=>MA A C s2 W)] 8 (some A.g) mixed Qb ⟨λ_ _ _ j df=>j.ext df,trivial⟩ ⟨.inl rfl,trivial⟩ ?_
     iterate 8 (refine sx ?_ (λbg V=> ?_) ?_;rotate_left;(focus have dh:=(cR.out.grown (aJ V) (od cO.out)).cell;clear V;go_simp<;>with_reducible rfl);simp only[a8,a7,a6,aZ,aY])
     refine bR _ _ Qe rfl ⟨_,none,0,0,rfl⟩ rfl (λb2 aL ai dn cA=> ?_) ?_
     ·clear ai;have br:=ag.out b2 (aj.out.ext aL.un) (bX.out.ext aL.un);rw[ah]at br;clear aL;go_simp;refine br.mono ?_;intro e b1 j;obtain⟨af,aM,ax,av,rfl,bm,_⟩:=j;exact cA _ _ af ⟨ax,_,av,rfl⟩ aM
     rintro _ ⟨ax,a5,av,rfl⟩;simp only[a8,a7,a6,aZ,aY]
     iterate 2 (refine sx ?_ (λbg V=> ?_) ?_;rotate_left;(focus clear V;go_simp<;>with_reducible rfl);simp only[a8,a7,a6,aZ,aY])
     intro ci b6 ai;have ce:=O (aA.out.trans (.ms_g aj.out.ok (aJ b6)));have cg:=O (ai _ (.head _));clear b6 ai;simp only[ae,au];go_wp2_with fail;go_ret;exact fh ce.out X.out cg.out
theorem pX (w:MX) (C:Cx) (n:Nat) (a2:Im w C n):H7 w C n:=by
 intro xs aX bd av l ar ao aw bC c aC a5 aZ a3;have aY:=aC.ok;have a1:=dF xs;have a9:=O (λy (ae:y∈xs)=>a2 y (CE aX y ae) (by have:=bO ae;omega));have aO:=O a3;have bj:=O aY;have bn:=O aC;have aQ:=O a5;obtain⟨N,aB⟩: ∃N,xs.length=N:=⟨_,rfl⟩
 have bb:=O aB;rw[aB]at aO a1⊢;have bu:N<=1073741824:=Qa
 obtain⟨aN,aA⟩: ∃bg,nO (λs l y=>st C n s l y) av l xs=bg:=⟨_,rfl⟩
 have bi:=O (show nO (λs l y=>st C n s l y) av l (xs.drop 0)=aN from aA);have bh:=O (j6 (w.T ar ao) aw);have bl:=O aZ;rw[aA];clear aC a5 a3 aA aB aY a2 aX a1 aZ bd;simp only[MX.p]at*;go_enter func86,ntmps86;go_wp2_with fail
 go_loopw [10] (λax wr=> ∃(a:Nat) (G:Ms) (R:Lo),ax=.int i64 (a:Int)/\a<=N/\Hid (2*G.left<=n)/\Hid (nO (λs l y=>st C n s l y) G R (xs.drop a)=aN)/\Hid (Mv (w.T ar ao) aw wr)/\Hid (MA w C G wr)/\Hid (FI w ar ao R none wr)) (λax _=>N-(intOf ax).toNat)
 case atStart=>exact⟨0,av,l,rfl,aI _,bl,bi,bh,bn,aQ⟩
 case round=>
  obtain⟨a,G,R,rfl,bt,ba,X,au,aR,an⟩:=hrel;by_cases hlt:a<N
  ·have be:(a:Int)<N:=Qa
   have az:a<xs.length:=by have:=bb.out;omega
   obtain⟨b,bp,e,bB,bq,rfl,j,aj,aq,ap,a8,a7,a6,ah,ai,ag⟩:=aO.out.at_ a az;have o:=zV (S:=λs l y=>st C n s l y) (s:=G) (l:=R) az;have af:=a9.out _ (ay az);obtain⟨y,ae⟩: ∃y,xs[a]=y:=⟨_,rfl⟩
   rw[ae]at aq ap ah ai ag o af;clear ae;obtain⟨k,nm,aF,aM,aG⟩:=y;unfold H6 at af;simp only[St.k,St.nm,St.ex,St.body,St.els]at aq ap ah ai ag af;have z:cR w.P aw wr:=au.out.keepP λk bf _=>MX.T_P aQ.out.f aQ.out.l bj.out bf;have bA:=(z.cell _ aj j).trans aq;have bz:=(z.cell _ aj j).trans ap;have bx:=(z.cell _ aj j).trans a8;have bw:=(z.cell _ aj j).trans a7;have bv:=(z.cell _ aj j).trans a6;obtain⟨aV,aK,rfl,_⟩:=ah.form;obtain⟨aU,aJ,rfl,_⟩:=ai.form;obtain⟨aT,aH,rfl,_⟩:=ag.form;have ac:=Z wr (.cells #[.int i64 k,.string (J nm),.slice aV aF.length aK,.slice aU aM.length aJ,.slice aT aG.length aH] 72);have A:=O (af G R ar ao _ aV aU aT aK aJ aH (aR.out.ext ac) (an.out.ext ac) ba.out ((ah.keep z (Q:=w.P) λb j _=>j).xt ac) ((ai.keep z (Q:=w.P) λb j _=>j).xt ac) ((ag.keep z (Q:=w.P) λb j _=>j).xt ac));have ad:=O (au.out.alloc (.cells #[.int i64 k,.string (J nm),.slice aV aF.length aK,.slice aU aM.length aJ,.slice aT aG.length aH] 72));have bc:=O (aE an.out.f an.out.l);clear aq ap a8 a7 a6 ah ai ag af ac z aO a9 au aR an;simp only[MX.p]at A;rcases ab:st C n G R (.mk k nm aF aM aG)with bo|⟨⟨rt,l2⟩,s2⟩
   ·rw[ab]at o A;rw[fj]at o;have I:=O (X.out.symm.trans o);clear o ab X;go_wp2_with (go_at_call 130;refine A.out.mono ?_;intro e aW M;obtain⟨K,rfl,a4⟩:=M.err_;have al:=O (ad.out.trans K);have bm:=O a4;clear K a4 M A ad);exact⟨rfl,dB al.out I.out rfl bm.out⟩
   ·have br:=CC ab;rw[ab]at o A;rw[gh]at o
    cases rt with
    |some v=>
     have I:=O (X.out.symm.trans o);clear o ab X;go_wp2_with (go_at_call 130;refine A.out.mono ?_;intro e aW M;obtain⟨K,rfl,ak,V⟩:=M.ok_;have al:=O (ad.out.trans K);have aS:=O ak;have aP:=O V;have aD:=V.blk.cell;simp only[i7,c8,bM]at aD;clear K ak V M A ad);exact bodyPost_ret (results_none rfl _ _ _) rfl (iY al.out I.out aS.out aP.out)
    |none=>
     have I:=O (o.symm.trans X.out);have bk:=O (show 2*s2.left<=n by have:=ba.out;omega);clear o ab X;go_wp2_with (go_at_call 130;refine A.out.mono ?_;intro e aW M;obtain⟨K,rfl,ak,V⟩:=M.ok_;have al:=O (ad.out.trans K);have aS:=O ak;have aP:=O V;have aD:=V.blk.cell;simp only[i7,dq,eC]at aD;clear K ak V M A ad);go_roundw
     case rel=>exact⟨a+1,s2,l2,by go_num,by omega,bk,I,al,aS,O ⟨aP.out,bc.out.1,bc.out.2⟩⟩
     case measure=>simp[intOf];omega
  ·have be: ¬(a:Int)<N:=Qa
   have I:=O (show aN=.ok ((none,R),G) by
    have:=X.out;rw[aL (by have:=bb.out;omega),nO]at this
    exact this.symm)
   go_wp2_with fail;exact bodyPost_end (results_none rfl _ _ _) rfl (iY au.out I.out aR.out an.out.fr)
structure TQ (X:MX) (C:Cx) (σ:Ms) (l:Lo) (ret:Option Int) (fb lb:Nat) (w:World) (cs:Array Value) (ve vb vl:Value) (ex:List Ex) (bd el:List St) (W:World):Prop where
 mv:Mv (X.T fb lb) w W
 ma:MA X C σ W
 fi:FI X fb lb l ret W
 b0:aU W w.heap.size 122 #[X.p]
 b1:aU W (w.heap.size+1) 180 #[.pointer (some ⟨fb,0,none⟩)]
 b2:aU W (w.heap.size+1+1) 72 cs
 re:c7 W X.P ve ex
 rb:db W X.P vb bd
 rl:db W X.P vl el
 lf:fb<w.heap.size
 ll:lb<w.heap.size
 hw:X.hi<=w.heap.size
section
variable {X:MX} {C:Cx} {σ σ':Ms} {l l':Lo} {ret ret':Option Int} {fb lb:Nat} {w W W':World} {cs:Array Value} {ve vb vl:Value} {ex:List Ex} {bd el:List St}
theorem TQ.mt (a:TQ X C σ l ret fb lb w cs ve vb vl ex bd el W) (h:Mv (X.T fb lb) W W') (G:MA X C σ' W') (A:FR fb lb l' ret' W'):TQ X C σ' l' ret' fb lb w cs ve vb vl ex bd el W':=by
 have z:=a.hw;have lf:=a.lf;have o:=a.ll;have j: ∀k,w.heap.size<=k-> ¬X.T fb lb k:=λk K e=>by
  simp only[MX.T,MX.S]at e;omega
 exact⟨a.mv.trans h,G,⟨A,a.fi.f,a.fi.l⟩,h.blk a.b0 (j _ (ak _)),h.blk a.b1 (j _ Qa),h.blk a.b2 (j _ Qa),a.re.mt a.fi a.ma.ok h,a.rb.mt a.fi a.ma.ok h,a.rl.mt a.fi a.ma.ok h,lf,o,z⟩
theorem TQ.ms (a:TQ X C σ l ret fb lb w cs ve vb vl ex bd el W) (h:Mv X.S W W') (j:MA X C σ' W'):TQ X C σ' l ret fb lb w cs ve vb vl ex bd el W':=a.mt (h.mono λk _ a=> .inl a) j (a.fi.ms h).fr
theorem TQ.ext (h:TQ X C σ l ret fb lb w cs ve vb vl ex bd el W) (a:az W W'):TQ X C σ l ret fb lb w cs ve vb vl ex bd el W':=h.ms (.of_ext a) (h.ma.ext a)
theorem kO (o:MA X C σ w) (h:FI X fb lb l ret w) (O:c7 w X.P ve ex) (M:db w X.P vb bd) (K:db w X.P vl el) (cs:Array Value):
  TQ X C σ l ret fb lb w cs ve vb vl ex bd el (((w.alloc (.cells #[X.p] 122)).alloc (.cells #[.pointer (some ⟨fb,0,none⟩)] 180)).alloc (.cells cs 72)):=by
 have R:=Z w (.cells #[X.p] 122);have z:=Z (w.alloc (.cells #[X.p] 122)) (.cells #[.pointer (some ⟨fb,0,none⟩)] 180);have j:=Z ((w.alloc (.cells #[X.p] 122)).alloc (.cells #[.pointer (some ⟨fb,0,none⟩)] 180)) (.cells cs 72);have a:=(R.trans z).trans j;have G:=(aw (w.alloc (.cells #[X.p] 122)) 180 #[.pointer (some ⟨fb,0,none⟩)]).ext j;have A:=aw ((w.alloc (.cells #[X.p] 122)).alloc (.cells #[.pointer (some ⟨fb,0,none⟩)] 180)) 72 cs;rw[World.size_alloc]at G;rw[World.size_alloc,World.size_alloc]at A;exact⟨.of_ext a,o.ext a,h.ext a,((aw w _ _).ext z).ext j,G,A,O.xt a,M.xt a,K.xt a,h.fr.blk.lt,h.fr.m.lt,o.top⟩
structure Cg (X:MX) (C:Cx) (σ:Ms) (l:Lo) (fb lb pm pf ps:Nat) (cs:Array Value) (ve:Value) (ex:List Ex) (W:World):Prop where
 ma:MA X C σ W
 fi:FI X fb lb l none W
 b0:aU W pm 122 #[X.p]
 b1:aU W pf 180 #[.pointer (some ⟨fb,0,none⟩)]
 b2:aU W ps 72 cs
 re:c7 W X.P ve ex
theorem TQ.vq (a:TQ X C σ l none fb lb w cs ve vb vl ex bd el W):Cg X C σ l fb lb w.heap.size (w.heap.size+1) (w.heap.size+1+1) cs ve ex W:=⟨a.ma,a.fi,a.b0,a.b1,a.b2,a.re⟩
end
theorem Cl (C:Cx) (n:Nat) (s:Ms) (l:Lo):val C n s l []=.ok (0,s):=rfl
theorem zm (C:Cx) (n:Nat) (s:Ms) (l:Lo) (x:Ex) (r:List Ex):val C n s l (x::r)=ev C n s l x:=rfl
theorem iJ (ab:MX) (C:Cx) (n:Nat) (k:Int) (nm:List UInt8) (G:List Ex) (aq: ∀y∈G,oQ ab C n y) (j:Ms) (l:Lo) (aw an ak al ps:Nat) (ay:Option Addr) (N c:Nat) (aD aC:Value) (o:World) (a:Cg ab C j l aw an ak al ps #[.int i64 k,.string (J nm),.slice ay N c,aD,aC] (.slice ay N c) G o) (aJ:2*j.left<=n):
  Calls prog 163 #[.pointer (some ⟨ps,0,none⟩),.pointer (some ⟨ak,0,none⟩),.pointer (some ⟨al,0,none⟩)] o (wg ab C o (val C n j l G)):=by
 have V:N=G.length:=by obtain⟨bf,be,e,_⟩:=a.re.form;injection e
 have aQ:=O (j6 ab.S o)
 cases G with
 |nil=>
  simp only[ai]at V;subst V;have af:=a.b2.cell;have aj:=O a.ma;clear a;go_enter func163,ntmps163;go_wp2_with fail;go_ret;exact fh aQ.out (Cl C n j l) aj.out
 |cons y r=>
  have a2:0<N:=by rw[V];simp
  have a1:(0:Int)<(N:Int):=Qa
  have aX:((N:Int)==0)=false:=Qh
  obtain⟨b,aV,B,d,aM,aL,aW,X,I⟩:=a.re.yc 0 Qd;subst aM;simp only[aK,bp,bE]at X I;have R:=aq y Qd;obtain⟨aI,aG,aH,aF,aE,aN⟩:=y;unfold oQ at R;simp only[Ex.k,Ex.op,Ex.nm,Ex.tx,Ex.v,Ex.args]at X I R;have aP:=O X;have ax:=O I;have ag:=O R;have K:=O a;have af:=a.b2.cell;clear a X I R aq V;rw[zm];generalize ap:ev C n j l (Ex.mk aI aG aH aF aE aN)=aO at*;simp only[MX.p]at ag;have M:=O (λW (ad:az o W)=>ag.out j l aw an W B d (K.out.ma.ext ad) (K.out.fi.ext ad) aJ (ax.out.xt ad));rw[ap]at M;clear ag ax ap;go_enter func163,ntmps163;go_wp2_with fail;refine aB 6 1 [] mixed Qb trivial ?_;repeat (refine sx ?_ (λaT w=> ?_) ?_;rotate_left;(focus have a4:=(K.out.b0.ext w.un).cell;have a3:=(K.out.b1.ext w.un).cell;have af:=(K.out.b2.ext w.un).cell;obtain⟨bd,bc,bb,ba,a9,a5⟩:=aP.out.kp (.of_ext (P:=λ_=>True) w.un) trivial aL;clear w;go_simp<;>with_reducible rfl);simp only[a8,a7,a6,aZ,aY])
  intro aS ao _;simp only[ae,au];have ac:=O ao.un;clear ao af;rcases aO with aU|⟨v,s1⟩
  ·go_wp2_with (go_at_call 164;refine(M.out _ ac.out).mono ?_;intro e aA A;obtain⟨z,rfl,ar⟩:=A.err_;have ah:=O ((Mv.of_ext ac.out).trans z);have aR:=O ar;clear z ar A M);exact⟨rfl,dK ah.out rfl rfl aR.out⟩
  ·go_wp2_with (go_at_call 164;refine(M.out _ ac.out).mono ?_;intro e aA A;obtain⟨z,rfl,av⟩:=A.ok_;have ah:=O ((Mv.of_ext ac.out).trans z);have aj:=O av;clear z av A M);go_ret;exact fh ah.out rfl aj.out
section
variable {X:MX} {C:Cx} {σ σ':Ms} {l l':Lo} {ret ret':Option Int} {fb lb:Nat} {w W W':World} {cs:Array Value} {ve vb vl:Value} {ex:List Ex} {bd el:List St}
theorem TQ.cl (a:TQ X C σ l ret fb lb w cs ve vb vl ex bd el W) (h:Mv X.S W W'):aU W' w.heap.size 122 #[X.p]/\aU W' (w.heap.size+1) 180 #[.pointer (some ⟨fb,0,none⟩)]/\aU W' (w.heap.size+1+1) 72 cs/\aU W' fb 182 (i7 lb ret):=by
 have j:=a.hw;exact⟨h.blk a.b0 (jm j),h.blk a.b1 (jm Qa),h.blk a.b2 (jm Qa),h.blk a.fi.fr.blk (jm a.fi.f)⟩
theorem TQ.lset {nm:List UInt8} {v:Int} (a:TQ X C σ l ret fb lb w cs ve vb vl ex bd el W) (o:jH v) (z:cd W' lb ((A8 l).upd nm (.int .i32 v))) (h:W.grownBy W' (some lb)):TQ X C σ (l.upd nm v) ret fb lb w cs ve vb vl ex bd el W':=
 have j:Mv (λk=>k=lb) W W':=.of_grown h λk e=>by injection e with e;exact e.symm
 a.mt (j.mono λk _ e=> .inr (.inr e)) (a.ma.mv j λk A e=>by have:=a.fi.l;omega) (a.fi.fr.upd o z h)
end
def uu (X:MX) (C:Cx) (n:Nat) (x:St):Prop:= ∀(σ:Ms) (l:Lo) (fb lb:Nat) (w:World) (A1 A2 A3:Option Addr) (c1 c2 c3:Nat),MA X C σ w->FI X fb lb l none w->σ.left≠0->2*σ.left<=n+1->
 c7 w X.P (.slice A1 x.ex.length c1) x.ex->db w X.P (.slice A2 x.body.length c2) x.body->db w X.P (.slice A3 x.els.length c3) x.els->
 Calls prog 130 #[X.p,.pointer (some ⟨fb,0,none⟩),.agg #[.int i64 x.k,.string (J x.nm),.slice A1 x.ex.length c1,.slice A2 x.body.length c2,.slice A3 x.els.length c3]] w (B5 X C fb lb w (st C (n+1) σ l x))
theorem wZ (j:MX) (C:Cx) (n:Nat) (x:St) (o:Ms) (l:Lo) (G ac:Nat) (a:World) (ab I X:Option Addr) (R M K:Nat) (ah:MA j C o a) (ag:FI j G ac l none a) (ad:o.left=0)
  (z:c7 a j.P (.slice ab x.ex.length R) x.ex) (A:db a j.P (.slice I x.body.length M) x.body) (w:db a j.P (.slice X x.els.length K) x.els):
  Calls prog 130 #[j.p,.pointer (some ⟨G,0,none⟩),.agg #[.int i64 x.k,.string (J x.nm),.slice ab x.ex.length R,.slice I x.body.length M,.slice X x.els.length K]] a (B5 j C G ac a (st C n o l x)):=by
 have aq:=O (show st C n o l x=.error o.long by cases n with|zero=>rw[st]|succ n=>rw[st,if_pos ad]);obtain⟨k,nm,aj,al,ak⟩:=x;simp only[St.k,St.nm,St.ex,St.body,St.els]at z A w⊢;have V:=O (kO ah ag z A w #[.int i64 k,.string (J nm),.slice ab aj.length R,.slice I al.length M,.slice X ak.length K]);have an:=O (w_ V.out.ma ad);have au:=V.out.b0.cell;clear ah ag z A w;simp only[MX.p]at*;go_enter func130,ntmps130;go_wp2_with (go_at_call 162;refine an.out.mono ?_;rintro e ar ⟨rfl,ae,af⟩;have ao:=O (V.out.mv.trans (ae.mono λk _ ai=> .inl ai));have ap:=O af;clear ae af);exact⟨rfl,dB ao.out aq.out rfl ap.out⟩
theorem Do (M:MX) (C:Cx) (n:Nat) (nm:List UInt8) (o:List Ex) (aq ap:List St) (bb:nm.length<=1073741824) (a3: ∀y∈o,oQ M C n y):uu M C n (.mk 1 nm o aq ap):=by
 intro R l aQ aL w aw aK aJ ar aF aE ao aD aN bc aB aC aA;simp only[St.k,St.nm,St.ex,St.body,St.els]at aB aC aA⊢;have aW:2*R.step.left<=n:=by show 2*(R.left-1)<=n;omega
 have ad:=O (kO ao aD aB aC aA #[.int i64 1,.string (J nm),.slice aw o.length ar,.slice aK aq.length aF,.slice aJ ap.length aE]);have av:=O (fY ad.out.ma aN);have aG:=O (λW (j:Cg M C R.step l aQ aL w.heap.size (w.heap.size+1) (w.heap.size+1+1) #[.int i64 1,.string (J nm),.slice aw o.length ar,.slice aK aq.length aF,.slice aJ ap.length aE] (.slice aw o.length ar) o W)=>iJ M C n 1 nm o a3 R.step l aQ aL w.heap.size (w.heap.size+1) (w.heap.size+1+1) aw o.length ar (.slice aK aq.length aF) (.slice aJ ap.length aE) W j aW);have bd: ∀(fn:Fn) (first aR:Array Value) (w:World),(Instr.makeFunc fn first aR).run prog w=.ok (.func fn first aR) w:=λ_ _ _ _=>rfl;have K:=Ga (C:=C) (n:=n) (l:=l) (nm:=nm) (e:=o) (b:=aq) (c:=ap) aN;have A:=ad.out.b0.cell;have aV:lH R.step:=λx=>ao.rng x;have aX:=aD.fr.rng;clear ao aD aB aC aA;simp only[MX.p]at*;rcases aj:val C n R.step l o with ba|⟨v,s1⟩
 ·rw[aj,fj]at K;have aI:=O K;clear K;go_enter func130,ntmps130;go_wp2_with (go_at_call 162;refine av.out.mono ?_;rintro e ay ⟨rfl,z,an⟩;have a:=O (ad.out.ms z an);clear A;have A:=a.out.b0.cell;have ab:=a.out.b1.cell;have I:=a.out.b2.cell;have X:=a.out.fi.fr.blk.cell;clear z an av ad);clear A ab I X;refine eU M.S 8 8 [(7,λx=>x=.int .i32 0,λ_ _=>False)] 7 mixed Qb ⟨λ_ _ _ j _=>j,trivial⟩ ⟨.inl rfl,trivial⟩ ?_;repeat (refine sx ?_ (λay al=> ?_) ?_;rotate_left;(focus obtain⟨ai,ah,ag,af⟩:=a.out.cl al.un;have A:=ai.cell;have ab:=ah.cell;have I:=ag.cell;have X:=af.cell;clear al ai ah ag af;go_simp<;>with_reducible rfl);simp only[a8,a7,a6,aZ,aY])
  refine bR _ _ Qe rfl ⟨_,rfl⟩ rfl (λax V G a4 aP=> ?_) ?_
  ·clear G;have ak:=aG.out ax (a.out.ext V.un).vq;rw[aj]at ak;have a5:=O (a.out.mv.trans (.of_ext V.un));clear V;go_simp;refine ak.mono ?_;intro e aT j;obtain⟨z,rfl,a2⟩:=j.err_;intro be a1;exact⟨a1,dB (a5.out.trans (z.mono λk _ j=> .inl j)) aI.out rfl a2⟩
  rintro _ rfl;simp only[a8,a7,a6,aZ,aY];intro aS az G;exact(G _ (.head _)).elim
 ·rw[aj,gh]at K;have aI:=O K;have aU:=rW aj aV aX;clear K;go_enter func130,ntmps130;go_wp2_with (go_at_call 162;refine av.out.mono ?_;rintro e ay ⟨rfl,z,an⟩;have a:=O (ad.out.ms z an);clear A;have A:=a.out.b0.cell;have ab:=a.out.b1.cell;have I:=a.out.b2.cell;have X:=a.out.fi.fr.blk.cell;clear z an av ad);clear A ab I X;refine eU M.S 8 8 [(7,λx=>x=.int .i32 v,λ_ W=>MA M C s1 W)] 7 mixed Qb ⟨λ_ _ _ j K=>j.ext K,trivial⟩ ⟨.inl rfl,trivial⟩ ?_;repeat (refine sx ?_ (λay al=> ?_) ?_;rotate_left;(focus obtain⟨ai,ah,ag,af⟩:=a.out.cl al.un;have A:=ai.cell;have ab:=ah.cell;have I:=ag.cell;have X:=af.cell;clear al ai ah ag af;go_simp<;>with_reducible rfl);simp only[a8,a7,a6,aZ,aY])
  refine bR _ _ Qe rfl ⟨_,rfl⟩ rfl (λax V G a4 aP=> ?_) ?_
  ·clear G;have ak:=aG.out ax (a.out.ext V.un).vq;rw[aj]at ak;clear V;go_simp;refine ak.mono ?_;intro e aT j;obtain⟨z,rfl,ao⟩:=j.ok_;exact aP _ _ z rfl ao
  rintro _ rfl;simp only[a8,a7,a6,aZ,aY];intro aS az G;have ac:=O (a.out.ms az (G _ (.head _)));clear az G aG a;have A:=ac.out.b0.cell;have ab:=ac.out.b1.cell;have I:=ac.out.b2.cell;have X:=ac.out.fi.fr.blk.cell;simp only[ae,au];go_wp2_with (at_mapUpdate;refine cZ Fh rfl _ _ _ rfl ac.out.fi.fr.m rfl Qg rfl _ rfl ?_;intro a9 aM aO;have aH:=O (ac.out.lset aU aM aO);clear aM aO);exact bodyPost_end (results_none rfl _ _ _) rfl (iY aH.out.mv aI.out aH.out.ma aH.out.fi.fr)
theorem Dn (K:MX) (C:Cx) (n:Nat) (nm:List UInt8) (X:List Ex) (az ay:List St) (aS:nm.length<=1073741824) (a5: ∀y∈X,oQ K C n y):uu K C n (.mk 2 nm X az ay):=by
 intro ap l aE aC I aG aO aN aF aM aL an aK aT bb aI aJ aH;simp only[St.k,St.nm,St.ex,St.body,St.els]at aI aJ aH⊢;have a1:2*ap.step.left<=n:=by show 2*(ap.left-1)<=n;omega
 have al:=O (kO an aK aI aJ aH #[.int i64 2,.string (J nm),.slice aG X.length aF,.slice aO az.length aM,.slice aN ay.length aL]);have av:=O (fY al.out.ma aT);have aA:=O (λW (w:Cg K C ap.step l aE aC I.heap.size (I.heap.size+1) (I.heap.size+1+1) #[.int i64 2,.string (J nm),.slice aG X.length aF,.slice aO az.length aM,.slice aN ay.length aL] (.slice aG X.length aF) X W)=>iJ K C n 2 nm X a5 ap.step l aE aC I.heap.size (I.heap.size+1) (I.heap.size+1+1) aG X.length aF (.slice aO az.length aM) (.slice aN ay.length aL) W w a1);have bc: ∀(fn:Fn) (first aU:Array Value) (I:World),(Instr.makeFunc fn first aU).run prog I=.ok (.func fn first aU) I:=λ_ _ _ _=>rfl;have z:=F_ (C:=C) (n:=n) (l:=l) (nm:=nm) (e:=X) (b:=az) (c:=ay) aT;have A:=al.out.b0.cell;have aX:lH ap.step:=λx=>an.rng x;have a2:=aK.fr.rng;clear an aK aI aJ aH;simp only[MX.p]at*;rcases ar:val C n ap.step l X with ba|⟨v,s1⟩
 ·rw[ar,fj]at z;have aB:=O z;clear z;go_enter func130,ntmps130;go_wp2_with (go_at_call 162;refine av.out.mono ?_;rintro e ax ⟨rfl,o,ak⟩;have a:=O (al.out.ms o ak);clear A;have A:=a.out.b0.cell;have V:=a.out.b1.cell;have R:=a.out.b2.cell;have M:=a.out.fi.fr.blk.cell;clear o ak av al);clear A V R M;refine eU K.S 6 8 [(5,λx=>x=.int .i32 0,λ_ _=>False)] 5 mixed Qb ⟨λ_ _ _ w _=>w,trivial⟩ ⟨.inl rfl,trivial⟩ ?_;repeat (refine sx ?_ (λax aj=> ?_) ?_;rotate_left;(focus obtain⟨ah,ag,af,ad⟩:=a.out.cl aj.un;have A:=ah.cell;have V:=ag.cell;have R:=af.cell;have M:=ad.cell;clear aj ah ag af ad;go_simp<;>with_reducible rfl);simp only[a8,a7,a6,aZ,aY])
  refine bR _ _ Qe rfl ⟨_,rfl⟩ rfl (λaw ab G aV aD=> ?_) ?_
  ·clear G;have ai:=aA.out aw (a.out.ext ab.un).vq;rw[ar]at ai;have a9:=O (a.out.mv.trans (.of_ext ab.un));clear ab;go_simp;refine ai.mono ?_;intro e aQ w;obtain⟨o,rfl,a4⟩:=w.err_;intro bd a3;exact⟨a3,dB (a9.out.trans (o.mono λk _ w=> .inl w)) aB.out rfl a4⟩
  rintro _ rfl;simp only[a8,a7,a6,aZ,aY];intro aP aq G;exact(G _ (.head _)).elim
 ·rw[ar,gh]at z;have aR:=rW ar aX a2
  cases hs:(l nm).isSome with
  |true=>
   rw[if_pos hs]at z;have aB:=O z;clear z;go_enter func130,ntmps130;go_wp2_with (go_at_call 162;refine av.out.mono ?_;rintro e ax ⟨rfl,o,ak⟩;have a:=O (al.out.ms o ak);clear A;have A:=a.out.b0.cell;have V:=a.out.b1.cell;have R:=a.out.b2.cell;have M:=a.out.fi.fr.blk.cell;clear o ak av al);clear A V R M;refine eU K.S 6 8 [(5,λx=>x=.int .i32 v,λ_ W=>MA K C s1 W)] 5 mixed Qb ⟨λ_ _ _ w z=>w.ext z,trivial⟩ ⟨.inl rfl,trivial⟩ ?_;repeat (refine sx ?_ (λax aj=> ?_) ?_;rotate_left;(focus obtain⟨ah,ag,af,ad⟩:=a.out.cl aj.un;have A:=ah.cell;have V:=ag.cell;have R:=af.cell;have M:=ad.cell;clear aj ah ag af ad;go_simp<;>with_reducible rfl);simp only[a8,a7,a6,aZ,aY])
   refine bR _ _ Qe rfl ⟨_,rfl⟩ rfl (λaw ab G aV aD=> ?_) ?_
   ·clear G;have ai:=aA.out aw (a.out.ext ab.un).vq;rw[ar]at ai;clear ab;go_simp;refine ai.mono ?_;intro e aQ w;obtain⟨o,rfl,an⟩:=w.ok_;exact aD _ _ o rfl an
   rintro _ rfl;simp only[a8,a7,a6,aZ,aY];intro aP aq G;have j:=O (a.out.ms aq (G _ (.head _)));clear aq G aA a;have A:=j.out.b0.cell;have V:=j.out.b1.cell;have R:=j.out.b2.cell;have M:=j.out.fi.fr.blk.cell;simp only[ae,au];go_wp2_with (go_at_call 165;refine(qi K C s1 _ j.out.ma aE aC l none j.out.fi.fr ⟨j.out.fi.f,j.out.fi.l⟩ nm aS v aR).mono ?_;unfold GT;rw[hs];rintro e aW ⟨rfl,o,ac⟩;rw[if_pos rfl]at ac;have ao:=O (j.out.mt (o.mono λk _ w=>w.elim (λe=> .inr (.inr e)) λe=> .inl (e▸j.out.ma.ok.i)) ac.1 ac.2);clear o ac);exact bodyPost_end (results_none rfl _ _ _) rfl (iY ao.out.mv aB.out ao.out.ma ao.out.fi.fr)
  |false=>
   rw[if_neg (by rw[hs];decide)]at z;have aB:=O z;clear z;go_enter func130,ntmps130;go_wp2_with (go_at_call 162;refine av.out.mono ?_;rintro e ax ⟨rfl,o,ak⟩;have a:=O (al.out.ms o ak);clear A;have A:=a.out.b0.cell;have V:=a.out.b1.cell;have R:=a.out.b2.cell;have M:=a.out.fi.fr.blk.cell;clear o ak av al);clear A V R M;refine eU K.S 6 8 [(5,λx=>x=.int .i32 v,λ_ W=>MA K C s1 W)] 5 mixed Qb ⟨λ_ _ _ w z=>w.ext z,trivial⟩ ⟨.inl rfl,trivial⟩ ?_;repeat (refine sx ?_ (λax aj=> ?_) ?_;rotate_left;(focus obtain⟨ah,ag,af,ad⟩:=a.out.cl aj.un;have A:=ah.cell;have V:=ag.cell;have R:=af.cell;have M:=ad.cell;clear aj ah ag af ad;go_simp<;>with_reducible rfl);simp only[a8,a7,a6,aZ,aY])
   refine bR _ _ Qe rfl ⟨_,rfl⟩ rfl (λaw ab G aV aD=> ?_) ?_
   ·clear G;have ai:=aA.out aw (a.out.ext ab.un).vq;rw[ar]at ai;clear ab;go_simp;refine ai.mono ?_;intro e aQ w;obtain⟨o,rfl,an⟩:=w.ok_;exact aD _ _ o rfl an
   rintro _ rfl;simp only[a8,a7,a6,aZ,aY];intro aP aq G;have j:=O (a.out.ms aq (G _ (.head _)));clear aq G aA a;have A:=j.out.b0.cell;have V:=j.out.b1.cell;have R:=j.out.b2.cell;have M:=j.out.fi.fr.blk.cell;simp only[ae,au];go_wp2_with (go_at_call 165;refine(qi K C s1 _ j.out.ma aE aC l none j.out.fi.fr ⟨j.out.fi.f,j.out.fi.l⟩ nm aS v aR).mono ?_;unfold GT;rw[hs];rintro e aW ⟨rfl,o,ac⟩;rw[if_neg Qc]at ac;have ao:=O (j.out.mt (o.mono λk _ w=>w.elim (λe=> .inr (.inr e)) λe=> .inl (e▸j.out.ma.ok.i)) ac.1 ac.2);clear o ac);exact bodyPost_end (results_none rfl _ _ _) rfl (iY ao.out.mv aB.out ao.out.ma ao.out.fi.fr)
theorem Di (ad:MX) (C:Cx) (n:Nat) (nm:List UInt8) (w:List Ex) (I X:List St) (aG: ∀y∈w,oQ ad C n y):uu ad C n (.mk 7 nm w I X):=by
 intro G l aB ax z ag aw av ac ar aq al ak ay aL ai aj ah;simp only[St.k,St.nm,St.ex,St.body,St.els]at ai aj ah⊢;have aF:2*G.step.left<=n:=by show 2*(G.left-1)<=n;omega
 have R:=O (kO al ak ai aj ah #[.int i64 7,.string (J nm),.slice ag w.length ac,.slice aw I.length ar,.slice av X.length aq]);have af:=O (fY R.out.ma ay);have ae:=O (λW (o:Cg ad C G.step l aB ax z.heap.size (z.heap.size+1) (z.heap.size+1+1) #[.int i64 7,.string (J nm),.slice ag w.length ac,.slice aw I.length ar,.slice av X.length aq] (.slice ag w.length ac) w W)=>iJ ad C n 7 nm w aG G.step l aB ax z.heap.size (z.heap.size+1) (z.heap.size+1+1) ag w.length ac (.slice aw I.length ar) (.slice av X.length aq) W o aF);have aM: ∀(fn:Fn) (first aC:Array Value) (z:World),(Instr.makeFunc fn first aC).run prog z=.ok (.func fn first aC) z:=λ_ _ _ _=>rfl;have K:=F6 (C:=C) (n:=n) (l:=l) (nm:=nm) (e:=w) (b:=I) (c:=X) ay;have M:=R.out.b0.cell;have aK:lH G.step:=λx=>al.rng x;have aN:=ak.fr.rng;clear al ak ai aj ah;simp only[MX.p]at*;rcases ab:val C n G.step l w with aJ|⟨v,s1⟩
 ·rw[ab,fj]at K;have au:=O K;clear K;go_enter func130,ntmps130;go_wp2_with (first|(go_at_call 162;refine af.out.mono ?_;rintro e aE ⟨rfl,j,V⟩;have a:=O (R.out.ms j V);clear M;have M:=a.out.b0.cell;have ap:=a.out.b1.cell;have ao:=a.out.b2.cell;have an:=a.out.fi.fr.blk.cell;clear j V af R)|(go_at_call 163;refine(ae.out _ a.out.vq).mono ?_;intro e aD o;rw[ab]at o;obtain⟨j,rfl,az⟩:=o.err_;have aH:=O (a.out.mv.trans (j.mono λk _ o=> .inl o));have aI:=O az;clear j az o ae));exact⟨rfl,dB aH.out au.out rfl aI.out⟩
 ·rw[ab,gh]at K;have au:=O K;clear K;go_enter func130,ntmps130;go_wp2_with (first|(go_at_call 162;refine af.out.mono ?_;rintro e aE ⟨rfl,j,V⟩;have a:=O (R.out.ms j V);clear M;have M:=a.out.b0.cell;have ap:=a.out.b1.cell;have ao:=a.out.b2.cell;have an:=a.out.fi.fr.blk.cell;clear j V af R)|(go_at_call 163;refine(ae.out _ a.out.vq).mono ?_;intro e aD o;rw[ab]at o;obtain⟨j,rfl,aA⟩:=o.ok_;have A:=O (a.out.ms j aA);clear M ap ao an;have M:=A.out.b0.cell;have ap:=A.out.b1.cell;have ao:=A.out.b2.cell;have an:=A.out.fi.fr.blk.cell;clear j aA o ae));exact bodyPost_end (results_none rfl _ _ _) rfl (iY A.out.mv au.out A.out.ma A.out.fi.fr)
theorem Dl (ap:MX) (C:Cx) (n:Nat) (nm:List UInt8) (I:List Ex) (aj ai:List St) (aV: ∀y∈I,oQ ap C n y) (aK:Ea ap C n aj) (aI:Ea ap C n ai):uu ap C n (.mk 4 nm I aj ai):=by
 intro al l ao an ad aD ay ax aC av au aL aJ aP aY aG aH aF;simp only[St.k,St.nm,St.ex,St.body,St.els]at aG aH aF⊢;have aU:2*al.step.left<=n:=by show 2*(al.left-1)<=n;omega
 have V:=O (kO aL aJ aG aH aF #[.int i64 4,.string (J nm),.slice aD I.length aC,.slice ay aj.length av,.slice ax ai.length au]);have ac:=O (fY V.out.ma aP);have ab:=O (λW (j:Cg ap C al.step l ao an ad.heap.size (ad.heap.size+1) (ad.heap.size+1+1) #[.int i64 4,.string (J nm),.slice aD I.length aC,.slice ay aj.length av,.slice ax ai.length au] (.slice aD I.length aC) I W)=>iJ ap C n 4 nm I aV al.step l ao an ad.heap.size (ad.heap.size+1) (ad.heap.size+1+1) aD I.length aC (.slice ay aj.length av) (.slice ax ai.length au) W j aU);have aZ: ∀(fn:Fn) (first aQ:Array Value) (ad:World),(Instr.makeFunc fn first aQ).run prog ad=.ok (.func fn first aQ) ad:=λ_ _ _ _=>rfl;have z:=F8 (C:=C) (n:=n) (l:=l) (nm:=nm) (e:=I) (b:=aj) (c:=ai) aP;have A:=V.out.b0.cell;have aX:lH al.step:=λx=>aL.rng x;have a1:=aJ.fr.rng;unfold Ea at aK aI;have aS:=O aK;have aR:=O aI;clear aK aI;clear aL aJ aG aH aF;simp only[MX.p]at*;rcases ag:val C n al.step l I with aO|⟨v,s1⟩
 ·rw[ag,fj]at z;have af:=O z;clear z;go_enter func130,ntmps130;go_wp2_with (first|(go_at_call 162;refine ac.out.mono ?_;rintro e aA ⟨rfl,a,G⟩;have w:=O (V.out.ms a G);clear A;have A:=w.out.b0.cell;have R:=w.out.b1.cell;have M:=w.out.b2.cell;have K:=w.out.fi.fr.blk.cell;clear a G ac V)|(go_at_call 163;refine(ab.out _ w.out.vq).mono ?_;intro e az j;rw[ag]at j;obtain⟨a,rfl,ah⟩:=j.err_;have aW:=O (w.out.mv.trans (a.mono λk _ j=> .inl j));have aw:=O ah;clear a ah j ab));exact⟨rfl,dB aW.out af.out rfl aw.out⟩
 ·rw[ag,gh]at z;have aB:2*s1.left<=n:=by have:=s4 ag;omega
  by_cases hv0:v≠0
  ·have aT:(v !=0)=true:=by simpa using hv0
   rw[if_pos hv0]at z;rcases ae:nO (λs l y=>st C n s l y) s1 l aj with aO|⟨⟨rt,l2⟩,s2⟩
   ·rw[ae]at z;have af:=O z;clear z;go_enter func130,ntmps130;go_wp2_with (first|(go_at_call 162;refine ac.out.mono ?_;rintro e aA ⟨rfl,a,G⟩;have w:=O (V.out.ms a G);clear A;have A:=w.out.b0.cell;have R:=w.out.b1.cell;have M:=w.out.b2.cell;have K:=w.out.fi.fr.blk.cell;clear a G ac V)|(go_at_call 163;refine(ab.out _ w.out.vq).mono ?_;intro e az j;rw[ag]at j;obtain⟨a,rfl,X⟩:=j.ok_;have o:=O (w.out.ms a X);clear A R M K;have A:=o.out.b0.cell;have R:=o.out.b1.cell;have M:=o.out.b2.cell;have K:=o.out.fi.fr.blk.cell;clear a X j ab)|(go_at_call 86;refine(aS.out s1 l ao an _ ay av o.out.ma o.out.fi aB o.out.rb).mono ?_;intro e aE j;rw[ae]at j;obtain⟨a,rfl,ah⟩:=j.err_;have ak:=O (o.out.mv.trans a);have aw:=O ah;clear a ah j));exact⟨rfl,dB ak.out af.out rfl aw.out⟩
   ·rw[ae]at z;have af:=O z;clear z;go_enter func130,ntmps130;go_wp2_with (first|(go_at_call 162;refine ac.out.mono ?_;rintro e aA ⟨rfl,a,G⟩;have w:=O (V.out.ms a G);clear A;have A:=w.out.b0.cell;have R:=w.out.b1.cell;have M:=w.out.b2.cell;have K:=w.out.fi.fr.blk.cell;clear a G ac V)|(go_at_call 163;refine(ab.out _ w.out.vq).mono ?_;intro e az j;rw[ag]at j;obtain⟨a,rfl,X⟩:=j.ok_;have o:=O (w.out.ms a X);clear A R M K;have A:=o.out.b0.cell;have R:=o.out.b1.cell;have M:=o.out.b2.cell;have K:=o.out.fi.fr.blk.cell;clear a X j ab)|(go_at_call 86;refine(aS.out s1 l ao an _ ay av o.out.ma o.out.fi aB o.out.rb).mono ?_;intro e aE j;rw[ae]at j;obtain⟨a,rfl,ar,aq⟩:=j.ok_;have ak:=O (o.out.mv.trans a);have aN:=O ar;have aM:=O aq;clear a ar aq j));exact bodyPost_end (results_none rfl _ _ _) rfl (iY ak.out af.out aN.out aM.out)
  ·have aT:(v !=0)=false:=by simpa using hv0
   rw[if_neg (by simpa using hv0)]at z;rcases ae:nO (λs l y=>st C n s l y) s1 l ai with aO|⟨⟨rt,l2⟩,s2⟩
   ·rw[ae]at z;have af:=O z;clear z;go_enter func130,ntmps130;go_wp2_with (first|(go_at_call 162;refine ac.out.mono ?_;rintro e aA ⟨rfl,a,G⟩;have w:=O (V.out.ms a G);clear A;have A:=w.out.b0.cell;have R:=w.out.b1.cell;have M:=w.out.b2.cell;have K:=w.out.fi.fr.blk.cell;clear a G ac V)|(go_at_call 163;refine(ab.out _ w.out.vq).mono ?_;intro e az j;rw[ag]at j;obtain⟨a,rfl,X⟩:=j.ok_;have o:=O (w.out.ms a X);clear A R M K;have A:=o.out.b0.cell;have R:=o.out.b1.cell;have M:=o.out.b2.cell;have K:=o.out.fi.fr.blk.cell;clear a X j ab)|(go_at_call 86;refine(aR.out s1 l ao an _ ax au o.out.ma o.out.fi aB o.out.rl).mono ?_;intro e aE j;rw[ae]at j;obtain⟨a,rfl,ah⟩:=j.err_;have ak:=O (o.out.mv.trans a);have aw:=O ah;clear a ah j));exact⟨rfl,dB ak.out af.out rfl aw.out⟩
   ·rw[ae]at z;have af:=O z;clear z;go_enter func130,ntmps130;go_wp2_with (first|(go_at_call 162;refine ac.out.mono ?_;rintro e aA ⟨rfl,a,G⟩;have w:=O (V.out.ms a G);clear A;have A:=w.out.b0.cell;have R:=w.out.b1.cell;have M:=w.out.b2.cell;have K:=w.out.fi.fr.blk.cell;clear a G ac V)|(go_at_call 163;refine(ab.out _ w.out.vq).mono ?_;intro e az j;rw[ag]at j;obtain⟨a,rfl,X⟩:=j.ok_;have o:=O (w.out.ms a X);clear A R M K;have A:=o.out.b0.cell;have R:=o.out.b1.cell;have M:=o.out.b2.cell;have K:=o.out.fi.fr.blk.cell;clear a X j ab)|(go_at_call 86;refine(aR.out s1 l ao an _ ax au o.out.ma o.out.fi aB o.out.rl).mono ?_;intro e aE j;rw[ae]at j;obtain⟨a,rfl,ar,aq⟩:=j.ok_;have ak:=O (o.out.mv.trans a);have aN:=O ar;have aM:=O aq;clear a ar aq j));exact bodyPost_end (results_none rfl _ _ _) rfl (iY ak.out af.out aN.out aM.out)
def vR (g:Nat) (w:World):Nat:=match w.cell? ⟨g,4,none⟩with
 |some (.int _ v)=>v.toNat
 | _=>0
theorem MA.leftE {j:MX} {C:Cx} {a:Ms} {h:World} (z:MA j C a h):vR j.g h=a.left:=by
 obtain⟨lf,w,_,_,o⟩:=z.blk;unfold vR;rw[o.cell];exact w
theorem EE {C:Cx} {n:Nat} {s h:Ms} {l:Lo} {j:List Ex} {v:Int} (o:j≠ []) (a:val C n s l j=.ok (v,h)):h.left+1<=s.left:=by
 unfold val at a;rw[if_neg o]at a;exact Gs a
theorem Dk (al:MX) (C:Cx) (n:Nat) (nm:List UInt8) (w:List Ex) (X ag:List St) (aF:w≠ []) (aT: ∀m,m<=n-> ∀y∈w,oQ al C m y) (aU: ∀m,m<=n->Ea al C m X):uu al C n (.mk 5 nm w X ag):=by
 intro au l ap an ab ar ai aA aq ah ay aW aS aR a2 aK aL aJ;simp only[St.k,St.nm,St.ex,St.body,St.els]at aK aL aJ⊢;have aQ:2*au.step.left+1<=n:=by show 2*(au.left-1)+1<=n;omega
 have aD:=O (kO aW aS aK aL aJ #[.int i64 5,.string (J nm),.slice ar w.length aq,.slice ai X.length ah,.slice aA ag.length ay]);have aY:=O (fY aD.out.ma aR);have bf: ∀(fn:Fn) (first aX:Array Value) (ab:World),(Instr.makeFunc fn first aX).run prog ab=.ok (.func fn first aX) ab:=λ_ _ _ _=>rfl;obtain⟨aM,aI⟩: ∃a4,st C (n+1) au l (.mk 5 nm w X ag)=a4:=⟨_,rfl⟩
 have ba:=O (show wh C n au.step l (w.getD 0 pj) X=aM from by rw[<-aI,F7 aR]);have a9:=O aT;have bc:=O aU;have a6:=O aF;have a7:=O aQ;have a5:=O (λm s l=>show ev C m s l (w.getD 0 pj)=val C m s l w from by unfold val;rw[if_neg aF]);rw[aI];have G:=aD.out.b0.cell;clear aW aS aK aL aJ aT aU aI aF aQ a2;simp only[MX.p]at*;go_enter func130,ntmps130;go_wp2_with (go_at_call 162;refine aY.out.mono ?_;rintro e bd ⟨rfl,o,aV⟩;have az:=O (aD.out.ms o aV);clear G;have G:=az.out.b0.cell;have R:=az.out.b1.cell;have M:=az.out.b2.cell;have A:=az.out.fi.fr.blk.cell;clear o aV aY aD);clear G R M A
 go_loopw [] (λwr=> ∃(m:Nat) (ae:Ms) (aj:Lo),Hid (m<=n)/\Hid (2*ae.left+1<=m)/\Hid (wh C m ae aj (w.getD 0 pj) X=aM)/\Hid (TQ al C ae aj none ap an ab #[.int i64 5,.string (J nm),.slice ar w.length aq,.slice ai X.length ah,.slice aA ag.length ay] (.slice ar w.length aq) (.slice ai X.length ah) (.slice aA ag.length ay) w X ag wr)) (λwr=>vR al.g wr)
 case atStart=>exact⟨n,au.step,l,O (ak _),a7,ba,az⟩
 case round=>
  obtain⟨m,ae,aj,a8,aZ,bb,K⟩:=hrel;obtain⟨m,rfl⟩: ∃k,m=k+1:=⟨m-1,by have:=aZ.out;omega⟩
  have z:=bb.out;rw[wh,a5.out]at z;have aH:m<=n:=by have:=a8.out;omega
  have a3:2*ae.left<=m:=by have:=aZ.out;omega
  have ac:=O (λW (a:Cg al C ae aj ap an ab.heap.size (ab.heap.size+1) (ab.heap.size+1+1) #[.int i64 5,.string (J nm),.slice ar w.length aq,.slice ai X.length ah,.slice aA ag.length ay] (.slice ar w.length aq) w W)=>iJ al C m 5 nm w (a9.out m aH) ae aj ap an ab.heap.size (ab.heap.size+1) (ab.heap.size+1+1) ar w.length aq (.slice ai X.length ah) (.slice aA ag.length ay) W a a3);have aE:=bc.out m aH;unfold Ea at aE;have aC:=O aE;clear aE;simp only[MX.p]at aC;have G:=K.out.b0.cell;have R:=K.out.b1.cell;have M:=K.out.b2.cell;have A:=K.out.fi.fr.blk.cell;rcases af:val C m ae aj w with a1|⟨v,s1⟩
  ·rw[af,fj]at z;have ad:=O z.symm;clear z;go_wp2_with (go_at_call 163;refine(ac.out _ K.out.vq).mono ?_;intro e aB a;rw[af]at a;obtain⟨o,rfl,av⟩:=a.err_;have aN:=O (K.out.mv.trans (o.mono λk _ a=> .inl a));have aO:=O av;clear o av a ac);exact⟨rfl,dB aN.out ad.out rfl aO.out⟩
  ·rw[af,gh]at z;have bg:=EE a6.out af;have aG:2*s1.left<=m:=Qa
   by_cases hv0:v=0
   ·subst hv0;rw[if_pos rfl]at z;have ad:=O z.symm;clear z;go_wp2_with (go_at_call 163;refine(ac.out _ K.out.vq).mono ?_;intro e aB a;rw[af]at a;obtain⟨o,rfl,I⟩:=a.ok_;have j:=O (K.out.ms o I);clear G R M A;have G:=j.out.b0.cell;have R:=j.out.b1.cell;have M:=j.out.b2.cell;have A:=j.out.fi.fr.blk.cell;clear o I a ac);exact bodyPost_end (results_none rfl _ _ _) rfl (iY j.out.mv ad.out j.out.ma j.out.fi.fr)
   ·rw[if_neg hv0]at z;have be:(v !=0)=true:=by simpa using hv0
    rcases ao:nO (λs l y=>st C m s l y) s1 aj X with a1|⟨⟨rt,l2⟩,s2⟩
    ·rw[ao,fj]at z;have ad:=O z.symm;clear z;go_wp2_with (first|(go_at_call 163;refine(ac.out _ K.out.vq).mono ?_;intro e aB a;rw[af]at a;obtain⟨o,rfl,I⟩:=a.ok_;have j:=O (K.out.ms o I);clear G R M A;have G:=j.out.b0.cell;have R:=j.out.b1.cell;have M:=j.out.b2.cell;have A:=j.out.fi.fr.blk.cell;clear o I a ac)|(go_at_call 86;refine(aC.out _ _ ap an _ ai ah j.out.ma j.out.fi aG j.out.rb).mono ?_;intro e aP a;rw[ao]at a;obtain⟨o,rfl,av⟩:=a.err_;have aN:=O (j.out.mv.trans o);have aO:=O av;clear o av a));exact⟨rfl,dB aN.out ad.out rfl aO.out⟩
    ·have bh:=zU ao;rw[ao,gh]at z
     cases rt with
     |some u=>
      have ad:=O z.symm;clear z;go_wp2_with (first|(go_at_call 163;refine(ac.out _ K.out.vq).mono ?_;intro e aB a;rw[af]at a;obtain⟨o,rfl,I⟩:=a.ok_;have j:=O (K.out.ms o I);clear G R M A;have G:=j.out.b0.cell;have R:=j.out.b1.cell;have M:=j.out.b2.cell;have A:=j.out.fi.fr.blk.cell;clear o I a ac)|(go_at_call 86;refine(aC.out _ _ ap an _ ai ah j.out.ma j.out.fi aG j.out.rb).mono ?_;intro e aP a;rw[ao]at a;obtain⟨o,rfl,ax,aw⟩:=a.ok_;have V:=O (j.out.mt o ax aw);clear G R M A;have G:=V.out.b0.cell;have R:=V.out.b1.cell;have M:=V.out.b2.cell;have A:=V.out.fi.fr.blk.cell;simp only[i7,c8,bM]at A;clear o ax aw a));exact bodyPost_ret (results_none rfl _ _ _) rfl (iY V.out.mv ad.out V.out.ma V.out.fi.fr)
     |none=>
      have ad:=O (show wh C m s2 l2 (w.getD 0 pj) X=aM from z);clear z;go_wp2_with (first|(go_at_call 163;refine(ac.out _ K.out.vq).mono ?_;intro e aB a;rw[af]at a;obtain⟨o,rfl,I⟩:=a.ok_;have j:=O (K.out.ms o I);clear G R M A;have G:=j.out.b0.cell;have R:=j.out.b1.cell;have M:=j.out.b2.cell;have A:=j.out.fi.fr.blk.cell;clear o I a ac)|(go_at_call 86;refine(aC.out _ _ ap an _ ai ah j.out.ma j.out.fi aG j.out.rb).mono ?_;intro e aP a;rw[ao]at a;obtain⟨o,rfl,ax,aw⟩:=a.ok_;have V:=O (j.out.mt o ax aw);clear G R M A;have G:=V.out.b0.cell;have R:=V.out.b1.cell;have M:=V.out.b2.cell;have A:=V.out.fi.fr.blk.cell;simp only[i7,dq,eC]at A;clear o ax aw a));go_roundw
      case rel=>exact⟨m,s2,l2,O aH,O Qa,ad,V⟩
      case measure=>rw[V.out.ma.leftE,K.out.ma.leftE];omega
end
end Go.Proofs.YtddomeddabfinaaGreatDoor
