/-
  Parts of the proof: TyBr.
-/
import Derived.Test.YtddomeddabfinaaGreatDoorTz00
import Derived.Test.YtddomeddabfinaaGreatDoorTz34
import Derived.Test.YtddomeddabfinaaGreatDoorTz38
set_option maxRecDepth 100000
set_option maxHeartbeats 8000000
set_option linter.unusedVariables false
set_option linter.unusedSimpArgs false
set_option linter.unusedSectionVars false
namespace Go.Proofs.YtddomeddabfinaaGreatDoor
open Go.Proofs.Tryz
open Go.RowKit
def EU:Array Value:=(kM.map fun s=> .string (ai s)).toArray
def EW:Array Value:=(y7.map fun(c:Nat)=> .int .u8 (c:Int)).toArray
theorem BR {k:Nat} (hk:k<7):EU[k]? =some (.string (ai (kM.getD k []))):=by rcases k7 hk with rfl|rfl|rfl|rfl|rfl|rfl|rfl<;>rfl
theorem tg {k:Nat} (hk:k<7):EW[k]? =some (.int .u8 (lB k:Int)):=by rcases k7 hk with rfl|rfl|rfl|rfl|rfl|rfl|rfl<;>rfl
theorem EP {W W':World} {g:Nat} {t:TypeId} {z0 z1 z2 z3 z4 z5 u0 u1 u2 u3 u4 u5:Value} (h:(((((W.setCell ⟨g,0,none⟩ u0).setCell ⟨g,1,none⟩ u1).setCell ⟨g,2,none⟩ u2).setCell ⟨g,3,none⟩ u3).setCell ⟨g,4,none⟩ u4).setCell ⟨g,5,none⟩ u5=W') (hz:Hid (aL W g t #[z0,z1,z2,z3,z4,z5])):
  Hid (aL W' g t #[u0,u1,u2,u3,u4,u5])/\cC (fun b=>b≠g) W W'/\ ∀w0,Hid (aq w0 W)->w0.heap.size<=g->Hid (aq w0 W'):=by
 subst h;have h0:aL _ g t #[u0,z1,z2,z3,z4,z5]:=hz.out.set 0 u0;have h1:aL _ g t #[u0,u1,z2,z3,z4,z5]:=h0.set 1 u1;have h2:aL _ g t #[u0,u1,u2,z3,z4,z5]:=h1.set 2 u2;have h3:aL _ g t #[u0,u1,u2,u3,z4,z5]:=h2.set 3 u3;have h4:aL _ g t #[u0,u1,u2,u3,u4,z5]:=h3.set 4 u4;refine⟨h4.set 5 u5,⟨by simp[World.setCell],fun b hb hl=> ?_⟩,fun w0 he hg=> ?_⟩
 ·iterate 6 (refine(Below.heap_setCell _ _ _ b hb).trans ?_)
  rfl
 ·iterate 6 (refine aq.set ?_ hg _)
  exact he
theorem Dq {w W:World} {t t2:TypeId} {cs c1 c2:Array Value} (h:((w.alloc (.cells cs t)).alloc (.cells c2 t2)).setRow w.heap.size c1=W):aq w W/\Hid (aL W w.heap.size t c1)/\Hid (aL W (w.heap.size+1) t2 c2):=by
 obtain⟨e,b1,b2,s⟩:=Eo (w:=w) (c1:=cs) (t1:=t) (c2:=c2) (t2:=t2) rfl;obtain⟨h1,h2,h3,h4⟩:=DE h b1;exact⟨h4 _ (G e) (ah _),h1,h3 _ _ _ (by omega) b2⟩
theorem B6 (R:Int): -256<R.tmod 256/\R.tmod 256<256/\(R.tmod 256+256).tmod 256=R%256:=by
 by_cases h:0<=R
 ·rw[dR h,dR (by omega)];omega
 ·obtain⟨S,rfl⟩: ∃S,R= -S:=⟨-R,by omega⟩
  rw[Int.neg_tmod,dR (show 0<=S by omega),dR (by omega)];omega
theorem tn {k:Nat} {a b:Int} (ha:eO a):eO (eP k a b):=by
 have hw: ∀z,eO (wrap32 z):=fun z=>by unfold eO wrap32;omega
 unfold eP;split
 ·exact hw _
 ·exact hw _
 ·exact hw _
 ·exact hw _
 ·exact nH ha
 ·split<;>decide
 ·split<;>decide
def CE (a b:Int):Rg:=⟨fun i=>if i=1 then a else if i=2 then b else 0,0⟩
theorem Dp {k:Nat} (hk:k<7):(UInt8.ofNat (lB k)).toNat=lB k/\(lB k=4\/lB k=5\/lB k=6\/lB k=7\/lB k=8\/lB k=12\/lB k=13)/\rD (UInt8.ofNat (lB k)) 3 1 2=some ⟨lB k,(3:Nat),(1:Nat),(2:Nat),0⟩/\((k=3\/k=4)↔(lB k=7\/lB k=8)):=by
 rcases k7 hk with rfl|rfl|rfl|rfl|rfl|rfl|rfl<;>exact⟨rfl,by decide,rfl,by decide⟩
theorem zK {x:Ex} (h:x.ok=true):x.k≠0/\m9 x.args=true:=by
 obtain⟨k,op,nm,tx,v,a⟩:=x;simp only[Ex.ok,ak]at h;refine⟨?_,h.2⟩;rintro(h0:k=0);subst h0;exact absurd h.1 (by simp)
theorem cE.off {w:World} {P:Nat->Prop} {v:Value} {xs:List Ex} (h:cE w P v xs) {g:Nat} {t:TypeId} {z1 z2 z3 z4 z5:Value} (hb:aL w g t #[.int .i64 0,z1,z2,z3,z4,z5]) (hk:m9 xs=true):cE w (fun b=>P b/\b≠g) v xs:=by
 induction h with
 |nil A c=>exact .nil A c
 |row b o n c xs av hP hbl hn hnc hm hc hs ih=>
  have hall: ∀i,(h:i<xs.length)->xs[i].k≠0/\m9 (Ex.args xs[i])=true:=fun i hi=>by
   rw[nt]at hk;exact zK (List.all_eq_true.1 hk _ (au hi))
  by_cases h0:xs.length=0
  ·obtain rfl:=aJ h0;subst hn;exact .nil _ _
  have hp:0<xs.length:=by omega
  refine .row b o n c xs av ⟨hP,?_⟩ hbl hn hnc hm hc (fun i hi=>ih i hi (hall i hi).2);rintro rfl;obtain⟨q0,_,_,_,_,q5⟩:=hc 0 hp;rw[hb.cell]at q0 q5;have:o=0:=by
   rcases Nat.eq_zero_or_pos o with h|h
   ·exact h
   ·rw[dF (by simp;omega)]at q5
    cases q5
  subst this;have e:(Value.int .i64 0:Value)= .int .i64 xs[0].k:=Z q0;injection e with _ e;exact(hall 0 hp).1 e.symm
theorem AX.rd {x:Ex} {A:Option Addr} {n c:Nat} {w:World} {u0 u1 u2 u3 u4:Value} (h:AX x (.agg #[u0,u1,u2,u3,u4, .slice A n c]) w):cE w (fun _=>True) (.slice A n c) x.args:=by
 obtain⟨B,d,e,h⟩:=h;have:=(Value.agg.inj e)
 simp only[eq,cO,dw]at this;obtain⟨_,_,_,_,_,⟨rfl,rfl,rfl⟩,_⟩:=this;exact h
theorem wa (a b:Int) (n:Nat) (ha:eO a) (hb:eO b) (hn:n<256) (w:World) (hz:EZ w) (ht:du w w.heap.size) (hB:BT w) (hF:FT w):Calls prog 10 #[.int .i32 a, .int .i32 b, .int .u8 n] w fun e w'=>e= .returned (.bool true)/\aq w w':=by
 have HW:=G (rP w hz ht hB);have HA:=G (fun W=>ph a ha W);have HB:=G (fun W=>ph b hb W);obtain⟨k,hk⟩: ∃k,n%7=k:=⟨_,rfl⟩
 have hk7:k<7:=by omega
 have hki:(n:Int)%7=k:=by omega
 have hS:=BR hk7;have hC:=tg hk7;obtain⟨op,hop⟩: ∃op,kM.getD k []=op:=⟨_,rfl⟩
 rw[hop]at hS;have HOP:=G hop;clear hop;go_enter func10,ntmps10
 go_upto_region 3 with(go_at_call 11;refine HW.out.mono ?_;rintro e w1 ⟨rfl,hX⟩;replace hX:=G hX;clear HW)
 go_upto_region 6 with fail
 rw[hki];generalize hW:World.alloc (World.alloc w1 _) _=W2;obtain⟨hE,bo,bc,s2⟩:=Eo hW;replace hX:=kx hX hE;have co:=(bo.out.cell k).trans hS;have cc:=(bc.out.cell k).trans hC;have hwk:w1.heap.size<W2.heap.size:=by have:=s2.out;omega
 clear hW hE bo;generalize w1.heap.size=z1 at*;have hwk2:z1+1<W2.heap.size:=by have:=s2.out;omega
 have hki1:(k:Int)<7:=by omega
 have HS:=G (ax ha hb);have hX0:=hX.out;clear ha hb hS hC hki hn;go_wp2_with fail
 refine az 11 11 [(5,fun v=> ∃A c,v= .agg #[.int .i64 (cS a).k, .string (ai (cS a).op), .string (ai (cS a).nm), .string (ai (cS a).tx), .int .i64 (cS a).v, .slice A (cS a).args.length c],fun v W=>AX (cS a) v W),(7,fun v=> ∃A c,v= .agg #[.int .i64 (cS b).k, .string (ai (cS b).op), .string (ai (cS b).nm), .string (ai (cS b).tx), .int .i64 (cS b).v, .slice A (cS b).args.length c],fun v W=>AX (cS b) v W),
  (8,fun v=> ∃g,v= .slice (some ⟨g,0,none⟩) 2 2,fun v W=>cE W (fun _=>True) v [cS a,cS b]),(10,fun v=> ∃g,v= .pointer (some ⟨g,0,none⟩),fun v W=> ∃g,v= .pointer (some ⟨g,0,none⟩)/\W2.heap.size<=g/\aL W g 70 #[.int .i64 0, .string ⟨#[]⟩, .string ⟨#[]⟩, .string ⟨#[]⟩, .int .i64 0, .slice none 0 0])]
  mixed (by kernel_rfl) ⟨fun _ _ _ h hE=>h.ext hE,fun _ _ _ h hE=>h.ext hE,fun _ _ _ h hE=>h.keep (.of_ext hE) (fun _ _ _=>trivial),fun _ _ _ ⟨g,e,h1,h2⟩ hE=>⟨g,e,h1,h2.ext hE⟩,trivial⟩ ?_
 repeat (refine sx ?_ (fun w1 hU=> ?_) ?_;rotate_left;(focus have f1:=(hU.un.cell z1 k hwk).trans co;clear hU;go_simp<;>with_reducible rfl);simp only[aY,aX,aW,aV,aU])
 refine bJ _ _ (by rfl) rfl ⟨_,none,0,rfl⟩ (by simp) (fun w6 hU hp K hK=> ?_) ?_
 ·clear hp hU;go_simp;refine(HA.out w6).mono ?_;rintro e w7 ⟨hE,v,rfl,A,c,rfl,hR⟩;exact hK _ _ hE ⟨A,c,rfl⟩ ⟨A,c,rfl,hR⟩
 rintro _ ⟨A1,c1,rfl⟩;simp only[aY,aX,aW,aV,aU];repeat (refine sx ?_ (fun w1 hU=> ?_) ?_;rotate_left;(focus clear hU;go_simp<;>with_reducible rfl);simp only[aY,aX,aW,aV,aU])
 refine bJ _ _ (by rfl) rfl ⟨_,none,0,rfl⟩ (by simp) (fun w6 hU hp K hK=> ?_) ?_
 ·clear hp hU;go_simp;refine(HB.out w6).mono ?_;rintro e w7 ⟨hE,v,rfl,A,c,rfl,hR⟩;exact hK _ _ hE ⟨A,c,rfl⟩ ⟨A,c,rfl,hR⟩
 rintro _ ⟨A2,c2,rfl⟩;simp only[aY,aX,aW,aV,aU];refine bJ _ _ (by rfl) rfl ⟨_,0,rfl⟩ (by simp) (fun w6 hU hp K hK=> ?_) ?_
 ·have q1:=hp _ (.head _) (by kernel_rfl);have q2:=hp _ (.tail _ (.head _)) (by kernel_rfl);go_simp;refine hK _ _ (O _ _) ⟨_,rfl⟩ ?_;exact cE.two (x:=cS a) (y:=cS b) (an _ _ _) trivial (q2.rd.keep (.of_ext (O _ _)) (fun _ _ _=>trivial)) (q1.rd.keep (.of_ext (O _ _)) (fun _ _ _=>trivial))
 rintro _ ⟨g1,rfl⟩;simp only[aY,aX,aW,aV,aU];repeat (refine sx ?_ (fun w1 hU=> ?_) ?_;rotate_left;(focus clear hU;go_simp<;>with_reducible rfl);simp only[aY,aX,aW,aV,aU])
 refine bJ _ _ (by rfl) rfl ⟨_,0,rfl⟩ (by simp) (fun w6 hU hp K hK=> ?_) ?_
 ·have hz6:=cJ hU.un;clear hp hU;go_simp;exact hK _ _ (O _ _) ⟨_,rfl⟩ ⟨_,rfl,hz6,an _ _ _⟩
 rintro _ ⟨g2,rfl⟩;simp only[aY,aX,aW,aV,aU];intro w3 hw3 hp;obtain⟨g2',e2,hg2,hb2⟩:=hp _ (.head _);have hq:=hp _ (.tail _ (.head _));injection e2 with e2;injection e2 with e2;injection e2 with e2;subst e2;have hb:=G hb2;have HR:=G hq;replace hX:=kx hX hw3.un;have cb:=hb2.cell;have fb:=hb2.frozen;have HQ:=G (hq.off hb2 (by simp[m9,nu HS.out.1,nu HS.out.2]));replace bc:=kb bc hw3.un;have cc:=(bc.out.cell k).trans (tg hk7);clear hp hq hb2 hw3 co;simp only[ac,ap]
 go_upto_region 7 with fail
 generalize hW:World.setCell _ _ _=W4;have hz3:=cJ hX.out;obtain⟨b4,hKP,hx⟩:=EP hW hb;replace hX:=hx _ hX (by have:=cJ hX0;omega);have HR4:=G (show cE W4 (fun _=>True) (.slice (some ⟨g1,0,none⟩) 2 2) [cS a,cS b]from HQ.out.keep ⟨hKP.size,fun b h=>hKP.block b h.2⟩ (fun _ _ _=>trivial));replace bc:=G (show aL W4 (z1+1) 5 _ from(hKP.block _ (by omega) bc.out.lt).trans bc.out);have c4:=b4.out.cell;clear HQ hKP hx hW hb cb fb HR cc
 go_upto_region 8 with fail
 generalize hW:World.alloc (World.alloc (World.alloc (World.alloc W4 _) _) _) _=W5;obtain⟨hE,hV,hFs,b5⟩:=BI (X:=kO op (cS a) (cS b)) (V:=W4) (A:=some ⟨g1,0,none⟩) (c:=2) _ rfl HR4.out W5 hW.symm
 have HP:=G (show ∀(W:World) (n c m d:Nat) (A B:Option Addr),aq w W->mc W (fun _=>True) (.slice A n c) (eS (kO op (cS a) (cS b))).vs->mm W (fun _=>True) (.slice B m d) (eS (kO op (cS a) (cS b))).fs->Calls prog 17 #[.agg #[.slice A n c, .slice B m d], .slice none 0 0, .int .i64 100] W fun e w'=>aq W w'/\ ∃A c kd v,e= .returned (.tuple #[.agg #[.int .i64 kd, .int .i64 0, .int .i64 v, .int .i64 0, .int .i64 0, .slice A 0 c, .int .i64 0], .int .i64 0])/\(kd=if(k=3\/k=4)/\b=0 then 2 else 1)/\(¬((k=3\/k=4)/\b=0)->v=eP (lB k) a b%256)from fun W n c m d A B hE hV hF=>by
  have e1:kO op (cS a) (cS b)=r5 k a b:=by rw[r5,HOP.out]
  rw[e1]at hV hF;have hck:(gH (eS (r5 k a b))).2=0:=AC (Cp hk7 HS.out.1 HS.out.2) (AO k a b) (yM hk7 a b) (Cq k a b) (yN k a b);refine(sG _ (zH (yM hk7 a b)) hck [] _ W A B n c m d hV hF (fU ht hE) (hB.ext hE) ⟨none,0,rfl, .inl rfl⟩ 100 (by decide)).mono fun e w' hh=> ?_;rw[BG hk7 HS.out.1 HS.out.2]at hh;by_cases h:(k=3\/k=4)/\b=0
  ·rw[if_pos h]at hh;obtain⟨h1,A,c,h2,_⟩:=hh;exact⟨h1,A,c,2,0,h2,(if_pos h).symm,fun n=>absurd h n⟩
  ·rw[if_neg h]at hh;obtain⟨h1,A,c,h2,_⟩:=hh
   exact⟨h1,A,c,1,_,h2,(if_neg h).symm,fun _=>rfl⟩)
 replace hX:=kx hX hE;replace bc:=kb bc hE;replace b5:=G b5;have HV:=G hV;have HFs:=G hFs;have c5:=b5.out.cell;clear hV hFs hE hW b4 c4 HR4 hz ht hB;generalize (eS (kO op (cS a) (cS b))).vs=vs at*;generalize (eS (kO op (cS a) (cS b))).fs=fs at*
 go_upto_region 9 with(go_at_call 17;refine(HP.out _ _ _ _ _ _ _ hX.out HV.out HFs.out).mono ?_;rintro e w6 ⟨hE,A6,c6,kd,v,rfl,hkd,hv⟩;replace hX:=kx hX hE;replace bc:=kb bc hE;replace hv:=G hv;replace hkd:=G hkd;clear HP HV HFs c5 hE)
 generalize hW:World.alloc w6 _=W6;obtain⟨hE,b6,s6⟩:=CI hW;replace hX:=kx hX hE;replace bc:=kb bc hE;have cc:=(bc.out.cell k).trans (tg hk7);clear hE hW;obtain⟨ku,kc,kd7,kdz⟩:=Dp hk7;have H4:=G (fun(W W':World) (x:Nat) (hb:aL W x 5 #[.int .u8 (lB k:Int), .int .u8 3, .int .u8 1, .int .u8 2])=>show CA W x 0 (UInt8.ofNat (lB k)) 3 1 2 from⟨hb.lt,by rw[r9,ku];exact hb.cell 0,hb.cell 1,hb.cell 2,hb.cell 3⟩);by_cases hdz:(k=3\/k=4)/\b=0
 ·have hk2:kd=2:=by rw[hkd.out,if_pos hdz]
  subst hk2
  have HE:=G (fun W (h:aq w W) x (hb:aL W x 5 #[.int .u8 (lB k:Int), .int .u8 3, .int .u8 1, .int .u8 2])=>show Calls prog 33 #[.agg #[.int .i32 0, .int .i32 a, .int .i32 b, .int .i32 0, .int .i32 0, .int .i32 0, .int .i32 0, .int .i32 0, .int .i32 0, .int .i32 0, .int .i32 0, .int .i32 0, .int .i32 0, .int .i32 0, .int .i32 0, .int .i32 0, .int .i64 0], .slice (some ⟨x,0,none⟩) 4 4, .int .i64 0] W fun e w'=>e= .returned (.tuple #[.agg (CE a b).cs, .int .i64 0, .agg #[.int .i64 2, .int .i64 2, .int .i64 0, .int .i64 0, .int .i64 0, .int .i64 0, .int .i64 0]])/\aq W w' from
   Aq (CE a b) x 0 4 _ _ _ _ _ 3 1 2 0 W (hF.ext h) (H4.out W W x hb) (ah _) (by unfold maxLen;omega) kd7 (kdz.1 hdz.1) (by decide) (by decide) (by decide) (by have:=HS.out.1;unfold eO at this;show-2147483648<=a/\a<=2147483647;omega) hdz.2)
  replace hdz:=G hdz;clear hkd hv kdz kd7 ku kc H4 hF
  go_upto_region 10 with(first|(refine wpList_store_row rfl 93 _ _ rfl _ _ rfl rfl _ _ ((an _ _ _).alloc _) (by kernel_rfl) rfl (nR _) ?_;generalize hW:World.setRow (World.alloc (World.alloc w7 _) _) _ _=W8;obtain⟨hE,y,z⟩:=Dq hW;replace hX:=kx hX hE;replace b6:=kb b6 hE;have cz:=z.out.cell;have fz:=z.out.frozen;clear hE hW)|(go_at_call 33;refine(HE.out _ (hX.out.trans (O _ _)) _ (an _ _ _)).mono ?_;rintro e w7 ⟨rfl,hE⟩;clear HE cc;replace hE:=(O W6 _).trans hE;replace hX:=kx hX hE;replace b6:=kb b6 hE;have hz7:=b6.out.lt;have hz8:=cJ hX.out))
  generalize hW:World.setCell _ _ _=W9;obtain⟨z9,hs,hx⟩:=pV hW z;have hlt:=b6.out.lt;have hlz:=z.out.lt;have hX9:=hx _ hX (by omega);replace b6:=hs _ _ _ (by omega) b6;replace y:=hs _ _ _ (by omega) y;clear hW hs hx z cz fz;have c6:=b6.out.cell;have c9:=z9.out.cell;go_wp2_with fail;go_ret;exact⟨xh (by simp),hX9.out⟩
 ·obtain⟨R,hR⟩: ∃R,eP (lB k) a b=R:=⟨_,rfl⟩
  have hkd1:kd=1:=by rw[hkd.out,if_neg hdz]
  have hv1:v=R%256:=by rw[<-hR];exact hv.out hdz
  subst hkd1;have HV1:=G hv1
  have HE:=G (fun W (h:aq w W) x (hb:aL W x 5 #[.int .u8 (lB k:Int), .int .u8 3, .int .u8 1, .int .u8 2])=>show Calls prog 33 #[.agg #[.int .i32 0, .int .i32 a, .int .i32 b, .int .i32 0, .int .i32 0, .int .i32 0, .int .i32 0, .int .i32 0, .int .i32 0, .int .i32 0, .int .i32 0, .int .i32 0, .int .i32 0, .int .i32 0, .int .i32 0, .int .i32 0, .int .i64 0], .slice (some ⟨x,0,none⟩) 4 4, .int .i64 0] W fun e w'=>e= .returned (.tuple #[.agg (Rg.upd ⟨(CE a b).r,4⟩ 3 R).cs, .int .i64 0, .agg #[.int .i64 0, .int .i64 0, .int .i64 0, .int .i64 0, .int .i64 0, .int .i64 0, .int .i64 0]])/\aq W w' from by
   have:=Ar (CE a b) x 0 4 _ _ _ _ _ 3 1 2 0 W (hF.ext h) (H4.out W W x hb) (ah _) (by unfold maxLen;omega) kd7 kc (by decide) (by decide) (by decide) (show 0<=(0:Int)/\(0:Int)<=1000000 by decide) (by have:=HS.out.1;unfold eO at this;show-2147483648<=a/\a<=2147483647;omega) (fun h7 (h0:b=0)=>hdz ⟨kdz.2 h7,h0⟩);rw[show eP (lB k) ((CE a b).r 1) ((CE a b).r 2)=R from hR]at this
   exact this)
  have hRr:eO R:=hR▸tn HS.out.1;unfold eO at hRr;obtain⟨hR1,hR2⟩:=hRr;obtain⟨hq1,hq2,hq3⟩:=B6 R;rw[<-hv1]at hq3;have hq:=G (ax hq1 (ax hq2 hq3));clear hv1 hR hq1 hq2 hq3;replace hdz:=G hdz;clear hkd hv kdz kd7 ku kc H4 hF
  go_upto_region 10 with(first|(refine wpList_store_row rfl 93 _ _ rfl _ _ rfl rfl _ _ ((an _ _ _).alloc _) (by kernel_rfl) rfl (nR _) ?_;generalize hW:World.setRow (World.alloc (World.alloc w7 _) _) _ _=W8;obtain⟨hE,y,z⟩:=Dq hW;replace hX:=kx hX hE;replace b6:=kb b6 hE;have cz:=z.out.cell;have fz:=z.out.frozen;clear hE hW)|(go_at_call 33;refine(HE.out _ (hX.out.trans (O _ _)) _ (an _ _ _)).mono ?_;rintro e w7 ⟨rfl,hE⟩;clear HE cc;replace hE:=(O W6 _).trans hE;replace hX:=kx hX hE;replace b6:=kb b6 hE;have hz7:=b6.out.lt;have hz8:=cJ hX.out))
  generalize hW:World.setCell _ _ _=W9;obtain⟨z9,hs,hx⟩:=pV hW z;have hlt:=b6.out.lt;have hlz:=z.out.lt;have hX9:=hx _ hX (by omega);replace b6:=hs _ _ _ (by omega) b6;replace y:=hs _ _ _ (by omega) y;clear hW hs hx z cz fz;have c6:=b6.out.cell;have c9:=z9.out.cell;have cy:W9.cell? ⟨w7.heap.size,3,none⟩=some (.int .i32 R):=(y.out.cell 3).trans (o6 _ 3 (by decide) R);obtain⟨hq1,hq2,hq3⟩:=hq.out;have hR1i:R<=2147483647:=by omega
  generalize hQ:R.tmod 256=q at*;have hx3:=EF v 0 0 v 0 0 W9;go_wp2_with fail;go_ret;exact⟨xh (by simp),hX9.out⟩
theorem tm (a b n:Int) (ha:eO a) (hb:eO b) (hn:0<=n/\n<256) (w:World) (hz:EZ w) (ht:du w w.heap.size) (hB:BT w) (hF:FT w):Calls prog 10 #[.int .i32 a, .int .i32 b, .int .u8 n] w fun e w'=>e= .returned (.bool true)/\aq w w':=by
 obtain⟨m,rfl⟩:=cD hn.1;exact wa a b m ha hb (by omega) w hz ht hB hF
end Go.Proofs.YtddomeddabfinaaGreatDoor
