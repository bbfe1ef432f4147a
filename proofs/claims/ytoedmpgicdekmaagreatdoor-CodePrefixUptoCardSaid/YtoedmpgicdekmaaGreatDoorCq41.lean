/-
  Parts of the proof: CoT CoV CoX CoY PsA PsB PsC PsD PsE PsF.
-/
import Derived.Test.YtoedmpgicdekmaaGreatDoorCq00
import Derived.Test.YtoedmpgicdekmaaGreatDoorCq40
import Derived.Test.YtoedmpgicdekmaaGreatDoorCq19
import Derived.LoopN
import Derived.Deep.CutBlock
import Derived.Test.YtoedmpgicdekmaaGreatDoorCq06
import Derived.Test.YtoedmpgicdekmaaGreatDoorCq25
import Derived.Test.YtoedmpgicdekmaaGreatDoorCq16
import Derived.BigRegion
import Derived.Test.YtoedmpgicdekmaaGreatDoorCq18
set_option maxRecDepth 100000
set_option maxHeartbeats 8000000
set_option linter.unusedVariables false
set_option linter.unusedSimpArgs false
set_option linter.unusedSectionVars false
namespace Go.Proofs.YtoedmpgicdekmaaGreatDoor
open Go.Proofs.Tryz
section
open Go.RowKit
open Go.ChangeMaps Go.MapKept Go.WideMaps Go.WideElems
structure GJ (p:Pg):Prop where
 fs: ∀f∈p.fs,GK f
 vs: ∀v∈p.vs,v.nm.length<=1000000000/\0<=v.sz/\v.sz<=1000000
 vl:p.vs.length<=1000000
 sz: ∀nm,0<=aN (qm p.vs []) nm/\aN (qm p.vs []) nm<=1000000
 bg: ∀j,(l5 (aN (qm p.vs [])) (p.fs.take j) ([],g6)).2.big<=900000000
 zr:0<=(fD p).2.2/\(fD p).2.2<=100000000
 vb:VB (fD p).1.code 1000000000
 c0:0<(fD p).1.code.length
 ca: ∀q∈(fD p).1.calls,q.1<(fD p).1.code.length/\q.2.length<=1000000000/\0<=aN (fD p).2.1 q.2/\aN (fD p).2.1 q.2<=1000000000
 da: ∀q∈(fD p).1.dats,q.1<(fD p).1.code.length/\q.2.length<=1000000000/\0<=aN (qz p.vs (mq p.vs 0 []).1 (mq p.vs 0 []).2).2 q.2/\aN (qz p.vs (mq p.vs 0 []).1 (mq p.vs 0 []).2).2 q.2<=1000000000
def oI (p:Pg):kN×Int:=if(mH p).2=0 then CJ (fD p).2.1 (qz p.vs (mq p.vs 0 []).1 (mq p.vs 0 []).2).2 (fD p).1 (fD p).2.2 else(⟨[],[],0,0⟩,1)
theorem EM {w1 W:World} {cs:Array Value} {t:TypeId} (h:((((w1.alloc (.map #[] 0)).alloc (.map #[] 0)).alloc (.map #[] 0)).alloc (.cells cs t))=W):
  au w1 W/\Hid (aP W (w1.heap.size+1+1+1) t cs)/\Hid (fX W w1.heap.size (fF []))/\Hid (fX W (w1.heap.size+1) (fF []))/\Hid (b7 W (w1.heap.size+1+1) (fF []))/\Hid (W.heap.size=w1.heap.size+1+1+1+1):=by
 have s1:(w1.alloc (.map #[] 0)).heap.size=w1.heap.size+1:=World.size_alloc _ _;have s2:((w1.alloc (.map #[] 0)).alloc (.map #[] 0)).heap.size=w1.heap.size+1+1:=by rw[World.size_alloc,s1]
 have s3:(((w1.alloc (.map #[] 0)).alloc (.map #[] 0)).alloc (.map #[] 0)).heap.size=w1.heap.size+1+1+1:=by rw[World.size_alloc,s2]
 have m1:fX (w1.alloc (.map #[] 0)) w1.heap.size (fF []):=(fX.new w1).congr fun _=>rfl;have m2:fX ((w1.alloc (.map #[] 0)).alloc (.map #[] 0)) (w1.heap.size+1) (fF []):=by rw[<-s1];exact(fX.new _).congr fun _=>rfl
 have m3:fX (((w1.alloc (.map #[] 0)).alloc (.map #[] 0)).alloc (.map #[] 0)) (w1.heap.size+1+1) (fF []):=by rw[<-s2];exact(fX.new _).congr fun _=>rfl
 subst h;have b4:=aw (((w1.alloc (.map #[] 0)).alloc (.map #[] 0)).alloc (.map #[] 0)) t cs;rw[s3]at b4;have k: ∀{w:World} {b:Nat} {L:KF} (o:Obj),fX w b L->fX (w.alloc o) b L:=fun o hm=>hm.obj ((aa _ o).obj hm.1.lt);exact⟨(((aa w1 _).alloc' _).alloc' _).alloc' _,b4,k _ (k _ (k _ m1)),k _ (k _ m2),(k _ m3).1,G (by rw[World.size_alloc,s3])⟩
def kC (b0:Nat) (va fa:Value) (LP LS:List (Nm×Int)):CC:=⟨b0+1+1+1,b0,va,fa,b0,b0+1,b0+1+1,LP,LS⟩
def oC (b0:Nat) (va fa:Value) (LP LS:List (Nm×Int)):Nat->Prop:=fun b=>some b∈bw (kC b0 va fa LP LS) (.slice none 0 0) (.slice none 0 0) (.slice none 0 0) (.slice none 0 0) (.map none)
theorem zG {W w5:World} {b0:Nat} {va fa:Value} {LP LS:List (Nm×Int)} (h:AB W (b0+1+1+1) b0 (b0+1) #[va,fa, .slice none 0 0, .slice none 0 0, .map (some b0), .map (some (b0+1)), .map (some (b0+1+1)), .slice none 0 0, .slice none 0 0, .map none, .int .i64 0] LP LS w5)
  (ha:b7 W (b0+1+1) (fF [])) (hz:W.heap.size=b0+1+1+1+1):CX (kC b0 va fa LP LS) [] (oC b0 va fa LP LS) w5 Gk:=by
 refine⟨_,_,_,_,_,⟨h.blk,World.ownsRow_nil _ _ _ _,World.ownsRow_nil _ _ _ _,World.ownsRow_nil _ _ _ _,World.ownsRow_nil _ _ _ _,h.p.1,h.s.1,h.mv.map ha (show ¬(b0+1+1=b0\/b0+1+1=b0+1) by omega), .inl ⟨rfl,rfl,rfl⟩,?_,fun b hb=> ?_⟩,fun b=>f9⟩
 ·simp[bw,kC,Ax,Value.ownBlock];omega
 ·have hs:=h.mv.size;simp[bw,kC,Ax,Value.ownBlock]at hb⊢;omega
theorem Cw {b0:Nat} {va fa:Value} {LP LS:List (Nm×Int)} {b:Nat} (h:oC b0 va fa LP LS b):b0<=b:=by
 simp[oC,bw,kC,Ax,Value.ownBlock]at h;omega
theorem sR {sz:Nm->Int}: ∀(a b:List Fc) (q:List (Nm×Int)×CS),l5 sz (a++b) q=l5 sz b (l5 sz a q)
 | [],b,q=>rfl
 |f::a,b,q=>by rw[List.cons_append,l5,l5,sR a b]
theorem wY {sz:Nm->Int} {fs:List Fc} {j:Nat} {q r:List (Nm×Int)×CS} (h:j<fs.length) (e:l5 sz (fs.take j) q=r):l5 sz (fs.take (j+1)) q=((fs[j].nm,(r.2.code.length:Int))::r.1,EY sz fs[j] r.2):=by
 rw[aM h,sR,e];rfl
theorem yr {w:World} {g:Nat} {t:TypeId} {A:Option Addr} {c:Nat} {l:List UInt8} (h:Sl w A c l) (hb:aP w g t #[.slice none 0 0, .slice none 0 0, .int .i64 0, .int .i64 0]) (x y z u:Value):
  Sl ((((w.setCell ⟨g,0,none⟩ x).setCell ⟨g,1,none⟩ y).setCell ⟨g,2,none⟩ z).setCell ⟨g,3,none⟩ u) A c l:=by
 refine⟨h.le,h.max,h.nil,?_⟩;by_cases hl:l=[]
 ·exact .inl hl
 rcases h.rd with h0|⟨b,o,ha,hbw,hc⟩
 ·exact .inl h0
 have hne:b≠g:=fun e=>by
  subst e;have h0:=hc 0 (List.length_pos_iff.2 hl);rw[hb.cell]at h0
  match hq:o+0,h0 with
  |0,h0=>simp[oY]at h0
  |1,h0=>simp[oY]at h0
  |2,h0=>simp[oY]at h0
  |3,h0=>simp[oY]at h0
  |q+4,h0=>simp at h0
 refine .inr ⟨b,o,ha,by simpa[World.setCell]using hbw,fun i hi=>(World.cell?_of_block (w:=w) (a:=⟨b,o+i,none⟩) ?_).trans (hc i hi)⟩;rw[Below.heap_setCell _ _ _ _ hne,Below.heap_setCell _ _ _ _ hne,Below.heap_setCell _ _ _ _ hne,Below.heap_setCell _ _ _ _ hne]
theorem sS (p:Pg) (hw:qA p<=6000000) (hco:(mH p).2=0->GJ p) (w:World) (A B:Option Addr) (n c m d:Nat) (hV:nG w (fun _=>True) (.slice A n c) p.vs) (hF:oT w (fun _=>True) (.slice B m d) p.fs) (hT:dK w w.heap.size) (hB:BT w) (hFT:FT w):
  Calls prog 12 #[.agg #[.slice A n c, .slice B m d]] w fun e w'=>(∃A c B d,e= .returned (.tuple #[(oI p).1.val A B c d, .int .i64 (oI p).2])/\Sl w' A c (oI p).1.code/\Sl w' B d (oI p).1.data)/\au w w':=by
 have hmm:= @run_makeMap prog;have hX:=(aa w (.cells #[.slice A n c, .slice B m d] 31)).alloc' (.cells #[.slice none 0 0, .slice none 0 0, .int .i64 0, .int .i64 0] 38);have HB0:=G ((aw w 31 #[.slice A n c, .slice B m d]).alloc (.cells #[.slice none 0 0, .slice none 0 0, .int .i64 0, .int .i64 0] 38));have HB1:=G (show aP ((w.alloc (.cells #[.slice A n c, .slice B m d] 31)).alloc (.cells #[.slice none 0 0, .slice none 0 0, .int .i64 0, .int .i64 0] 38)) (w.heap.size+1) 38 #[.slice none 0 0, .slice none 0 0, .int .i64 0, .int .i64 0]from by have:=aw (w.alloc (.cells #[.slice A n c, .slice B m d] 31)) 38 #[.slice none 0 0, .slice none 0 0, .int .i64 0, .int .i64 0];rwa [World.size_alloc]at this);have HX:=G hX;have HV:=G (hV.keep (.of_ext hX) (Q:=fun _=>True) (fun _ h _=>trivial));have HF:=G (hF.keep (.of_ext hX) (Q:=fun _=>True) (fun _ h _=>trivial));have HT:=G (gH hT hX);have HBT:=G (hB.ext hX);have HFT:=G (hFT.ext hX);have HA:=G (show oI p=if(mH p).2=0 then CJ (fD p).2.1 (qz p.vs (mq p.vs 0 []).1 (mq p.vs 0 []).2).2 (fD p).1 (fD p).2.2 else(⟨[],[],0,0⟩,1)from rfl);generalize oI p=R at*;have HCO:=G hco;clear hV hF hT hB hFT hX hco;go_enter func12,ntmps12
 go_upto_region 1 with fail
 generalize World.alloc (World.alloc w _) _=W0 at*;have HCk:=G (p_ p hw (fun _=>True) W0 A B n c m d HV.out HF.out HT.out HBT.out);have c0:=HB0.out.cell;obtain⟨er,hE⟩: ∃er,(mH p).2=er:=⟨_,rfl⟩
 rw[hE]at HA HCO HCk;clear hE;by_cases he:er=0
 ·subst he;rw[if_pos rfl]at HA;have HP:=G (HCO.out rfl)
  go_upto_region 4 with(go_at_call 11;refine HCk.out.mono ?_;rintro e w1 ⟨rfl,hE⟩;have HE1:=G hE;clear hE HCk c0)
  have HB2:=G (HB0.out.ext HE1.out);have c0:=HB2.out.cell
  go_upto_region 5 with fail
  generalize hW:World.alloc (World.alloc (World.alloc (World.alloc w1 _) _) _) _=W4;obtain⟨hE4,y0,y1,y2,y3,y4⟩:=EM hW;have HE4:=G (HE1.out.trans hE4);have hz1:W0.heap.size<=w1.heap.size:=HE1.out.size;have HV4:=G (HV.out.keep (.of_ext HE4.out) (Q:=fun b=>b<w1.heap.size) (fun b _ hb=>aA hb hz1));have HF4:=G (HF.out.keep (.of_ext HE4.out) (Q:=fun b=>b<w1.heap.size) (fun b _ hb=>aA hb hz1));have HB4:=G (HB2.out.ext hE4);have HBl:=G (show w.heap.size<w1.heap.size from HB2.out.lt);have HX1:=G (HX.out.trans HE1.out);have HR4:=G (HB1.out.ext HE4.out);have HRl:=G (show w.heap.size+1<w1.heap.size from aA HB1.out.lt hz1);have HX4:=G hE4;clear hW hE4 c0 HCO HV HF HT HB0 HB1 HB2 HX hmm;have HVr:=G (wV W4 (w1.heap.size+1+1+1) w1.heap.size w1.heap.size (w1.heap.size+1) A n c p.vs _ y0.out rfl rfl rfl HV4.out y1.out y2.out (ah _) (eG _) (by omega) (by omega) (by omega) HP.out.vs HP.out.vl);have hRaw:fD p=((l5 (aN (qm p.vs [])) p.fs ([],g6)).2,(l5 (aN (qm p.vs [])) p.fs ([],g6)).1,(qz p.vs (mq p.vs 0 []).1 (mq p.vs 0 []).2).1):=rfl;have HPz:=G HP.out.zr;have HPb:=G HP.out.vb;have HPc:=G HP.out.c0;have HPa:=G HP.out.ca;have HPd:=G HP.out.da;have HPs:=G HP.out.sz;have HPg:=G HP.out.bg;have HPf:=G HP.out.fs;rw[hRaw]at HA HPz HPb HPc HPa HPd;simp only at HA HPz HPb HPc HPa HPd;clear hRaw HP;generalize qm p.vs []=LS at*;generalize qz p.vs (mq p.vs 0 []).1 (mq p.vs 0 []).2=PA at*;obtain⟨ZR,LP⟩:=PA;simp only at HA HPz HPb HPc HPa HPd HVr;obtain⟨zr,rfl⟩:=aR HPz.out.1;have hlm:p.fs.length=m:=by obtain⟨A',c',e,_⟩:=HF4.out;injection e with _ e _;exact e.symm
  have HLM:=G hlm;have hmb:m<=6000000:=by have:=qk p;omega
  go_upto_region 6 with(go_at_call 31;refine HVr.out.mono ?_;rintro e w5 ⟨rfl,hQ⟩;have HQ5:=G hQ;clear hQ HVr)
  have HM5:=G (zG HQ5.out y3.out y4.out);have HMv5:=G (show Mv (fun b=>w1.heap.size<=b) W4 w5 from HQ5.out.mv.mono fun b _ e=>by omega);have HK5:=G (HMv5.out.keepP (P:=fun b=>b<w1.heap.size) fun b h _=>by omega);have HF5:=G (HF4.out.keep HK5.out (Q:=fun b=>b<w1.heap.size) fun b h _=>h);have HB5:=G (HMv5.out.blk HB4.out (by have:=HBl.out;omega));have HR5:=G (HMv5.out.blk HR4.out (by have:=HRl.out;omega));have hev:jh (kC w1.heap.size (.slice A n c) (.slice B m d) LP LS) w5:=by
   obtain⟨t,fr,h⟩:=HBT.out;have hl:=(Array.getElem?_eq_some_iff.1 h).1;refine⟨⟨t,fr,(HK5.out.block _ (aA hl hz1) (aA hl HE4.out.size)).trans ((HE4.out.obj hl).trans h)⟩,aA hl hz1,HPs.out⟩
  have HFT5:=G (show FT w5/\0<w1.heap.size from by
   obtain⟨t,fr,h⟩:=HFT.out;have hl:=(Array.getElem?_eq_some_iff.1 h).1
   exact⟨⟨t,fr,(HK5.out.block _ (aA hl hz1) (aA hl HE4.out.size)).trans ((HE4.out.obj hl).trans h)⟩,aA hl hz1⟩)
  have HQ6:=G (CQ.mk HM5.out (jk _ _) ⟨HB5.out,fun e=>by have:=Cw e;have:=HBl.out;omega⟩ hev);clear HBT HFT y0 y1 y2 y3 y4 HV4 HF4 HR4 HQ5 hev hlm
  go_upto_region 7 with(go_at_call 32;refine(Ad HQ6.out.m (by decide)).mono ?_;rintro e w6 ⟨rfl,O6,m6,hS6⟩;have HQ7:=G (HQ6.out.nx m6 hS6);clear m6 hS6 HQ6)
  rw[show DW Gk=g6 from rfl]at HQ7;have c0:=HQ7.out.x.1.cell;have HS0:=G (show l5 (aN LS) (p.fs.take 0) ([],g6)=([],g6)from rfl)
  go_upto_region 8 with fail
  clear c0;obtain⟨k,hk⟩: ∃k,kC w1.heap.size (.slice A n c) (.slice B m d) LP LS=k:=⟨_,rfl⟩
  have HkB:=G (show k.base=w1.heap.size/\k.c=w1.heap.size+1+1+1/\k.sz=LS/\k.pl=LP by subst hk;exact⟨rfl,rfl,rfl,rfl⟩);obtain⟨OC,hOC⟩: ∃OC,oC w1.heap.size (.slice A n c) (.slice B m d) LP LS=OC:=⟨_,rfl⟩
  have HOC:=G (show ∀b,OC b->w1.heap.size<=b by subst hOC;exact fun b h=>Cw h);rw[hk,hOC]at HQ7 HM5;clear hk hOC
  go_loopw [31] (fun vi wr=> ∃(j:Nat) (O1:Nat->Prop) (at1:List (Nm×Int)) (s1:CS),vi= .int .i64 (j:Int)/\j<=m/\Hid (CQ k at1 OC w5 w.heap.size 31 #[.slice A n c, .slice B m d] O1 s1 wr)/\Hid (l5 (aN LS) (p.fs.take j) ([],g6)=(at1,s1))) (fun vi _=>m-(intOf vi).toNat)
  case atStart=>exact⟨0,_,_,_,rfl,aC _,HQ7,HS0⟩
  case round=>
   obtain⟨j,O1,at1,s1,rfl,hj,HQ8,HS1⟩:=hrel;clear HQ7 HS0;generalize wr=wz at*;by_cases hlt:j<m
   ·have hlt':(j:Int)<(m:Int):=by omega
    have hjx:j<p.fs.length:=by rw[HLM.out];exact hlt
    have HKz:=G (HQ8.out.T.keepP HM5.out);rw[HkB.out.1]at HKz;obtain⟨b,o,pv,bv,rfl,hbw,hPb,q0,q1,q2,q3,q4⟩:=lJ (HF5.out.keep HKz.out (Q:=fun b=>b<w1.heap.size) fun b h _=>h) j hjx;obtain⟨A3,c3,rfl,_⟩:=id q3;obtain⟨A4,c4,rfl,_⟩:=q4.form;have HS2:=G (wY hjx HS1.out);have HBg:=G (HPg.out (j+1));rw[HS2.out]at HBg;have HCf:=G (HPf.out _ (ap hjx));generalize p.fs[j]=f at*;have Q3:=G q3;have Q4:=G q4;clear q3 q4
    go_upto_region 10 with fail
    generalize hW:World.alloc wz _=W7;obtain⟨hE7,y0,_⟩:=jm hW;have HQ9:=G (HQ8.out.ext hE7);have R3:=G (Q3.out.keep (.of_ext hE7) (Q:=fun b=>b<k.base) fun b h _=>by rw[HkB.out.1];exact h);have R4:=G (Q4.out.keep (.of_ext hE7) (Q:=fun b=>b<k.base) fun b h _=>by rw[HkB.out.1];exact h);have c0:=y0.out.cell;have HCn:=G (B5 k at1 f HCf.out O1 W7 s1 A3 A4 c3 c4 HQ9.out.m HQ9.out.e R3.out R4.out (by rw[HkB.out.2.2.1];exact HBg.out));rw[HkB.out.2.2.1,HkB.out.2.1]at HCn;clear hW hE7 y0 q0 q1 q2 Q3 Q4 R3 R4 HS1 HQ8 HKz;go_wp2_with (go_at_call 33;refine HCn.out.mono ?_;rintro e w8 ⟨rfl,O8,m8,hS8⟩;have HM8:=G m8;have HS8:=G hS8;clear HCn c0 m8 hS8);have HQ10:=G (CQ.mk HM8.out (HQ9.out.T.trans HS8.out) (HQ9.out.x.st HS8.out) (HQ9.out.e.st HQ9.out.m HS8.out));go_roundw
    case rel=>exact⟨j+1,O8,_,_,by go_num,by omega,HQ10,HS2⟩
    case measure=>simp[intOf];omega
   ·have hjm:m=j:=by omega
    subst hjm;have hlt': ¬(m:Int)<(m:Int):=by omega
    have HS2:=HS1.out;rw[bh (by rw[HLM.out];exact ah _)]at HS2;have HBg:=G (HPg.out m);rw[HS1.out]at HBg;rw[HS2]at HA HPb HPc HPa HPd;simp only at HA HPb HPc HPa HPd HBg
    have HFTz:=G (show FT wz from by
     obtain⟨t,fr,h⟩:=HFT5.out.1
     exact⟨t,fr,(HQ8.out.T.1.block _ (Array.getElem?_eq_some_iff.1 h).1 fun e=>by have:=HOC.out _ e;have:=HFT5.out.2;omega).trans h⟩)
    have HFl:=G (xh k at1 O1 wz s1 zr HQ8.out.m HQ8.out.e HFTz.out (by rw[HkB.out.1];exact HFT5.out.2) (by have:=HPz.out.2;omega) HBg.out HPb.out HPc.out HPa.out (by rw[HkB.out.2.2.2];exact HPd.out));rw[HkB.out.2.2.2,HkB.out.2.1,<-HA.out]at HFl;have HRz:=G (HQ8.out.T.1.blk HR5.out fun e=>by have:=HOC.out _ e;have:=HRl.out;omega);have HO1:=G (show ∀b,O1 b->w1.heap.size<=b from fun b e=>by have:=(HQ8.out.m.lt e).1;rw[HkB.out.1]at this;exact this);have HMz:=G (show Mv (fun b=>w.heap.size<=b) w wz from((cE (HX1.out.trans HX4.out)).trans (HMv5.out.mono fun b _ e=>by have:=HBl.out;omega)).trans (HQ8.out.T.1.mono fun b _ e=>by have:=HOC.out b e;have:=HBl.out;omega))
    have HRs:=G (show ∀e w',((∃A c B d,e=Ending.returned (.tuple #[R.1.val A B c d, .int .i64 R.2])/\Sl w' A c R.1.code/\Sl w' B d R.1.data)/\Mv O1 wz w')->(∃A c B d,e=Ending.returned (.tuple #[.agg #[.slice A R.1.code.length c, .slice B R.1.data.length d, .int .i64 R.1.zero, .int .i64 R.1.entry], .int .i64 R.2])/\Sl w' A c R.1.code/\Sl w' B d R.1.data)/\Mv (fun b=>w.heap.size<=b) w w'/\aP w' (w.heap.size+1) 38 #[.slice none 0 0, .slice none 0 0, .int .i64 0, .int .i64 0]from
     fun e w' ⟨h1,h2⟩=>⟨h1,HMz.out.trans (h2.mono fun b _ e=>by have:=HO1.out b e;have:=HBl.out;omega),h2.blk HRz.out fun e=>by have:=HO1.out _ e;have:=HRl.out;omega⟩)
    clear HS1 HS2 HA HPb HPc HPa HPd HBg HQ8 hj hlt
    go_upto_region 13 with(go_at_call 34;refine HFl.out.mono ?_;intro e w8 hp;obtain⟨⟨A8,c8,B8,d8,rfl,s1',s2'⟩,hm8,hb8⟩:=HRs.out e w8 hp;have HS8:=G s1';have HS9:=G s2';have HM8:=G hm8;have HB8:=G hb8;clear hp s1' s2' hm8 hb8 HFl HRs;have x0:=HB8.out.cell;have f0:=HB8.out.frozen)
    have hset:=(HB8.out.put4 (.slice A8 R.1.code.length c8) (.slice B8 R.1.data.length d8) (.int .i64 R.1.zero) (.int .i64 R.1.entry)).cell;exact bodyPost_ret (v:= .tuple #[.agg #[.slice A8 R.1.code.length c8, .slice B8 R.1.data.length d8, .int .i64 R.1.zero, .int .i64 R.1.entry], .int .i64 R.2]) (by simp[results,results12,go_sem,hset]) rfl ⟨⟨A8,c8,B8,d8,rfl,yr HS8.out HB8.out _ _ _ _,yr HS9.out HB8.out _ _ _ _⟩,(HM8.out.put4 (g:=w.heap.size+1) (eG _) _ _ _ _).ext fun k hk h=>by omega⟩
 ·rw[if_neg he]at HA;have he1:(er==0)=false:=beq_eq_false_iff_ne.2 he;clear he
  go_upto_region 3 with(go_at_call 11;refine HCk.out.mono ?_;rintro e w1 ⟨rfl,hE⟩;have HE1:=G (HX.out.trans hE);have HB2:=G (HB1.out.ext hE);clear hE HCk c0)
  have x0:=HB2.out.cell;have f0:=HB2.out.frozen;have HS:=G (HB2.out.put4 (.slice none 0 0) (.slice none 0 0) (.int .i64 0) (.int .i64 0)).cell;have HMv:=G (HE1.out.put4 (g:=w.heap.size+1) (eG _) (.slice none 0 0) (.slice none 0 0) (.int .i64 0) (.int .i64 0));go_wp2_with fail;have hset:=HS.out;exact bodyPost_ret (v:= .tuple #[.agg #[.slice none 0 0, .slice none 0 0, .int .i64 0, .int .i64 0], .int .i64 1]) (by simp[results,results12,go_sem,hset]) rfl ⟨⟨none,0,none,0,by rw[HA.out];rfl,by rw[HA.out];exact d7 _,by rw[HA.out];exact d7 _⟩,HMv.out⟩
end
section
open Go.RowKit
mutual
def Ek:Ex->Nat
 | .mk k op nm tx v a=>80+tx.length+tp a
def tp:List Ex->Nat
 | []=>0
 |x::l=>Ek x+tp l
end
mutual
theorem C6: ∀x:Ex,Ek x<=80*x.wt
 | .mk k op nm tx v a=>by
  have:=qh a;rw[Ek,Ex.wt];omega
theorem qh: ∀l:List Ex,tp l<=80*jF l
 | []=>by simp[tp]
 |x::r=>by
  have:=C6 x;have:=qh r;rw[tp,jF];omega
end
theorem xH {l:List Ex} {j:Nat} (h:j<l.length):tp (l.drop j)=Ek l[j]+tp (l.drop (j+1)):=by
 rw[am h,tp]
def Fw (xs:List Ex):Prop:= ∀(P:Nat->Prop) (w:World) (A:Option Addr) (n c:Nat),et w P (.slice A n c) xs->Calls prog 75 #[.slice A n c] w fun e w'=>e= .returned (.int .i64 (tp xs:Int))/\au w w'
theorem rB (xs:List Ex) (hw:jF xs<=100000000) (hIH: ∀x∈xs,Fw x.args):Fw xs:=by
 intro P w A n c hR;obtain⟨A',c',hv,hf⟩:=hR.form;injection hv with hv1 hv2 hv3;subst hv1 hv2 hv3;have hl:=dI xs;have hdl:=qh xs;have HR:=G hR;have HI:=G hIH;obtain⟨N,hN⟩: ∃N,xs.length=N:=⟨_,rfl⟩
 have HN:=G hN;rw[hN]at HR hl;obtain⟨Rv,hRv⟩: ∃R,tp xs=R:=⟨_,rfl⟩
 have HQ0:=G (show 0+tp (xs.drop 0)=Rv by rw[<-hRv];simp);have HX0:=G (aG w);have hRb:Rv<=8000000000:=by omega
 rw[hN,hRv];clear hR hf hIH hN hRv hdl;go_enter func75,ntmps75;go_wp2_with fail
 go_loopw [3,8] (fun vm vi wr=> ∃(j m:Nat),vi= .int .i64 (j:Int)/\vm= .int .i64 (m:Int)/\j<=N/\Hid (m+tp (xs.drop j)=Rv)/\Hid (au w wr)) (fun _ vi _=>N-(intOf vi).toNat)
 case atStart=>exact⟨0,0,rfl,rfl,aC _,HQ0,HX0⟩
 case round=>
  obtain⟨j,m,rfl,rfl,hj,HQ,HX⟩:=hrel;by_cases hlt:j<N
  ·have hlt':(j:Int)<N:=by omega
   have hjl:j<xs.length:=by have:=HN.out;omega
   obtain⟨b,o,a,rfl,hb,hPb,h0,h1,h2,h3,h4,h5,hRa⟩:=HR.out.at_ j hjl;have hS:=xH hjl;have hII:=HI.out _ (ap hjl);generalize xs[j]=y at*;obtain⟨k,op,nm,tx,v,ys⟩:=y;simp only[Ex.k,Ex.op,Ex.nm,Ex.tx,Ex.v,Ex.args]at h0 h1 h2 h3 h4 hRa hII;rw[Ek]at hS;have hSb:=HQ.out;rw[hS]at hSb;have e0:=(HX.out.cell b _ hb).trans h0;have e1:=(HX.out.cell b _ hb).trans h1;have e2:=(HX.out.cell b _ hb).trans h2;have e3:=(HX.out.cell b _ hb).trans h3;have e4:=(HX.out.cell b _ hb).trans h4;have e5:=(HX.out.cell b _ hb).trans h5;obtain⟨A1,c1,rfl,_⟩:=hRa.form;obtain⟨W1,hW⟩: ∃W1,wr.alloc (.cells #[.int .i64 k, .string (an op), .string (an nm), .string (an tx), .int .i64 v, .slice A1 ys.length c1] 206)=W1:=⟨_,rfl⟩
   have hAl:=au.of_eq_alloc hW;have HBK:=G (show aP W1 wr.heap.size 206 #[.int .i64 k, .string (an op), .string (an nm), .string (an tx), .int .i64 v, .slice A1 ys.length c1] by rw[<-hW];exact aw _ _ _);have HXA:=G (HX.out.trans hAl);have HRa:=G (hRa.keep (.of_ext HXA.out) (Q:=P) (fun b hb _=>hb));obtain⟨d1,hd1⟩: ∃d,tp ys=d:=⟨_,rfl⟩
   rw[hd1]at hSb;have HC1:=G (fun W (h:au W1 W)=>hd1▸hII P W A1 _ c1 (HRa.out.keep (.of_ext h) (Q:=P) (fun b hb _=>hb)));have HSb:=G hSb;have hbs:m+(80+tx.length+d1)<=8000000000:=by omega
   clear h0 h1 h2 h3 h4 h5 hRa hII hAl HRa hd1 hS hSb HQ
   go_upto_region 5 with fail
   clear hW e0 e1 e2 e3 e4 e5;have c0:=HBK.out.cell;have HD:=G (show au W1 W1.drew from d9 (aG _));have HTs:=G (aU tx);have hts:=aU tx;obtain⟨T,hT⟩: ∃T,(an tx).size=T:=⟨_,rfl⟩
   rw[hT]at HTs hts;have hw1:IntKind.i64.wrap (80+(T:Int))=80+T:=by simp[IntKind.wrap,IntKind.signed,IntKind.bits];omega
   have hw2:IntKind.i64.wrap (80+(T:Int)+d1)=80+T+d1:=by simp[IntKind.wrap,IntKind.signed,IntKind.bits];omega
   have hw3:IntKind.i64.wrap ((m:Int)+(80+T+d1))=m+(80+T+d1):=by simp[IntKind.wrap,IntKind.signed,IntKind.bits];omega
   clear hts
   go_region_law (go_simp;go_at_call 75;refine(HC1.out _ HD.out).mono ?_;rintro e w2 ⟨rfl,hE⟩;have HE2:=G (HD.out.trans hE);have c2:=(HBK.out.ext HE2.out).cell;clear HC1 hE)
   all_goals
    have HX2:=G (HXA.out.trans HE2.out);clear c0 c2 HD HE2;go_wp2_with fail;go_roundw
    case rel=>exact⟨j+1,m+(80+tx.length+d1),by go_num,congrArg (Value.int .i64) (by have:=HTs.out;omega),by omega,G (by have:=HSb.out;omega),HX2⟩
    case measure=>simp[intOf];omega
  ·have hlt': ¬(j:Int)<N:=by omega
   have HM:=G (show m=Rv by
    have:=HQ.out;rw[aI (by have:=HN.out;omega),tp]at this
    omega)
   go_wp2_with fail;go_ret;exact⟨by rw[<-HM.out];rfl,HX.out⟩
theorem pD: ∀(m:Nat) (xs:List Ex),jF xs<=m->jF xs<=100000000->Fw xs
 |0,xs,h,hw=>rB xs hw (fun x hx=>by have:=dO hx;have:=x.wt_eq;omega)
 |m+1,xs,h,hw=>rB xs hw (fun x hx=>pD m x.args (by have:=dO hx;have:=x.wt_eq;omega) (by have:=dO hx;have:=x.wt_eq;omega))
end
section
open Go.RowKit
mutual
def Ej:St->Nat
 | .mk k nm ex b e=>80+tp ex+jr b+jr e
def jr:List St->Nat
 | []=>0
 |x::l=>Ej x+jr l
end
mutual
theorem C5: ∀x:St,Ej x<=80*x.wt
 | .mk k nm ex b e=>by
  have:=qh ex;have:=nq b;have:=nq e;rw[Ej,St.wt];omega
theorem nq: ∀l:List St,jr l<=80*gF l
 | []=>by simp[jr]
 |x::r=>by
  have:=C5 x;have:=nq r;rw[jr,gF];omega
end
theorem vH {l:List St} {j:Nat} (h:j<l.length):jr (l.drop j)=Ej l[j]+jr (l.drop (j+1)):=by
 rw[am h,jr]
def Fx (xs:List St):Prop:= ∀(P:Nat->Prop) (w:World) (A:Option Addr) (n c:Nat),dS w P (.slice A n c) xs->Calls prog 36 #[.slice A n c] w fun e w'=>e= .returned (.int .i64 (jr xs:Int))/\au w w'
theorem rC (xs:List St) (hw:gF xs<=100000000) (hIH: ∀x∈xs,Fw x.ex/\Fx x.body/\Fx x.els):Fx xs:=by
 intro P w A n c hR;obtain⟨A',c',hv,hf⟩:=hR.form;injection hv with hv1 hv2 hv3;subst hv1 hv2 hv3;have hl:=eo xs;have hdl:=nq xs;have HR:=G hR;have HI:=G hIH;obtain⟨N,hN⟩: ∃N,xs.length=N:=⟨_,rfl⟩
 have HN:=G hN;rw[hN]at HR hl;obtain⟨Rv,hRv⟩: ∃R,jr xs=R:=⟨_,rfl⟩
 have HQ0:=G (show 0+jr (xs.drop 0)=Rv by rw[<-hRv];simp);have HX0:=G (aG w);have hRb:Rv<=8000000000:=by omega
 rw[hN,hRv];clear hR hf hIH hN hRv hdl;go_enter func36,ntmps36;go_wp2_with fail
 go_loopw [3,8] (fun vm vi wr=> ∃(j m:Nat),vi= .int .i64 (j:Int)/\vm= .int .i64 (m:Int)/\j<=N/\Hid (m+jr (xs.drop j)=Rv)/\Hid (au w wr)) (fun _ vi _=>N-(intOf vi).toNat)
 case atStart=>exact⟨0,0,rfl,rfl,aC _,HQ0,HX0⟩
 case round=>
  obtain⟨j,m,rfl,rfl,hj,HQ,HX⟩:=hrel;by_cases hlt:j<N
  ·have hlt':(j:Int)<N:=by omega
   have hjl:j<xs.length:=by have:=HN.out;omega
   obtain⟨b,o,e,bv,lv,rfl,hb,hPb,h0,h1,h2,h3,h4,hRe,hRb2,hRl⟩:=HR.out.at_ j hjl;have hS:=vH hjl;have hII:=HI.out _ (ap hjl);generalize xs[j]=y at*;obtain⟨k,nm,ex,bd,el⟩:=y;simp only[St.k,St.nm,St.ex,St.body,St.els]at h0 h1 hRe hRb2 hRl hII;rw[Ej]at hS;have hSb:=HQ.out;rw[hS]at hSb;have e0:=(HX.out.cell b _ hb).trans h0;have e1:=(HX.out.cell b _ hb).trans h1;have e2:=(HX.out.cell b _ hb).trans h2;have e3:=(HX.out.cell b _ hb).trans h3;have e4:=(HX.out.cell b _ hb).trans h4;obtain⟨A1,c1,rfl,_⟩:=hRe.form;obtain⟨A2,c2,rfl,_⟩:=hRb2.form;obtain⟨A3,c3,rfl,_⟩:=hRl.form;obtain⟨W1,hW⟩: ∃W1,wr.alloc (.cells #[.int .i64 k, .string (an nm), .slice A1 ex.length c1, .slice A2 bd.length c2, .slice A3 el.length c3] 147)=W1:=⟨_,rfl⟩
   have hAl:=au.of_eq_alloc hW;have HBK:=G (show aP W1 wr.heap.size 147 #[.int .i64 k, .string (an nm), .slice A1 ex.length c1, .slice A2 bd.length c2, .slice A3 el.length c3] by rw[<-hW];exact aw _ _ _);have HXA:=G (HX.out.trans hAl);have HRe:=G (hRe.keep (.of_ext HXA.out) (Q:=P) (fun b hb _=>hb));have HRb:=G (hRb2.keep (.of_ext HXA.out) (Q:=P) (fun b hb _=>hb));have HRl:=G (hRl.keep (.of_ext HXA.out) (Q:=P) (fun b hb _=>hb));obtain⟨d1,hd1⟩: ∃d,tp ex=d:=⟨_,rfl⟩
   obtain⟨d2,hd2⟩: ∃d,jr bd=d:=⟨_,rfl⟩
   obtain⟨d3,hd3⟩: ∃d,jr el=d:=⟨_,rfl⟩
   rw[hd1,hd2,hd3]at hSb;have HC1:=G (fun W (h:au W1 W)=>hd1▸hII.1 P W A1 _ c1 (HRe.out.keep (.of_ext h) (Q:=P) (fun b hb _=>hb)));have HC2:=G (fun W (h:au W1 W)=>hd2▸hII.2.1 P W A2 _ c2 (HRb.out.keep (.of_ext h) (Q:=P) (fun b hb _=>hb)));have HC3:=G (fun W (h:au W1 W)=>hd3▸hII.2.2 P W A3 _ c3 (HRl.out.keep (.of_ext h) (Q:=P) (fun b hb _=>hb)));have HSb:=G hSb;have hbs:m+(80+d1+d2+d3)<=8000000000:=by omega
   clear h0 h1 h2 h3 h4 hRe hRb2 hRl hII hAl HRe HRb HRl hd1 hd2 hd3 hS hSb HQ
   go_upto_region 5 with fail
   clear hW e0 e1 e2 e3 e4;have c0:=HBK.out.cell;have HD:=G (show au W1 W1.drew from d9 (aG _));have hw1:IntKind.i64.wrap (80+(d1:Int))=80+d1:=by simp[IntKind.wrap,IntKind.signed,IntKind.bits];omega
   have hw2:IntKind.i64.wrap (80+(d1:Int)+d2)=80+d1+d2:=by simp[IntKind.wrap,IntKind.signed,IntKind.bits];omega
   have hw3:IntKind.i64.wrap (80+(d1:Int)+d2+d3)=80+d1+d2+d3:=by simp[IntKind.wrap,IntKind.signed,IntKind.bits];omega
   have hw4:IntKind.i64.wrap ((m:Int)+(80+d1+d2+d3))=m+(80+d1+d2+d3):=by simp[IntKind.wrap,IntKind.signed,IntKind.bits];omega
   clear c0 HD;refine ay 14 4 [(3,fun v=>v= .int .i64 (d1:Int),fun _ _=>True),(7,fun v=>v= .int .i64 (d2:Int),fun _ _=>True),(11,fun v=>v= .int .i64 (d3:Int),fun _ _=>True)] mixed (by kernel_rfl) ⟨fun _ _ _ _ _=>trivial,fun _ _ _ _ _=>trivial,fun _ _ _ _ _=>trivial,trivial⟩ ?_;repeat (first|(refine bM (by rfl) ?_;simp only[bH,bG,bF,bE,bD])|(refine sx ?_ (fun w1 hU=> ?_) ?_;rotate_left;(focus have f1:=(HBK.out.ext hU.un).cell;clear hU;go_simp<;>with_reducible rfl);simp only[bH,bG,bF,bE,bD]))
   refine so (fun w6 hU hp K hK=> ?_) ?_
   ·have hc:=HC1.out w6 hU.un;clear hp hU;go_simp;refine hc.mono ?_;rintro e w7 ⟨rfl,hE⟩;exact hK _ _ hE rfl trivial
   rintro _ rfl;simp only[bH,bG,bF,bE,bD];repeat (first|(refine bM (by rfl) ?_;simp only[bH,bG,bF,bE,bD])|(refine sx ?_ (fun w1 hU=> ?_) ?_;rotate_left;(focus have f1:=(HBK.out.ext hU.un).cell;clear hU;go_simp<;>with_reducible rfl);simp only[bH,bG,bF,bE,bD]))
   refine so (fun w6 hU hp K hK=> ?_) ?_
   ·have hc:=HC2.out w6 hU.un;clear hp hU;go_simp;refine hc.mono ?_;rintro e w7 ⟨rfl,hE⟩;exact hK _ _ hE rfl trivial
   rintro _ rfl;simp only[bH,bG,bF,bE,bD];repeat (first|(refine bM (by rfl) ?_;simp only[bH,bG,bF,bE,bD])|(refine sx ?_ (fun w1 hU=> ?_) ?_;rotate_left;(focus have f1:=(HBK.out.ext hU.un).cell;clear hU;go_simp<;>with_reducible rfl);simp only[bH,bG,bF,bE,bD]))
   refine so (fun w6 hU hp K hK=> ?_) ?_
   ·have hc:=HC3.out w6 hU.un;clear hp hU;go_simp;refine hc.mono ?_;rintro e w7 ⟨rfl,hE⟩;exact hK _ _ hE rfl trivial
   rintro _ rfl;simp only[bH,bG,bF,bE,bD];repeat (first|(refine bM (by rfl) ?_;simp only[bH,bG,bF,bE,bD])|(refine sx ?_ (fun w1 hU=> ?_) ?_;rotate_left;(focus have f1:=(HBK.out.ext hU.un).cell;clear hU;go_simp<;>with_reducible rfl);simp only[bH,bG,bF,bE,bD]))
   intro w8 hw8 hp;clear hp;simp only[ac,aq];have HX2:=G (HXA.out.trans hw8.un);clear hw8 HC1 HC2 HC3;go_wp2_with fail;go_roundw
   case rel=>exact⟨j+1,m+(80+d1+d2+d3),by go_num,congrArg (Value.int .i64) (by omega),by omega,G (by have:=HSb.out;omega),HX2⟩
   case measure=>simp[intOf];omega
  ·have hlt': ¬(j:Int)<N:=by omega
   have HM:=G (show m=Rv by
    have:=HQ.out;rw[aI (by have:=HN.out;omega),jr]at this
    omega)
   go_wp2_with fail;go_ret;exact⟨by rw[<-HM.out];rfl,HX.out⟩
theorem k_: ∀(m:Nat) (xs:List St),gF xs<=m->gF xs<=100000000->Fx xs
 |0,xs,h,hw=>rC xs hw (fun x hx=>by have:=co hx;have:=x.wt_eq;omega)
 |m+1,xs,h,hw=>rC xs hw (fun x hx=>⟨pD _ x.ex (ah _) (by have:=co hx;have:=x.wt_eq;omega),k_ m x.body (by have:=co hx;have:=x.wt_eq;omega) (by have:=co hx;have:=x.wt_eq;omega),k_ m x.els (by have:=co hx;have:=x.wt_eq;omega) (by have:=co hx;have:=x.wt_eq;omega)⟩)
end
section
open Go.RowKit
def FA (f:Fc):Nat:=16+il f+jr f.body
def pg:List Fc->Nat
 | []=>0
 |f::l=>FA f+pg l
def Fm (p:Pg):Nat:=if(mH p).2=0 then 48+pg p.fs else 0
theorem vI {l:List Fc} {j:Nat} (h:j<l.length):pg (l.drop j)=FA l[j]+pg (l.drop (j+1)):=by
 rw[am h,pg]
theorem rD (p:Pg) (hw:qA p<=6000000) (hfs: ∀f∈p.fs,gF f.body<=6000000/\f.ps.length<=6000000) (hbd:pg p.fs<=100000000000) (w:World) (A B:Option Addr) (n c m d:Nat) (hV:nG w (fun _=>True) (.slice A n c) p.vs) (hF:oT w (fun _=>True) (.slice B m d) p.fs) (hT:dK w w.heap.size) (hB:BT w):
  Calls prog 13 #[.agg #[.slice A n c, .slice B m d]] w fun e w'=>e= .returned (.int .i64 (Fm p:Int))/\au w w':=by
 have hX:=aa w (.cells #[.slice A n c, .slice B m d] 31);have HB0:=G (aw w 31 #[.slice A n c, .slice B m d]);have HX:=G hX;have HV:=G (hV.keep (.of_ext hX) (Q:=fun _=>True) (fun _ h _=>trivial));have HF:=G (hF.keep (.of_ext hX) (Q:=fun _=>True) (fun _ h _=>trivial));have HT:=G (gH hT hX);have HBT:=G (hB.ext hX);have HA:=G (show Fm p=if(mH p).2=0 then 48+pg p.fs else 0 from rfl);have HFS:=G hfs;generalize Fm p=R at*;clear hV hF hT hB hX hfs;go_enter func13,ntmps13
 go_upto_region 1 with fail
 generalize World.alloc w _=W0 at*;have HCk:=G (p_ p hw (fun _=>True) W0 A B n c m d HV.out HF.out HT.out HBT.out);have c0:=HB0.out.cell;obtain⟨er,hE⟩: ∃er,(mH p).2=er:=⟨_,rfl⟩
 rw[hE]at HA HCk;clear hE;have hlm:p.fs.length=m:=by obtain⟨A',c',e,_⟩:=HF.out;injection e with _ e _;exact e.symm
 have hmb:m<=6000000:=by have:=qk p;omega
 have HLM:=G hlm;clear hlm;by_cases he:er=0
 ·subst he;rw[if_pos rfl]at HA
  go_upto_region 5 with(go_at_call 11;refine HCk.out.mono ?_;rintro e w1 ⟨rfl,hE⟩;have HE1:=G hE;clear hE HCk c0)
  have HB2:=G (HB0.out.ext HE1.out);have c0:=HB2.out.cell;have HF1:=G (HF.out.keep (.of_ext HE1.out) (Q:=fun _=>True) (fun _ h _=>trivial));have HQ0:=G (show 48+pg (p.fs.drop 0)=R by rw[HA.out];simp);have HX0:=G (aG w1);have hRb:R<=100000000048:=by rw[HA.out];omega
  have HXX:=G (HX.out.trans HE1.out);clear HA hbd HF HV HT HBT HB0 HX HE1
  go_upto_region 6 with fail
  clear c0
  go_loopw [5,18] (fun vm vi wr=> ∃(j t:Nat),vi= .int .i64 (j:Int)/\vm= .int .i64 (t:Int)/\j<=m/\Hid (t+pg (p.fs.drop j)=R)/\Hid (au w1 wr)) (fun _ vi _=>m-(intOf vi).toNat)
  case atStart=>exact⟨0,48,rfl,rfl,aC _,HQ0,HX0⟩
  case round=>
   obtain⟨j,t,rfl,rfl,hj,HQ,HXr⟩:=hrel;clear HQ0 HX0;by_cases hlt:j<m
   ·have hlt':(j:Int)<(m:Int):=by omega
    have hjx:j<p.fs.length:=by rw[HLM.out];exact hlt
    obtain⟨b,o,pv,bv,rfl,hbw,hPb,q0,q1,q2,q3,q4⟩:=lJ (HF1.out.keep (.of_ext HXr.out) (Q:=fun _=>True) fun _ _ _=>trivial) j hjx;obtain⟨A3,c3,rfl,_⟩:=id q3;obtain⟨A4,c4,rfl,_⟩:=q4.form;have hS:=vI hjx;obtain⟨g1,g2⟩:=HFS.out _ (ap hjx);generalize p.fs[j]=f at*;have Q4:=G q4;have hSb:=HQ.out;rw[hS]at hSb;clear q3 q4 hS HQ
    go_upto_region 8 with fail
    generalize hW:World.alloc wr _=W7;obtain⟨hE7,y0,_⟩:=jm hW;have R4:=G (Q4.out.keep (.of_ext hE7) (Q:=fun _=>True) fun _ _ _=>trivial);have HC1:=G (fun W (h:au W7 W)=>nM f.nm f.ps f.body g1 g2 (fun _=>True) W A3 A4 c3 c4 (R4.out.keep (.of_ext h) (Q:=fun _=>True) fun _ _ _=>trivial));have HC2:=G (fun W (h:au W7 W)=>k_ _ f.body (ah _) (by omega) (fun _=>True) W A4 _ c4 (R4.out.keep (.of_ext h) (Q:=fun _=>True) fun _ _ _=>trivial));have HX7:=G (HXr.out.trans hE7);have hfr:il ⟨f.nm,f.ps,f.body⟩=il f:=rfl;have hwf:FA f=16+il f+jr f.body:=rfl;have hf16:32<=il f:=by show 32<=4*(8+f.ps.length+cJ f.body);omega
    rw[hfr]at HC1;rw[hwf]at hSb;generalize il f=d1 at*;generalize jr f.body=d2 at*;have HSb:=G hSb;have hbs:t+(16+d1+d2)<=100000000048:=by omega
    clear hW hE7 q0 q1 q2 Q4 R4 hSb hfr hwf g1 g2;have hw1:IntKind.i64.wrap (48+(d1:Int))=48+d1:=by simp[IntKind.wrap,IntKind.signed,IntKind.bits];omega
    have hw2:IntKind.i64.wrap (48+(d1:Int)-32)=48+d1-32:=by simp[IntKind.wrap,IntKind.signed,IntKind.bits];omega
    have hw3:IntKind.i64.wrap (48+(d1:Int)-32+d2)=48+d1-32+d2:=by simp[IntKind.wrap,IntKind.signed,IntKind.bits];omega
    have hw4:IntKind.i64.wrap ((t:Int)+(48+(d1:Int)-32+d2))=t+(48+d1-32+d2):=by simp[IntKind.wrap,IntKind.signed,IntKind.bits];omega
    refine ay 10 4 [(2,fun v=>v= .int .i64 (d1:Int),fun _ _=>True),(7,fun v=>v= .int .i64 (d2:Int),fun _ _=>True)] mixed (by kernel_rfl) ⟨fun _ _ _ _ _=>trivial,fun _ _ _ _ _=>trivial,trivial⟩ ?_;repeat (first|(refine bM (by rfl) ?_;simp only[bH,bG,bF,bE,bD])|(refine sx ?_ (fun w1 hU=> ?_) ?_;rotate_left;(focus have f1:=(y0.out.ext hU.un).cell;clear hU;go_simp<;>with_reducible rfl);simp only[bH,bG,bF,bE,bD]))
    refine so (fun w6 hU hp K hK=> ?_) ?_
    ·have hc:=HC1.out w6 hU.un;clear hp hU;go_simp;refine hc.mono ?_;rintro e w7 ⟨rfl,hE⟩;exact hK _ _ hE rfl trivial
    rintro _ rfl;simp only[bH,bG,bF,bE,bD];repeat (first|(refine bM (by rfl) ?_;simp only[bH,bG,bF,bE,bD])|(refine sx ?_ (fun w1 hU=> ?_) ?_;rotate_left;(focus have f1:=(y0.out.ext hU.un).cell;clear hU;go_simp<;>with_reducible rfl);simp only[bH,bG,bF,bE,bD]))
    refine so (fun w6 hU hp K hK=> ?_) ?_
    ·have hc:=HC2.out w6 hU.un;clear hp hU;go_simp;refine hc.mono ?_;rintro e w7 ⟨rfl,hE⟩;exact hK _ _ hE rfl trivial
    rintro _ rfl;simp only[bH,bG,bF,bE,bD];repeat (first|(refine bM (by rfl) ?_;simp only[bH,bG,bF,bE,bD])|(refine sx ?_ (fun w1 hU=> ?_) ?_;rotate_left;(focus have f1:=(y0.out.ext hU.un).cell;clear hU;go_simp<;>with_reducible rfl);simp only[bH,bG,bF,bE,bD]))
    intro w8 hw8 hp;clear hp;simp only[ac,aq];have HX2:=G (HX7.out.trans hw8.un);clear hw8 HC1 HC2;go_wp2_with fail;go_roundw
    case rel=>exact⟨j+1,t+(16+d1+d2),by go_num,congrArg (Value.int .i64) (by omega),by omega,G (by have:=HSb.out;omega),HX2⟩
    case measure=>simp[intOf];omega
   ·have hjm:m=j:=by omega
    subst hjm;have hlt': ¬(m:Int)<(m:Int):=by omega
    have HM:=G (show t=R by
     have:=HQ.out;rw[aI (by have:=HLM.out;omega),pg]at this
     omega)
    go_wp2_with fail;go_ret;exact⟨by rw[<-HM.out];rfl,HXX.out.trans HXr.out⟩
 ·rw[if_neg he]at HA;have he1:(er==0)=false:=beq_eq_false_iff_ne.2 he;clear he;go_wp2_with (go_at_call 11;refine HCk.out.mono ?_;rintro e w1 ⟨rfl,hE⟩;have HE1:=G (HX.out.trans hE);clear hE HCk c0);go_ret;exact⟨by rw[HA.out];rfl,HE1.out⟩
end
section
open Go.RowKit
theorem G2 {w w':World} {g k:Nat} {t:TypeId} {cs:Array Value} (h:Hid (aP w k t cs)) (hg:w.grownBy w' (some g)) (hn:k≠g):Hid (aP w' k t cs):=h.out.grown hg (fun e=>hn (ai e))
def D6 (l:List dW) (x:Ex) (q:List dW):Prop:= ∀(en:Int) (w:World) (g:Nat),PA w g l en->Calls prog 204 #[.pointer (some ⟨g,0,none⟩), .int .i64 1] w (Fy g en w (.ok (x,q)))
theorem Be (tx tt:List UInt8) (v fr tv tf:Int) (r:List dW) (hl:nC tt=0):D6 (⟨3,tx,v,fr⟩::⟨5,tt,tv,tf⟩::r) (.mk 1 [] [] [] v []) (⟨5,tt,tv,tf⟩::r):=by
 intro en w g h;have HO:=G (show ∀W,PA W g (⟨3,tx,v,fr⟩::⟨5,tt,tv,tf⟩::r) en->Calls prog 229 #[.pointer (some ⟨g,0,none⟩)] W (Fy g en W (.ok (.mk 1 [] [] [] v [],⟨5,tt,tv,tf⟩::r)))from fun W hP=>yK 0 _ en W g hP rfl);have HL:=G (fun W=>mu tt W);rw[hl]at HL;have HP:=G h;have hgl:=h.lt;clear h hl;go_enter func204,ntmps204
 go_upto_region 1 with fail
 generalize hW:World.alloc w _=W1;obtain⟨hE,rb,s1⟩:=jm hW;replace HP:=G (HP.out.ext hE);have HX:=G (hE.grownBy (some g));have hrg:w.heap.size≠g:=by omega
 clear hW hE
 go_upto_region 2 with(go_at_call 229;refine(HO.out _ HP.out).mono ?_;rintro e w2 ⟨hG,A,n,c,rfl,hR,hP⟩;clear HO HP;replace HX:=G (bm HX.out hG);replace rb:=G2 rb hG hrg;have HP:=G hP;have hz2:=hG.size;clear hG hP)
 generalize hW:World.alloc w2 _=W2;obtain⟨hE,xb,s2⟩:=jm hW;replace HP:=G (HP.out.ext hE);replace HX:=G (bm HX.out (hE.grownBy (some g)));replace rb:=kb rb hE;have HR:=G (hR.keep (.of_ext hE) (Q:=fun b=>w.heap.size+1<=b) fun b hb _=>by have:=s1.out;omega);clear hW hE hR s2
 go_loopw [] (fun wr=>wr=W2) (fun _=>0)
 case atStart=>rfl
 case round=>
  subst hrel;have HN:=G (lO g _ en _ HP.out);simp only[jl]at HN;go_wp2_with (first|(go_at_call 158;refine HN.out.mono ?_;rintro e w3 ⟨rfl,hE⟩;clear HN;replace hE:=hE.trans (aa w3 (.cells #[.int .i64 5, .string (an tt), .int .i64 tv, .int .i64 tf] 188));replace HP:=G (HP.out.ext hE);replace HX:=G (bm HX.out (hE.grownBy (some g)));replace rb:=kb rb hE;replace xb:=kb xb hE;replace HR:=G (HR.out.keep (.of_ext hE) (Q:=fun b=>w.heap.size+1<=b) fun b hb _=>hb);have cx:=xb.out.cell;have cr:=rb.out.cell;have fr':=rb.out.frozen;clear hE)|(go_at_call 167;refine(HL.out _).mono ?_;rintro e w3 ⟨rfl,rfl⟩;clear HL));obtain⟨hset,hfin⟩:=zt (r:= .ok (.mk 1 [] [] [] v [],⟨5,tt,tv,tf⟩::r)) (.mk 1 [] [] [] v []) _ _ _ _ _ A n c rfl rfl rfl rfl rfl rfl rfl rb.out HX.out HP.out hgl HR.out;simp only[World.setCells,be,Nat.reduceAdd]at hset hfin;exact bodyPost_ret (v:= .agg #[.int .i64 1, .string (an []), .string (an []), .string (an []), .int .i64 v, .slice A n c]) (by simp only[results,results204];simp[go_sem,hset];exact⟨rfl,rfl,rfl,rfl,rfl⟩) rfl hfin
end
section
open Go.RowKit
section
variable {w W W':World} {g pb sb:Nat} {en:Int} {pc sc:Array Value} {ty:TypeId} {X:World->Prop} {l l':List dW}
theorem SK.exprL (K:SK w g en pb pc sb sc ty X l W) {x:Ex} {q:List dW} (h:D6 l x q):Calls prog 204 #[.pointer (some ⟨g,0,none⟩), .int .i64 1] W fun e W'=>
  ∃A n c,e= .returned (.agg #[.int .i64 x.k, .string (an x.op), .string (an x.nm), .string (an x.tx), .int .i64 x.v, .slice A n c])/\
   Hid (SK w g en pb pc sb sc ty (fun V=>X V/\et V (fun b=>sb<b) (.slice (some ⟨W'.heap.size,0,none⟩) 1 1) [x]) q (W'.alloc (.cells #[.int .i64 x.k, .string (an x.op), .string (an x.nm), .string (an x.tx), .int .i64 x.v, .slice A n c] 206))):=by
 have hK:=K;refine(h en W g K.pa).mono fun e W' hh=> ?_;obtain⟨hG,A,n,c,rfl,hR,hPA⟩:=hh;have hE:=aa W' (.cells #[.int .i64 x.k, .string (an x.op), .string (an x.nm), .string (an x.tx), .int .i64 x.v, .slice A n c] 206);have hz:=K.sv.lt;have hz2:=hG.size;refine⟨A,n,c,rfl,G (((K.step hPA hG).ext hE).with (et.one (aw W' _ _) (by omega) (hR.keep (.of_ext hE) (fun b hb _=>by omega))) fun k hk V V' hV h=>h.keep (.of_grown hV fun b hb e=>by have:=K.nn;injection e with e;omega) (fun b hb _=>hb))⟩
end
def D5 (l:List dW) (s:St) (q:List dW):Prop:= ∀(en:Int) (w:World) (g:Nat),PA w g l en->Calls prog 160 #[.pointer (some ⟨g,0,none⟩)] w (D4 g en w (.ok (s,q)))
theorem Dl {l:List dW} {x:Ex} {r:List dW} (h1:jX GW l=false) (h2:jX Dg l=false) (h3:jX yC l=false) (h4:jX AV l=true) (hs:jX GD l.tail=false) (hx:D6 l.tail x r) (ht:jX GD r=true):D5 l (.mk 6 [] [x] [] []) r.tail:=by
 intro en w g h;have hgl:=h.lt;have K:=G (vY h);have hrg:w.heap.size≠g:=by omega
 have hgr:g≠w.heap.size:=by omega
 have hsg:w.heap.size+1≠g:=by omega
 have hgs:g≠w.heap.size+1:=by omega
 obtain⟨hrc,hrf,hsc,hsf⟩:=K.out.cells;clear h;go_enter func160,ntmps160;have hN:=h1;go_wp2_with (go_at_call 97;refine(K.out.no hN).mono ?_;rintro e wx ⟨rfl,K⟩;clear hN;clear hrc hrf hsc hsf;obtain⟨hrc,hrf,hsc,hsf⟩:=K.out.cells);have hN:=h2;go_wp2_with (go_at_call 97;refine(K.out.no hN).mono ?_;rintro e wx ⟨rfl,K⟩;clear hN;clear hrc hrf hsc hsf;obtain⟨hrc,hrf,hsc,hsf⟩:=K.out.cells);have hN:=h3;go_wp2_with (go_at_call 97;refine(K.out.no hN).mono ?_;rintro e wx ⟨rfl,K⟩;clear hN;clear hrc hrf hsc hsf;obtain⟨hrc,hrf,hsc,hsf⟩:=K.out.cells);go_wp2_with (go_at_call 97;refine(K.out.yes h4).mono ?_;rintro e wx ⟨rfl,K⟩;clear hrc hrf hsc hsf;obtain⟨hrc,hrf,hsc,hsf⟩:=K.out.cells;have k:=K.out.put5 (by omega) (.int .i64 6) (.string ⟨#[]⟩) (.slice none 0 0) (.slice none 0 0) (.slice none 0 0);simp only[World.setCells,be,Nat.reduceAdd,cv,du,dv]at k;have K:=G k;clear k);go_wp2_with (go_at_call 157;refine(K.out.is hs).mono ?_;rintro e wx ⟨rfl,K⟩;clear hrc hrf hsc hsf;obtain⟨hrc,hrf,hsc,hsf⟩:=K.out.cells);go_wp2_with (go_at_call 204;refine(K.out.exprL hx).mono ?_;rintro e w3 ⟨A,n,c,rfl,K⟩;clear hrc hrf hsc hsf;obtain⟨hrc,hrf,hsc,hsf⟩:=K.out.cells;have k:=K.out.set (by omega) 2 (.slice (some ⟨w3.heap.size,0,none⟩) 1 1);simp only[World.setCells,be,Nat.reduceAdd,cv,du,dv]at k;have K:=G k;clear k);go_wp2_with (go_at_call 99;refine(K.out.want ht).mono ?_;rintro e wx ⟨rfl,K⟩;clear hrc hrf hsc hsf;obtain⟨hrc,hrf,hsc,hsf⟩:=K.out.cells);obtain⟨hset,hfin⟩:=K.out.fin (r:= .ok (.mk 6 [] [x] [] [],r.tail)) (.mk 6 [] [x] [] []) 6 ⟨#[]⟩ (some ⟨w3.heap.size,0,none⟩) 1 1 none 0 0 none 0 0 (by rfl) rfl rfl (fun h=>⟨h.2.mono (fun b hb _=>by omega), .nil _ _, .nil _ _⟩);simp only[World.setCells,be,Nat.reduceAdd]at hset hfin;exact bodyPost_ret (v:= .agg #[.int .i64 6, .string ⟨#[]⟩, .slice (some ⟨w3.heap.size,0,none⟩) 1 1, .slice none 0 0, .slice none 0 0]) (by simp[results,results160,go_sem,hset]) rfl hfin
end
section
open Go.RowKit
def Fh (l:List dW) (b:List St) (q:List dW):Prop:= ∀(en:Int) (w:World) (g:Nat),PA w g l en->Calls prog 103 #[.pointer (some ⟨g,0,none⟩)] w (Gy g en w (.ok (b,q)))
theorem yJ {l:List dW} {s:St} {q:List dW} (hlb:jX GE l=true) (hrb0:jX D' l.tail=false) (hs:D5 l.tail s q) (hrb1:jX D' q=true) (hq:q.length<l.tail.length) (hlen:l.length<=100):Fh l [s] q.tail:=by
 intro en w g h;have HP0:=G h;have hgl:=h.lt;clear h;go_enter func103,ntmps103;go_wp2_with (go_at_call 99;refine(nt g _ en GE _ HP0.out hlb).mono ?_;rintro e w1 ⟨rfl,h1,h2⟩;have HP1:=G h1;have HG1:=G h2;clear h1 h2);clear HP0
 go_loopw [3] (fun vo wr=> ∃(acc:List SV) (r:List dW) (C:Option Addr) (n cap:Nat),vo= .slice C n cap/\acc.length=n/\n<=1/\Hid (acc=[]/\r=l.tail\/acc.map (·.s)=[s]/\r=q)/\Hid (PA wr g r en)/\
  Hid (iu wr w.heap.size 147 (.slice C n cap) acc)/\Hid (w.grownBy wr (some g))) (fun vo wr=>tokN g wr)
 case atStart=>exact⟨[],l.tail,none,0,0,rfl,rfl,by omega,G (.inl ⟨rfl,rfl⟩),HP1,G (iu.nil_ _ _ _),HG1⟩
 case round=>
  clear HP1 HG1;obtain⟨acc,r,C,n,cap,rfl,hn,hn1,HSt,HPr,HOr,HGr⟩:=hrel;rcases HSt.out with⟨ha,hr⟩|⟨ha,hr⟩
  rotate_left
  ·have hrb:jX D' r=true:=by rw[hr];exact hrb1
   have HA:=G ha;clear ha HSt;go_wp2_with (go_at_call 97;refine(iG g r en D' _ HPr.out).mono ?_;rw[hrb];simp only[if_true];rintro e w2 ⟨rfl,h1,h2⟩;have HP2:=G h1;have HG2:=G (bm HGr.out h2);have HO2:=G (HOr.out.grown h2 (fun k e=>by injection e with e;omega));clear h1 h2);go_ret;rw[<-hr,<-HA.out];exact⟨HG2.out,_,_,_,rfl,HO2.out.rd,HP2.out⟩
  ·have hrb:jX D' r=false:=by rw[hr];exact hrb0
   have HQ:=G (show q.length<r.length by rw[hr];exact hq);have HS:=G (show D5 r s q by rw[hr];exact hs);clear hq hr HSt;have hn0:n=0:=by rw[<-hn,ha];rfl
   have HA:=G ha;have HN0:=G hn0;clear ha hn0
   go_wp2_with (first
    |(go_at_call 97;refine(iG g r en D' _ HPr.out).mono ?_;rw[hrb];simp only[ch,if_false];rintro e w2 ⟨rfl,h1,h2⟩;have HP2:=G h1;have HG2:=G (bm HGr.out h2);have HO2:=G (HOr.out.grown h2 (fun k e=>by injection e with e;omega));clear h1 h2 HOr)
    |(go_at_call 160;refine(HS.out en _ g HP2.out).mono ?_;intro e w3 hh;obtain⟨hG,A1,n1,c1,A2,n2,c2,A3,n3,c3,rfl,hV,hPA⟩:=hh;have hE:=aa w3 (.cells #[.int .i64 s.k, .string (an s.nm), .slice A1 n1 c1, .slice A2 n2 c2, .slice A3 n3 c3] 147);have hz2:=HG2.out.size;have hzz:=hG.size;have HG3:=G (bm (bm HG2.out hG) (hE.grownBy (some g)));have HO3:=G ((HO2.out.grown hG (fun k e=>by injection e with e;omega)).ext hE);have hrow:=World.ownsRow.lt HO2.out.1;have HV3:=G (hV.keep (.of_ext hE) (Q:=fun b=>w.heap.size<=b/\some b≠Value.ownBlock (.slice C n cap)) (fun b hb _=>⟨by omega,fun e=>by have:=(hrow b e.symm).2;omega⟩));have HP3:=G (hPA.ext hE);have HN3:=G (aw w3 147 #[.int .i64 s.k, .string (an s.nm), .slice A1 n1 c1, .slice A2 n2 c2, .slice A3 n3 c3]);have hrw:=fun k hk=>(hrow k hk).1;clear hG hV hPA hE hrow HO2)
    |(at_builtin;refine fd GR rfl _ _ rfl w.heap.size _ n (ek acc) rfl (by have:=HO3.out.1;rw[hn]at this;exact this) w3.heap.size (xw ⟨s, .slice A1 n1 c1, .slice A2 n2 c2, .slice A3 n3 c3⟩) rfl HN3.out rfl (AO _ _ _ _ _ _ _ _ _ _) (by omega) (by decide) HG3.out.size ?_;intro A' cap' w4 hq1 hq2 hq3;have HO4:=G (HO3.out.snoc HV3.out (by rw[hn];exact hq1) hq2 hq3);have HG4:=G (show w.grownBy w4 (some g)from⟨hq2.os.trans HG3.out.os,hq2.tape.trans HG3.out.tape,hq2.output.trans HG3.out.output,ax HG3.out.size hq2.size,fun i hi hne=>(hq2.block i (aA hi HG3.out.size) (fun e=>by have:=hrw i e.symm;omega)).trans (HG3.out.block i hi hne)⟩);have HP4:=G (HP3.out.grown hq2 (fun k e=>by have:=hrw k e;omega));clear hq1 hq2 hq3))
   go_roundw
   case rel=>exact⟨[⟨s, .slice A1 n1 c1, .slice A2 n2 c2, .slice A3 n3 c3⟩],q,some ⟨A',0,none⟩,n+1,cap',rfl,by rw[HN0.out];rfl,by rw[HN0.out];omega,G (.inr ⟨rfl,rfl⟩),HP4,G (by have:=HO4.out;rw[HA.out]at this;rw[HN0.out];exact this),HG4⟩
   case measure=>rw[HPr.out.tokN,HP4.out.tokN];exact HQ.out
end
section
open Go.RowKit
def GB (l:List dW) (x:Vr) (q:List dW):Prop:= ∀(en:Int) (w:World) (g:Nat),PA w g l en->Calls prog 98 #[.pointer (some ⟨g,0,none⟩)] w (Gw g en w (.ok (x,q)))
theorem Bd (base g pf pb:Nat) (nm:List UInt8) (l:List dW) (en:Int) (w:World)
  (hP:PA w g l en) (hb:aP w pb 122 #[.pointer (some ⟨g,0,none⟩)]) (hx:aP w pf 81 #[.string (an nm), .slice none 0 0, .slice none 0 0])
  (hbase:base<=w.heap.size) (hg:g<pf) (hgp:g<pb) (hpp:pb≠pf) (hpf:pf<base) (hpb:pb<base) (hrp:jX D_ l=true):
  Calls prog 101 #[.pointer (some ⟨g,0,none⟩), .func (Fn.func 102) #[] #[.pointer (some ⟨pf,0,none⟩), .pointer (some ⟨pb,0,none⟩)]] w (Gx base g pf nm en w (.ok ([],l.tail))):=by
 have HP:=G hP;have HB:=G hb;have HX:=G hx;have HG:=G (iG g l en D_ w hP);clear hP hb hx;rw[hrp]at HG;simp only[if_true]at HG;go_enter func101,ntmps101;go_wp2_with (go_at_call 97;refine HG.out.mono ?_;rintro e w1 ⟨rfl,h1,h2⟩;have H1:=G h1;have H2:=G h2;clear h1 h2 HG)
 go_end0
 exact⟨Fr.of_grown H2.out hbase (fun k e=>by injection e with e;omega),rfl,H1.out,_,_,_,HX.out.grown H2.out (fun e=>by injection e with e;omega), .nil_ _ _⟩
inductive Cg (p:Pg):List Vr->List Fc->List dW->Prop
 |done:Cg p p.vs p.fs []
 |var {vs:List Vr} {fs:List Fc} {r q:List dW} {x:Vr} (h1:jX yC r=true) (h2:GB r.tail x q) (h3:q.length<r.length) (h:Cg p (vs++[x]) fs q):Cg p vs fs r
 |fn {vs:List Vr} {fs:List Fc} {r q:List dW} {b:List St} (h1:jX yC r=false) (h2:jX Cq r=true) (h3:(jl r.tail).k=1) (h4:jX Fq r.tail.tail=true) (h5:jX D_ r.tail.tail.tail=true) (h6:Fh r.tail.tail.tail.tail b q) (h7:q.length<r.length) (h:Cg p vs (fs++[⟨(jl r.tail).t,[],b⟩]) q):Cg p vs fs r
theorem Bc (p:Pg) (l:List dW) (hPS0:Cg p [] [] l) (hlen:l.length<=100) (en:Int) (w:World) (g:Nat) (h:PA w g l en):Calls prog 48 #[.pointer (some ⟨g,0,none⟩)] w (E' g en w (.ok (p,[]))):=by
 obtain⟨hX0,hb0,hB0,hS0⟩:=wA w (.pointer (some ⟨g,0,none⟩));have HX0:=G hX0;have Hb0:=G hb0;have HB0:=G hB0;have HS0:=G hS0;have HP0:=G (h.ext hX0);have hgl:=h.lt;have hbg:w.heap.size≠g:=by omega
 have hrg:w.heap.size+1≠g:=by omega
 have hsg:w.heap.size+2≠g:=by omega
 clear h hX0 hb0 hB0 hS0;have hmf: ∀(fn:Fn) (first cap:Array Value) (w:World),(Instr.makeFunc fn first cap).run prog w= .ok (.func fn first cap) w:=fun _ _ _ _=>rfl;go_enter func48,ntmps48;go_wp2_with fail
 go_loopw [] (fun wr=> ∃(vs:List Vr) (fs:List FV) (r:List dW) (A:Option Addr) (n c:Nat) (B:Option Addr) (m d:Nat),vs.length=n/\fs.length=m/\n+m+r.length<=l.length/\Hid (Cg p vs (fs.map (·.c)) r)/\Hid (PA wr g r en)/\Hid (aP wr w.heap.size 122 #[.pointer (some ⟨g,0,none⟩)])/\Hid (aP wr (w.heap.size+1) 31 #[.slice none 0 0, .slice none 0 0])/\Hid (aP wr (w.heap.size+2) 31 #[.slice A n c, .slice B m d])/\
  Hid (jW wr (w.heap.size+3) (.slice A n c) (.slice B m d) vs fs)/\Hid (w.grownBy wr (some g))) (fun wr=>tokN g wr)
 case atStart=>exact⟨[],[],l,none,0,0,none,0,0,rfl,rfl,by omega,G hPS0,HP0,Hb0,HB0,HS0,G (jW.nil_ _ _),G (HX0.out.grownBy _)⟩
 case round=>
  clear HX0 Hb0 HB0 HS0 HP0;obtain⟨vs,fs,r,A,n,c,B,m,d,hn0,hm,hnm,HPS,HPr,Hbr,HBr,HSr,HOr,HGr⟩:=hrel;have hpc:=Hbr.out.cell;have hsc:=HSr.out.cell;have hsf:=HSr.out.frozen;have hps:=HPS.out;generalize hff:fs.map (·.c)=ff at hps
  cases hps with
  |done=>
   have HFF:=G hff;clear hff HPS;obtain⟨Q,cq,hb,ht,hn⟩:=HPr.out;have hbc:=hb.cell;have hrc:=HBr.out.cell;have hrf:=HBr.out.frozen;clear hb ht hn;go_wp2_with fail;have hrd:=HOr.out.rd;obtain⟨hset,hfin⟩:=DD (r:= .ok (p,[])) (en:=en) p A n c B m d rfl (eG _) HBr.out HGr.out (hrd.1.keep ⟨ah _,fun _ _ _=>rfl⟩ (fun b hb _=>by omega)) ((HFF.out▸hrd.2).keep ⟨ah _,fun _ _ _=>rfl⟩ (fun b hb _=>by omega));simp only[World.setCells,be]at hset hfin;exact bodyPost_ret (v:= .agg #[.slice A n c, .slice B m d]) (by simp[results,results48,go_sem,hset]) rfl hfin
  | @var _ _ _ q x hv hva hlx hnx=>
   have HN:=G hnx;have HVA:=G hva;clear HPS hnx;obtain⟨Q,cq,hb,ht,hn⟩:=HPr.out;have hbc:=hb.cell;obtain⟨N,hN⟩: ∃N,r.length=N:=⟨_,rfl⟩
   rw[hN]at hbc;have hN0:0<N:=by omega
   have hN0i:(0:Int)<N:=by omega
   have hrt:r.length=r.tail.length+1:=by simp only[List.length_tail];omega
   clear hb ht hn;have HPNr:=HPr;go_wp2_with (first|(go_at_call 97;refine(iG g _ en yC _ HPr.out).mono ?_;rw[hv];simp only[if_true];rintro e w1 ⟨rfl,h1,h2⟩;have HP1:=G h1;have HG1:=G (bm HGr.out h2);have Hb1:=G (Hbr.out.grown h2 (fun e=>hbg (ai e)));have HB1:=G (HBr.out.grown h2 (fun e=>hrg (ai e)));have HS1:=G (HSr.out.grown h2 (fun e=>hsg (ai e)));have HO1:=G (HOr.out.grown h2 (fun k e=>by injection e with e;omega));clear hpc hsc hsf hbc;have hpc:=Hb1.out.cell;have hsc:=HS1.out.cell;have hsf:=HS1.out.frozen;clear h1 h2 HPr));have hg1:g<w1.heap.size:=HP1.out.lt;have hz1:w.heap.size+2<w1.heap.size:=HS1.out.lt;refine oZ 5 4 [(3,fun v=>v= .agg #[.string (an x.nm), .int .i64 x.sz],fun v wx=>PA wx g q en),(4,fun v=> ∃gb,v= .slice (some ⟨gb,0,none⟩) 1 1,fun v wx=> ∀gb,v= .slice (some ⟨gb,0,none⟩) 1 1->w1.heap.size<=gb/\aP wx gb 76 #[.string (an x.nm), .int .i64 x.sz])] 3 (some g) mixed (by kernel_rfl)
    ⟨fun _ _ _ h hx=>h.ext hx,fun _ _ _ h hx gb e=>⟨(h gb e).1,(h gb e).2.ext hx⟩,trivial⟩ ⟨.inl rfl, .inr fun _ _ _ h hx gb e=>⟨(h gb e).1,(h gb e).2.grown hx (fun e'=>by have:=(h gb e).1;injection e' with e';omega)⟩,trivial⟩ ?_
   repeat (refine sx ?_ (fun w1 hU=> ?_) ?_;rotate_left;(focus have f1:=(HS1.out.grown (bA hU) (fun e=>hsg (ai e))).cell;have f2:=(Hb1.out.grown (bA hU) (fun e=>hbg (ai e))).cell;clear hU;go_simp<;>with_reducible rfl);simp only[bH,bG,bF,bE,bD])
   refine kf _ _ (by rfl) rfl ⟨_,rfl⟩ rfl (fun w6 hT hp K hK=> ?_) ?_
   ·clear hp;have hc:=hva en w6 g (HP1.out.ext hT.un);clear hT;go_simp;refine hc.mono ?_;intro e w7 hh;obtain⟨hG,rfl,hPA⟩:=hh;exact hK _ _ hG rfl hPA
   rintro _ rfl;simp only[bH,bG,bF,bE,bD];refine fg _ _ (by rfl) rfl ⟨_,0,rfl⟩ (by simp) (fun w6 hU hp K hK=> ?_) ?_
   ·have hz6:=(bA hU).size;clear hp hU;go_simp;exact hK _ _ (aa w6 _) ⟨_,rfl⟩ (fun gb e=>by injection e with e;injection e with e;injection e with e;subst e;exact⟨hz6,aw w6 _ _⟩)
   rintro _ ⟨gb,rfl⟩;simp only[bH,bG,bF,bE,bD];intro w8 hw8 hp;obtain⟨hgb,hB3⟩:=hp _ (.head _) gb rfl;have HP8:=G (show PA w8 g q en from hp _ (.tail _ (.head _)));clear hp;simp only[ac,aq];have hw8:=bA hw8;have HG8:=G (bm HG1.out hw8);have Hb8:=G (Hb1.out.grown hw8 (fun e=>hbg (ai e)));have HB8:=G (HB1.out.grown hw8 (fun e=>hrg (ai e)));have HS8:=G (HS1.out.grown hw8 (fun e=>hsg (ai e)));have HO8:=G (HO1.out.grown hw8 (fun k e=>by injection e with e;omega));have hrow:=World.ownsRow.lt HO8.out.1;have hrw:=fun k hk=>(hrow k hk).1;have hz8:=HG8.out.size;have hz88:=hw8.size;clear hw8 hpc hsc hsf;refine fd GQ rfl _ _ rfl (w.heap.size+3) _ n (jH vs) rfl (by have:=HO8.out.1;rw[hn0]at this;exact this) gb (Cm x) rfl hB3 rfl (by intro u hu;simp only[Cm,bN,aZ,or_false]at hu;rcases hu with rfl|rfl<;>rfl) (by omega) (by decide) (by omega) ?_;intro A' cap' w9 hq1 hq2 hq3;have hO9:=HO8.out.snocV hn0 hq1 hq2 hq3;have hS9:=HS8.out.grown hq2 (fun e=>by have:=hrw _ e.symm;omega);have hb9:=Hb8.out.grown hq2 (fun e=>by have:=hrw _ e.symm;omega);have hB9:=HB8.out.grown hq2 (fun e=>by have:=hrw _ e.symm;omega);have hP9:=HP8.out.grown hq2 (fun k e=>by have:=hrw k e;omega);have hG9:w.grownBy w9 (some g):=⟨hq2.os.trans HG8.out.os,hq2.tape.trans HG8.out.tape,hq2.output.trans HG8.out.output,ax HG8.out.size hq2.size,fun i hi hne=>(hq2.block i (aA hi HG8.out.size) (fun e=>by have:=hrw i e.symm;omega)).trans (HG8.out.block i hi hne)⟩
   have hsc:=hS9.cell;have hsf:=hS9.frozen;have hs:=gy w9 (w.heap.size+2) 0 (.slice (some ⟨A',0,none⟩) (n+1) cap');have hs9:=hS9.set 0 (.slice (some ⟨A',0,none⟩) (n+1) cap');simp only[cv,du]at hs9;have HON:=G (hO9.grown hs (fun k e=>by injection e with e;omega));have HPN:=G (hP9.grown hs (fun k e=>by injection e with e;omega));have HbN:=G (hb9.grown hs (fun e=>by injection e with e;omega));have HBN:=G (hB9.grown hs (fun e=>by injection e with e;omega));have HGN:=G (fw hG9 hs (by omega));have HSN:=G hs9;clear hq1 hq2 hq3 hs hs9 hO9 hS9 hb9 hB9 hP9 hG9 hrow hrw hB3;go_wp2_with fail;go_roundw
   case rel=>exact⟨vs++[x],fs,q,some ⟨A',0,none⟩,n+1,cap',B,m,d,by simp[hn0],hm,by omega,G (hff▸HN.out),HPN,HbN,HBN,HSN,HON,HGN⟩
   case measure=>rw[HPNr.out.tokN,HPN.out.tokN];omega
  | @fn _ _ _ q bd hv hfu hk hlp hrp hbl hlb hnx=>
   have HN:=G hnx;clear HPS hnx;obtain⟨Q,cq,hb,ht,hn⟩:=HPr.out;have hbc:=hb.cell;obtain⟨N,hN⟩: ∃N,r.length=N:=⟨_,rfl⟩
   rw[hN]at hbc;have hN0:0<N:=by omega
   have hN0i:(0:Int)<N:=by omega
   have hrt:r.length=r.tail.length+1:=by simp only[List.length_tail];omega
   clear hb ht hn;have HPNr:=HPr;go_wp2_with (first|(go_at_call 97;refine(iG g _ en yC _ HPr.out).mono ?_;rw[hv];simp only[ch,if_false];rintro e w1 ⟨rfl,h1,h2⟩;have HP1:=G h1;have HG1:=G (bm HGr.out h2);have Hb1:=G (Hbr.out.grown h2 (fun e=>hbg (ai e)));have HB1:=G (HBr.out.grown h2 (fun e=>hrg (ai e)));have HS1:=G (HSr.out.grown h2 (fun e=>hsg (ai e)));have HO1:=G (HOr.out.grown h2 (fun k e=>by injection e with e;omega));clear hpc hsc hsf hbc;have hpc:=Hb1.out.cell;have hsc:=HS1.out.cell;have hsf:=HS1.out.frozen;clear h1 h2 HPr)|(go_at_call 99;refine(nt g _ en Cq _ HP1.out hfu).mono ?_;rintro e w2 ⟨rfl,h1,h2⟩;have HP2:=G h1;have HG2:=G (bm HG1.out h2);have Hb2:=G (Hb1.out.grown h2 (fun e=>hbg (ai e)));have HB2:=G (HB1.out.grown h2 (fun e=>hrg (ai e)));have HS2:=G (HS1.out.grown h2 (fun e=>hsg (ai e)));have HO2:=G (HO1.out.grown h2 (fun k e=>by injection e with e;omega));clear hpc hsc hsf;have hpc:=Hb2.out.cell;have hsc:=HS2.out.cell;have hsf:=HS2.out.frozen;clear h1 h2 HP1)|(go_at_call 100;refine(Bq g _ en _ HP2.out hk).mono ?_;rintro e w3 ⟨rfl,h1,h2⟩;have HG3:=G (bm HG2.out h2);have Hb3:=G (Hb2.out.grown h2 (fun e=>hbg (ai e)));have HB3:=G (HB2.out.grown h2 (fun e=>hrg (ai e)));have HS3:=G (HS2.out.grown h2 (fun e=>hsg (ai e)));have HO3:=G (HO2.out.grown h2 (fun k e=>by injection e with e;omega));have hE:=aa w3 (.cells #[.string (an (jl r.tail).t), .slice none 0 0, .slice none 0 0] 81);have HQ4:=G (hE.grownBy (some g));have HF4:=G (aw w3 81 #[.string (an (jl r.tail).t), .slice none 0 0, .slice none 0 0]);have HP4:=G (h1.ext hE);have HG4:=G (bm HG3.out (hE.grownBy (some g)));have hz3:=HS3.out.lt;have hfg:w3.heap.size≠g:=(by omega);have hgf:g≠w3.heap.size:=(by omega);clear hpc hsc hsf;have hpc:=(Hb3.out.ext hE).cell;clear h1 h2 hE HP2)|(go_at_call 99;refine(nt g _ en Fq _ HP4.out hlp).mono ?_;rintro e w5 ⟨rfl,h1,h2⟩;have HP5:=G h1;have HQ5:=G (bm HQ4.out h2);have HG5:=G (bm HG4.out h2);have HF5:=G (HF4.out.grown h2 (fun e=>hfg (ai e)));have Hb5:=G (Hb3.out.grown HQ5.out (fun e=>hbg (ai e)));clear hpc;have hpc:=Hb5.out.cell;have HL:=G (Bd w5.heap.size g w3.heap.size w.heap.size (jl r.tail).t r.tail.tail.tail en w5 HP5.out Hb5.out HF5.out (ah _) (by omega) (by omega) (by omega) HF5.out.lt Hb5.out.lt hrp);clear h1 h2 HP4)|(go_at_call 101;refine HL.out.mono ?_;intro e w6 hh;obtain⟨hF,rfl,hPA,C,i,j,hX,hR⟩:=hh;have hz5:=HF5.out.lt;have HQ6:=G (Fr.grown HQ5.out hF (ah _) (by omega));have HG6:=G (Fr.grown HG5.out hF (by omega) (by omega));have HF6:=G hX;have HP6:=G hPA;have HN6:=G (hR.mono (Q:=fun b=>w3.heap.size<b) (fun b hb _=>by omega));have Hb6:=G (Hb3.out.grown HQ6.out (fun e=>hbg (ai e)));clear hpc;have hpc:=Hb6.out.cell;clear hF hPA hX hR HP5 HL)|(go_at_call 103;refine(hbl en _ g HP6.out).mono ?_;intro e w7 hh;obtain⟨hG,D,i2,j2,rfl,hR,hPA⟩:=hh;have hz6:=HF6.out.lt;have hz7:=hG.size;have HQ7:=G (bm HQ6.out hG);have HG7:=G (bm HG6.out hG);have HF7:=G (HF6.out.grown hG (fun e=>hfg (ai e)));have hs:=gy w7 w3.heap.size 2 (.slice D i2 j2);have HQ8:=G (fw HQ7.out hs (ah _));have HG8:=G (fw HG7.out hs (by omega));have hf8:=HF7.out.set 2 (.slice D i2 j2);simp only[cv,du,dv]at hf8;have HF8:=G hf8;have HV8:=G (FV.ok.keep (p:=⟨⟨(jl r.tail).t,[],bd⟩, .slice C i j, .slice D i2 j2⟩) (P:=fun b=>w3.heap.size<b) (w:=w7) ⟨HN6.out.keep (.of_grown hG fun b hb e=>by injection e with e;omega) (fun _ hb _=>hb),hR.mono (fun b hb _=>by omega)⟩ (.of_grown hs fun b hb e=>by injection e with e;omega) (fun _ hb _=>hb));have HP8:=G (hPA.grown hs (fun k e=>by injection e with e;omega));have HO8:=G (HO3.out.grown HQ8.out (fun k e=>by injection e with e;omega));have HS8:=G (HS3.out.grown HQ8.out (fun e=>hsg (ai e)));have hfc7:=HF7.out.cell;have hff7:=HF7.out.frozen;have hsc:=HS8.out.cell;have hsf:=HS8.out.frozen;clear hG hs hf8 hR hPA HP6)|(at_builtin;have hE:=aa (w7.setCell ⟨w3.heap.size,2,none⟩ (.slice D i2 j2)) (.cells #[.string (an (jl r.tail).t), .slice C i j, .slice D i2 j2] 81);have hrow:=World.ownsRow.lt HO8.out.2.1;have hrow1:=World.ownsRow.lt HO8.out.1;have hrw:=fun k hk=>(hrow k hk).1;have hO9:=HO8.out.grown (hE.grownBy none) (fun k e=>by cases e);have hlow: ∀k,Value.ownBlock (.slice B m d)=some k->k<w3.heap.size:=(fun k hk=>(World.ownsRow.lt HO3.out.2.1 k hk).2);have hlow1: ∀k,Value.ownBlock (.slice A n c)=some k->k<w3.heap.size:=(fun k hk=>(World.ownsRow.lt HO3.out.1 k hk).2);have hV9:=HV8.out.keep (.of_ext hE) (Q:=fun b=>w.heap.size+3<=b/\some b≠Value.ownBlock (.slice A n c)/\some b≠Value.ownBlock (.slice B m d)) (fun b hb _=>⟨by omega,fun e=>by have:=hlow1 b e.symm;omega,fun e=>by have:=hlow b e.symm;omega⟩);have hN9:=aw (w7.setCell ⟨w3.heap.size,2,none⟩ (.slice D i2 j2)) 81 #[.string (an (jl r.tail).t), .slice C i j, .slice D i2 j2];rw[show(w7.setCell ⟨w3.heap.size,2,none⟩ (.slice D i2 j2)).heap.size=w7.heap.size from(by simp[World.setCell])]at hN9;have hG9:=bm HG8.out (hE.grownBy (some g));have hz9:=hG9.size;refine fd G3 rfl _ _ rfl (w.heap.size+3) _ m (jL fs) rfl (by have:=hO9.2.1;rw[hm]at this;exact this) _ (CM ⟨⟨(jl r.tail).t,[],bd⟩, .slice C i j, .slice D i2 j2⟩) rfl hN9 rfl (by intro u hu;simp only[CM,bN,aZ,or_false]at hu;rcases hu with rfl|rfl|rfl<;>rfl) (by omega) (by decide) (by have:=HS8.out.lt;rw[World.size_alloc];omega) ?_;intro A' cap' w9 hq1 hq2 hq3;have HO9:=G (hO9.snocF hV9 hm hq1 hq2 hq3);have hS9:=(HS8.out.ext hE).grown hq2 (fun e=>by have:=hrw _ e.symm;omega);have hb9:=((Hb3.out.grown HQ8.out (fun e=>hbg (ai e))).ext hE).grown hq2 (fun e=>by have:=hrw _ e.symm;omega);have hB9:=((HB3.out.grown HQ8.out (fun e=>hrg (ai e))).ext hE).grown hq2 (fun e=>by have:=hrw _ e.symm;omega);have hP9:=(HP8.out.ext hE).grown hq2 (fun k e=>by have:=hrw k e;omega);have HG9:=G (show w.grownBy w9 (some g)from⟨hq2.os.trans hG9.os,hq2.tape.trans hG9.tape,hq2.output.trans hG9.output,ax hG9.size hq2.size,fun i hi hne=>(hq2.block i (aA hi hG9.size) (fun e=>by have:=hrw i e.symm;omega)).trans (hG9.block i hi hne)⟩);have HS9:=G hS9;have Hb9:=G hb9;have HB9:=G hB9;have HP9:=G hP9;clear hsc hsf;have hsc:=hS9.cell;have hsf:=hS9.frozen;clear hq1 hq2 hq3 hE hrow hrow1 hrw hO9 hlow hlow1 hV9 hN9 hG9 hS9 hb9 hB9 hP9));have hs:=gy w9 (w.heap.size+2) 1 (.slice (some ⟨A',0,none⟩) (m+1) cap');have hs9:=HS9.out.set 1 (.slice (some ⟨A',0,none⟩) (m+1) cap');simp only[cv,du,dv]at hs9;have HON:=G (HO9.out.grown hs (fun k e=>by injection e with e;omega));have HPN:=G (HP9.out.grown hs (fun k e=>by injection e with e;omega));have HbN:=G (Hb9.out.grown hs (fun e=>by injection e with e;omega));have HBN:=G (HB9.out.grown hs (fun e=>by injection e with e;omega));have HGN:=G (fw HG9.out hs (by omega));have HSN:=G hs9;go_roundw
   case rel=>exact⟨vs,fs++[⟨⟨(jl r.tail).t,[],bd⟩, .slice C i j, .slice D i2 j2⟩],q,A,n,c,some ⟨A',0,none⟩,m+1,cap',hn0,by simp[hm],by omega,G (by rw[fM,hff];exact HN.out),HPN,HbN,HBN,HSN,HON,HGN⟩
   case measure=>rw[HPNr.out.tokN,HPN.out.tokN];omega
end
section
open Go.RowKit
theorem yI {s:List UInt8} {ts:List dW} {at_:Int} {p:Pg} (hR:kU s=(ts,at_,0)) (hS:Cg p [] [] ts) (hlen:ts.length<=100) (hokk:mr p=true) (hwp:qA p<=6000000) (w:World) (hz:EZ w) (ht:dK w w.heap.size):Calls prog 22 #[.string (an s)] w (Aq w (p,0,0)):=by
 have hmf: ∀(fn:Fn) (first cap:Array Value) (w:World),(Instr.makeFunc fn first cap).run prog w= .ok (.func fn first cap) w:=fun _ _ _ _=>rfl;have hsz:(an s).size=s.length:=aU s;have HW0:=G (Dk w (.slice none 0 0) (.slice none 0 0) (.int .i64 0) (.int .i64 0))
 have HTK:=G (show ∀W,EZ W->Calls prog 46 #[.string (an s)] W (fun e w'=> ∃A c,e= .returned (.tuple #[.slice A ts.length c, .int .i64 at_, .int .i64 0])/\gK w' W.heap.size 188 (.slice A ts.length c) ts/\au W w')from
  fun W h=>by
   have:=tD s W h;rw[hR]at this
   exact this.mono (fun e w' ⟨⟨A,c,h1,h2⟩,h3⟩=>⟨A,c,h1,h2,h3⟩))
 have HZ:=G hz;have HT:=G ht;have HPS:=G (fun(en:Int) (w:World) (g:Nat) (h:PA w g ts en)=>Bc p ts hS hlen en w g h)
 have HVD:=G (show ∀(P:Nat->Prop) (W:World) (A B:Option Addr) (n c m d:Nat),nG W P (.slice A n c) p.vs->oT W P (.slice B m d) p.fs->dK W W.heap.size->Calls prog 28 #[.agg #[.slice A n c, .slice B m d]] W fun e w'=>e= .returned (.bool true)/\au W w' from
  fun P W A B n c m d h1 h2 h3=>hokk▸uJ p hwp P W A B n c m d h1 h2 h3)
 clear hz ht hR hS hokk hwp;generalize s.length=sl at*;go_enter_defers func22,ntmps22;go_wp2_with (first|(go_at_call 46;refine(HTK.out _ (HZ.out.ext HW0.out.e)).mono ?_;rintro e w1 ⟨A,c,rfl,hO,hE⟩;have HW1:=G (HW0.out.ex hE);have c1:=HW1.out.b1.cell;have z1:=HW1.out.b1.frozen;have c2:=HW1.out.b2.cell;have z2:=HW1.out.b2.frozen;have HPA:=G (Dn (a:= .int .i64 at_) (b:= .int .i64 0) (sl:Int) HW1.out hO (by have:=HW0.out.lt;omega));have HW5:=G (((HW1.out.put1 (.int .i64 at_)).put2 (.int .i64 0)).ex (aa _ (.cells #[.slice A ts.length c, .int .i64 sl] 124)));have hgl:=HW1.out.lt;clear hE hO HTK HZ HW0 HW1)|(go_at_call 48;refine(HPS.out (sl:Int) _ _ HPA.out).mono ?_;intro e w3 hh;obtain⟨hG,A2,n2,cc2,B2,m2,dd2,he,hV,hF⟩:=hh;subst he;have HW3:=G (HW5.out.grown hG hgl);have hs5:=HW5.out.lt;have HW4:=G (HW3.out.put0 (.slice A2 n2 cc2) (.slice B2 m2 dd2));have HV4:=G ((hV.keep (Q:=fun b=>w.heap.size+1+1<b) ⟨ah _,fun _ _ _=>rfl⟩ (fun b hb _=>aA hs5 hb)).keep (Q:=fun b=>w.heap.size+1+1<b) (zh (.slice A2 n2 cc2) (.slice B2 m2 dd2)) (fun _ hb _=>hb));have HF4:=G ((hF.keep (Q:=fun b=>w.heap.size+1+1<b) ⟨ah _,fun _ _ _=>rfl⟩ (fun b hb _=>aA hs5 hb)).keep (Q:=fun b=>w.heap.size+1+1<b) (zh (.slice A2 n2 cc2) (.slice B2 m2 dd2)) (fun _ hb _=>hb));have c0:=HW3.out.b0.cell;have z0:=HW3.out.b0.frozen;clear hG HPA HW5 hV hF hs5 HW3)|(go_at_call 28;refine(HVD.out _ _ _ _ _ _ _ _ HV4.out HF4.out (gH HT.out HW4.out.e)).mono ?_;rintro e w5 ⟨rfl,hE⟩;clear c0 z0;have HW6:=G (HW4.out.ex hE);have HV6:=G (HV4.out.keep (.of_ext hE) (Q:=fun b=>w.heap.size+1+1<b) (fun _ hb _=>hb));have HF6:=G (HF4.out.keep (.of_ext hE) (Q:=fun b=>w.heap.size+1+1<b) (fun _ hb _=>hb));have c0:=HW6.out.b0.cell;have z0:=HW6.out.b0.frozen;have c1:=HW6.out.b1.cell;have z1:=HW6.out.b1.frozen;have c2:=HW6.out.b2.cell;have z2:=HW6.out.b2.frozen;clear hE HV4 HF4 HW4 HVD HT));have HW7:=G (((HW6.out.put0 (.slice A2 n2 cc2) (.slice B2 m2 dd2)).put1 (.int .i64 0)).put2 (.int .i64 0));have HV7:=G (HV6.out.keep (Q:=fun b=>w.heap.size<=b) (zi (.slice A2 n2 cc2) (.slice B2 m2 dd2) (.int .i64 0) (.int .i64 0)) (fun b hb _=>by omega));have HF7:=G (HF6.out.keep (Q:=fun b=>w.heap.size<=b) (zi (.slice A2 n2 cc2) (.slice B2 m2 dd2) (.int .i64 0) (.int .i64 0)) (fun b hb _=>by omega));refine leaves_cons (f:=47) (args:= #[.pointer (some ⟨w.heap.size,0,none⟩), .pointer (some ⟨w.heap.size+1,0,none⟩), .pointer (some ⟨w.heap.size+1+1,0,none⟩)]) (by simp) (by simp[go_sem]) ?_;refine(uz _ _ _ _).mono ?_;rintro e u' w8 ⟨rfl,rfl,rfl⟩;have d0:=HW7.out.b0.cell;have d1:=HW7.out.b1.cell;have d2:=HW7.out.b2.cell;refine(show Leaves _ _ _ _ [] .returning _ from ?_);refine⟨.tuple #[.agg #[.slice A2 n2 cc2, .slice B2 m2 dd2], .int .i64 0, .int .i64 0],?_,⟨HW7.out.e,_,_,_,_,_,_,rfl,HV7.out,HF7.out⟩⟩;simp[results,results22,go_sem,d0,d1,d2]
end
section
open Go.RowKit
theorem GZ:Cg gq [] [] En:=
 .fn rfl rfl rfl rfl rfl (yJ rfl rfl (Dl rfl rfl rfl rfl rfl (Be _ _ _ _ _ _ _ rfl) rfl) rfl (by decide) (by decide)) (by decide) .done
def Fa (p:Pg) (w:World) (e:Ending) (w':World):Prop:=au w w'/\ ∃A n c B m d,e= .returned (.tuple #[.agg #[.slice A n c, .slice B m d], .int .i64 0, .int .i64 0])/\nG w' (fun _=>True) (.slice A n c) p.vs/\oT w' (fun _=>True) (.slice B m d) p.fs
theorem Ga {s:List UInt8} {p:Pg} {w:World} (h:Calls prog 22 #[.string (an s)] w (Aq w (p,0,0))):Calls prog 22 #[.string (an s)] w (Fa p w):=by
 refine h.mono fun e w' hh=> ?_;obtain⟨hE,A,n,c,B,m,d,he,hV,hF⟩:=hh;exact⟨hE,A,n,c,B,m,d,he,hV.keep (.of_ext (.refl _)) (fun _ _ _=>trivial),hF.keep (.of_ext (.refl _)) (fun _ _ _=>trivial)⟩
theorem Dm (w:World) (hz:EZ w) (ht:dK w w.heap.size):Calls prog 22 #[.string (an Eo)] w (Fa gq w):=Ga (yI xZ GZ (by decide) C' xY w hz ht)
end
end Go.Proofs.YtoedmpgicdekmaaGreatDoor
