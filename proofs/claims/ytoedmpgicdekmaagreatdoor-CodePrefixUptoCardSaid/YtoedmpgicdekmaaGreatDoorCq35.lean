/-
  Parts of the proof: CrF CrG CrH CoW CoA CoB CoQ CoC.
-/
import Derived.Test.YtoedmpgicdekmaaGreatDoorCq00
import Derived.Test.YtoedmpgicdekmaaGreatDoorCq31
import Derived.Test.YtoedmpgicdekmaaGreatDoorCq34
import Derived.Test.YtoedmpgicdekmaaGreatDoorCq20
import Derived.Test.YtoedmpgicdekmaaGreatDoorCq15
import Derived.Test.YtoedmpgicdekmaaGreatDoorCq24
import Derived.BigRegion
import Derived.Test.YtoedmpgicdekmaaGreatDoorCq05
set_option maxRecDepth 100000
set_option maxHeartbeats 8000000
set_option linter.unusedVariables false
set_option linter.unusedSimpArgs false
set_option linter.defProp false
set_option linter.unusedSectionVars false
namespace Go.Proofs.YtoedmpgicdekmaaGreatDoor
open Go.Proofs.Tryz
section
open Go.RowKit
theorem qi {f:kN} (h:fe f=true):4<=f.code.length/\0<=f.zero/\f.zero<=3072/\lT f<=3072/\0<=f.entry/\f.entry<f.code.length/\f.entry.tmod 4=0:=by
 unfold fe at h;simp only[ak,decide_eq_true_eq]at h;obtain⟨a,_,b,c,d,e,g,h,_⟩:=h;exact⟨a,e,g,h,b,c,d⟩
theorem EW {f:kN} (h:fe f=true): ∃np:Nat,lT f=128*np/\1<=np/\np<=24/\ ∃U:Nat,j7 f.code.length=U/\f.code.length<=U/\U+f.data.length<=128*np:=by
 obtain⟨h1,h2,h3,h4,_⟩:=qi h;unfold lT j7 at*;refine⟨(((f.code.length:Int)+127)/128*128+f.data.length+f.zero+127).toNat/128,by omega,by omega,by omega,(((f.code.length:Int)+127)/128*128).toNat,by omega,by omega,by omega⟩
theorem pZ (f:kN) (A B:Option Addr) (c d np:Nat) (w:World) (hF:FT w) (hS:Sl w A c f.code) (hv:fe f=true) (hn:f.code.length<=1000000000) (hm:f.data.length<=1000000000) (hp:lT f=128*(np:Int)) (hp2:np<=24):
  Calls prog 42 #[f.val A B c d] w fun e w'=>e= .returned (.int .i64 (np:Int))/\au w w':=by
 have HV:=G (fun W (h:au w W)=>show Calls prog 41 #[f.val A B c d] W fun e w'=>e= .returned (.bool true)/\au W w' from by have:=lx f A B c d W (hF.ext h) (hS.ext h) hn hm;rw[hv]at this;exact this);obtain⟨_,z0,z1,_⟩:=qi hv;have HE:=G (fun W=>show Calls prog 85 #[.agg #[.slice A f.code.length c, .slice B f.data.length d, .int .i64 f.zero, .int .i64 f.entry]] W fun e w'=>e= .returned (.int .i64 (128*(np:Int)))/\au W w' from by have:=sJ A B f.code.length c f.data.length d f.zero f.entry W hn hm z0 (by omega);rw[show j7 (j7 (f.code.length:Int)+f.data.length+f.zero)=128*(np:Int)from hp]at this;exact this);unfold kN.val at*;have hq:(128*(np:Int)).tdiv 128=np:=by rw[Int.mul_tdiv_cancel_left _ (by decide)]
 have hq2:IntKind.i64.wrap (np:Int)=np:=by simp[IntKind.wrap,IntKind.signed,IntKind.bits];omega
 clear hF hS hv;go_enter func42,ntmps42
 go_upto_region 1 with fail
 generalize hW:World.alloc w _=W0;obtain⟨hX,q,s⟩:=jm hW;replace hX:=G hX;clear hW;have c0:=q.out.cell;go_wp2_with (first|(go_at_call 41;refine(HV.out _ hX.out).mono ?_;rintro e w1 ⟨rfl,hE⟩;replace hX:=kx hX hE;replace q:=kb q hE;clear HV c0 hE;have c0:=q.out.cell)|(go_at_call 85;refine(HE.out _).mono ?_;rintro e w2 ⟨rfl,hE⟩;replace hX:=kx hX hE;clear HE c0 hE));go_ret;exact⟨by first|rfl|(simp[hq];done),hX.out⟩
theorem lE {L:List UInt8} {off:Nat} {b:List UInt8} (h:off+b.length<=L.length):(tO L off b).length=L.length:=by
 unfold tO;simp only[ab,aW,bK];omega
theorem jq {P:Program} {w:World} {ops:Array Oper} {rest:List Oper} {o:Oper} {a:Act} {Q:Exit->Act->World->Prop} {t e:TypeId} (hT:ks P t e) (hgd:o.guard=none) (d s:Operand)
  (ho:o.op= .call {callee:= .builtin .copy,args:= #[d,s],argTypes:= #[t,t]}) (g off dLen dCap:Nat) (hd:a.eval d= .slice (some ⟨g,off,none⟩) dLen dCap) (L:List UInt8) (hg:Rw w g e L)
  (A:Option Addr) (c n:Nat) (m:List UInt8) (hn:m.length=n) (hs:a.eval s= .slice A n c) (hS:Sl w A c m) (hfit:off+dLen<=L.length) (hm:n<=dLen)
  (h: ∀w' v,Rw w' g e (tO L off m)->w.grownBy w' (some g)->wpList P ops Q rest (a.put o.dst v) w'):wpList P ops Q (o::rest) a w:=by
 subst hn;refine qg hT hgd d s ho g off dLen dCap hd L hg A c m hs hS hfit fun w' k h1 h2=>h w' _ ?_ h2;rw[bh hm]at h1;exact h1
def Dz (f:kN) (U L:Nat):List UInt8:=tO (tO (List.replicate L 0) 0 f.code) U f.data
def Bj (g i:Nat):Value:= .slice (some ⟨g,128*i,none⟩) 128 128
def Cu (g np:Nat):List Value:=(List.range np).map (Bj g)
theorem G0:mc prog 114 36 1 24 (.slice none 0 0):=⟨underlying114,by kernel_rfl,by rfl,by decide⟩
theorem yP (g j:Nat):Cu g j++[Bj g j]=Cu g (j+1):=by simp[Cu,jE]
theorem uo (f:kN) (A B:Option Addr) (c d np U:Nat) (w:World) (hF:FT w) (hS:Sl w A c f.code) (hS2:Sl w B d f.data) (hv:fe f=true) (hn:f.code.length<=1000000000) (hm:f.data.length<=1000000000) (hp:lT f=128*(np:Int)) (hp1:1<=np) (hp2:np<=24) (hU:j7 (f.code.length:Int)=U) (hU1:f.code.length<=U) (hU2:U+f.data.length<=128*np):
  Calls prog 44 #[f.val A B c d] w fun e w'=> ∃g v,e= .returned v/\w'.ownsRow w.heap.size 36 1 v np (Cu g np)/\Rw w' g 5 (Dz f U (128*np))/\au w w':=by
 have HSz:=G (fun W (h:au w W)=>pZ f A B c d np W (hF.ext h) (hS.ext h) hv hn hm hp hp2);have HUp:=G (fun W=>show Calls prog 87 #[.int .i64 f.code.length] W fun e w'=>e= .returned (.int .i64 (U:Int))/\W=w' from by have:=qW f.code.length W (by omega) (by omega);rw[hU]at this;exact this);have HS:=G hS;have HS2:=G hS2;obtain⟨n,hnn⟩: ∃n,f.code.length=n:=⟨_,rfl⟩
 obtain⟨m,hmm⟩: ∃m,f.data.length=m:=⟨_,rfl⟩
 have HN:=G hnn;have HM:=G hmm;unfold kN.val at*;rw[hnn]at HSz HUp hU1;rw[hmm]at HSz hU2;rw[hnn,hmm];obtain⟨L,hL⟩: ∃L,128*np=L:=⟨_,rfl⟩
 rw[hL]at hU2;have hw1:IntKind.i64.wrap ((np:Int)*128)=(L:Int):=by rw[<-hL];simp[IntKind.wrap,IntKind.signed,IntKind.bits];omega
 have hL0:(0:Int)<(L:Int):=by omega
 have hLb:L<=3072:=by omega
 have hL2:(0<L)=True:=by simp;omega
 have HL:=G hL;rw[hL];obtain⟨FL,hFL⟩: ∃FL,Dz f U L=FL:=⟨_,rfl⟩
 have HF:=G (show FL=tO (tO (List.replicate L 0) 0 f.code) U f.data from hFL.symm);rw[hFL];clear hF hS hS2 hv hn hm hp hU hnn hmm hL hFL;generalize f.zero=z at*;generalize f.entry=en at*;go_enter func44,ntmps44
 go_upto_region 1 with fail
 generalize hW:World.alloc w _=W0;obtain⟨hX,q,s⟩:=jm hW;replace hX:=G hX;clear hW;have c0:=q.out.cell
 go_upto_region 2 with(first|(go_at_call 42;refine(HSz.out _ hX.out).mono ?_;rintro e w1 ⟨rfl,hE⟩;replace hX:=kx hX hE;replace q:=kb q hE;have HQ1:=G q.out.lt;clear HSz c0 hE;have c0:=q.out.cell)|(at_make;refine qf bt rfl _ _ rfl L (by omega) .i64 .i64 rfl rfl fun w2 hr2 hE2 hz2=> ?_;have HR2:=G hr2;have HX2:=G (hX.out.trans hE2);replace q:=kb q hE2;clear hr2 hE2))
 have hgm:=HR2.out.lt;have hL1:(List.replicate L (0:UInt8)).length=L:=gu ..;have hqs:=q.out.lt;have HX2s:=HX2.out.size;have hgw:w.heap.size<w1.heap.size:=by have:=q.out.lt;have:=hz2;have:=HQ1.out;omega
 have c0:=q.out.cell
 go_upto_if 12 with fail
 go_cut []from 13 to 25 (fun wx=>Hid (Rw wx w1.heap.size 5 FL)/\Hid (au w wx))
 case first=>
  go_upto_region 5 with(refine jq bt rfl _ _ rfl w1.heap.size 0 L L rfl _ HR2.out A c n f.code HN.out rfl (HS.out.ext HX2.out) (by rw[hL1];omega) (by omega) fun w3 v3 hr3 hg3=> ?_;have HR3:=G hr3;have HG3:=G hg3;clear c0 hr3 hg3)
  have HX3:=G (HX2.out.grown HG3.out fun k e=>by injection e with e;omega);replace q:=G (q.out.grown HG3.out (by simp;omega));have c0:=q.out.cell;have HL3:=G (show(tO (List.replicate L (0:UInt8)) 0 f.code).length=L by rw[lE (by rw[hL1,HN.out];omega),hL1]);generalize tO (List.replicate L (0:UInt8)) 0 f.code=SL at*;by_cases hUL:U=L
  ·subst hUL;have hm0:m=0:=by omega
   subst hm0;have hd0:f.data=[]:=aS HM.out;have HF2:=G (show FL=SL by rw[HF.out,hd0,qq]);have HS3:=G (show Sl w B d [] by have:=HS2.out;rw[hd0]at this;exact this);clear HF hd0 HS2 HM HS;refine ay 8 5 [(4,fun v=>v= .int .i64 (U:Int),fun _ _=>True)] mixed (by kernel_rfl) ⟨fun _ _ _ _ _=>trivial,trivial⟩ ?_;repeat (refine sx ?_ (fun w1 hU=> ?_) ?_;rotate_left;(focus have c0:=(q.out.ext hU.un).cell;clear hU;go_simp<;>with_reducible rfl);simp only[bH,bG,bF,bE,bD])
   refine so (fun w6 hU hp K hK=> ?_) ?_
   ·clear hp hU;go_simp;refine(HUp.out w6).mono ?_;rintro e w7 ⟨rfl,rfl⟩;exact hK _ _ (aG _) rfl trivial
   rintro _ rfl;simp only[bH,bG,bF,bE,bD];repeat (refine sx ?_ (fun w1 hU=> ?_) ?_;rotate_left;(focus have c0:=(q.out.ext hU.un).cell;clear hU;go_simp<;>with_reducible rfl);simp only[bH,bG,bF,bE,bD])
   intro w5 hw5 hp;have hX5:=G hw5.un;clear hp hw5;simp only[ac,aq];refine jq bt rfl _ _ rfl w1.heap.size 0 0 0 rfl _ (HR3.out.ext hX5.out) B d 0 [] rfl rfl (HS3.out.ext (HX3.out.trans hX5.out)) (by omega) (by omega) fun w7 v7 hr7 hg7=> ?_;rw[qq]at hr7;have HR7:=G hr7;have HX7:=G ((HX3.out.trans hX5.out).grown hg7 fun k e=>by injection e with e;omega);clear hr7 hg7 c0;go_wp2_with fail
   go_meet
   exact⟨by rw[HF2.out];exact HR7,HX7⟩
  ·have hUl:U<L:=by omega
   have hUi:(U:Int)<=L:=by omega
   refine ay 8 5 [(4,fun v=>v= .int .i64 (U:Int),fun _ _=>True)] mixed (by kernel_rfl) ⟨fun _ _ _ _ _=>trivial,trivial⟩ ?_;repeat (refine sx ?_ (fun w1 hU=> ?_) ?_;rotate_left;(focus have c0:=(q.out.ext hU.un).cell;clear hU;go_simp<;>with_reducible rfl);simp only[bH,bG,bF,bE,bD])
   refine so (fun w6 hU hp K hK=> ?_) ?_
   ·clear hp hU;go_simp;refine(HUp.out w6).mono ?_;rintro e w7 ⟨rfl,rfl⟩;exact hK _ _ (aG _) rfl trivial
   rintro _ rfl;simp only[bH,bG,bF,bE,bD];repeat (refine sx ?_ (fun w1 hU=> ?_) ?_;rotate_left;(focus have c0:=(q.out.ext hU.un).cell;clear hU;go_simp<;>with_reducible rfl);simp only[bH,bG,bF,bE,bD])
   intro w5 hw5 hp;have hX5:=G hw5.un;clear hp hw5;simp only[ac,aq];refine jq bt rfl _ _ rfl w1.heap.size U (L-U) (L-U) (by show Value.slice (if L=U then _ else _) _ _=_;rw[if_neg (fun e=>hUL e.symm)]) _ (HR3.out.ext hX5.out) B d m f.data HM.out rfl (HS2.out.ext (HX3.out.trans hX5.out)) (by rw[HL3.out];omega) (by omega) fun w7 v7 hr7 hg7=> ?_;have HR7:=G hr7;have HX7:=G ((HX3.out.trans hX5.out).grown hg7 fun k e=>by injection e with e;omega);clear hr7 hg7 c0;go_wp2_with fail
   go_meet
   exact⟨by rw[HF.out];exact HR7,HX7⟩
 case rest=>
  obtain⟨HR7,HX7⟩:=hcut;clear HR2 HX2 q c0 HS HS2 HN HM HUp;have HO0:=G (show wc.ownsRow w.heap.size 36 1 (.slice none 0 0) 0 (Cu w1.heap.size 0)from World.ownsRow_nil wc _ _ _)
  go_upto_region 7 with fail
  go_loopw [4,5] (fun v4 v5 wr=> ∃(j:Nat) (A4:Option Addr) (c4:Nat),v5= .int .i64 ((128*j:Nat):Int)/\v4= .slice A4 j c4/\j<=np/\Hid (wr.ownsRow w.heap.size 36 1 (.slice A4 j c4) j (Cu w1.heap.size j))/\Hid (Rw wr w1.heap.size 5 FL)/\Hid (au w wr)/\Hid ((Value.slice A4 j c4).ownBlock≠some w1.heap.size)) (fun _ v5 _=>L-(intOf v5).toNat)
  case atStart=>exact⟨0,none,0,rfl,rfl,aC _,HO0,HR7,HX7,G (by simp[Value.ownBlock])⟩
  case round=>
   obtain⟨j,A4,c4,rfl,rfl,hj,HO,HR,HX,HA⟩:=hrel;have hLe:=HL.out;by_cases hlt:j<np
   ·have hlt':((128*j:Nat):Int)<(L:Int):=by omega
    have HPv:=G (show Bj w1.heap.size j= .slice (some ⟨w1.heap.size,128*j,none⟩) 128 128 from rfl);obtain⟨K,hK⟩: ∃K,128*j=K:=⟨_,rfl⟩
    rw[hK]at hlt' HPv⊢;have hK1:K+128<=L:=by omega
    have hw1:IntKind.i64.wrap ((K:Int)+128)=K+128:=by simp[IntKind.wrap,IntKind.signed,IntKind.bits];omega
    have hK2:(K:Int)+128<=L:=by omega
    have hK3:(K:Int)<=K+128:=by omega
    have hne: ¬(K+128=K):=by omega
    have hE1:=aa wr (.cells #[Bj w1.heap.size j] 36);have HO1:=G (World.ownsRow.kept HO.out (hE1.grownBy none) (by cases (Value.ownBlock (.slice A4 j c4))<;>simp));have HR1:=G (HR.out.ext hE1);have HX1:=G (HX.out.trans hE1);have HN1:=G (show(wr.alloc (.cells #[Bj w1.heap.size j] 36)).heap[wr.heap.size]? =some (.cells [Bj w1.heap.size j].toArray 36 (0,0))from aw wr _ _);have hgr:=HR.out.lt;have hwr:=HX.out.size;have hsz:(wr.alloc (.cells #[Bj w1.heap.size j] 36)).heap.size=wr.heap.size+1:=World.size_alloc _ _;rw[HPv.out]at HN1 hE1 HO1 HR1 HX1 hsz;clear hE1
    go_upto_region 8 with(at_builtin;generalize hW:World.alloc wr _=W1 at*;refine fd G0 rfl _ _ rfl w.heap.size (.slice A4 j c4) j (Cu w1.heap.size j) rfl HO1.out wr.heap.size [.slice (some ⟨w1.heap.size,K,none⟩) 128 128] rfl HN1.out rfl (by simp[Value.oneCell']) (by omega) (by decide) (by omega) fun A5 c5 w5 ho hg hA=> ?_;have HO2:=G ho;have HG2:=G hg;have HA2:=G hA;clear ho hg hA hW)
    rw[<-HPv.out,yP]at HO2;have HR2:=G (HR1.out.grown HG2.out (fun e=>HA.out e.symm))
    have HX2:=G (HX1.out.grown HG2.out fun k e=>by
     have h1:=HO1.out;rcases h1.2 with⟨h2,_⟩|⟨g',cap',cur,h2,h3,_⟩
     ·rw[h2]at e;simp[Value.ownBlock]at e
     ·rw[h2]at e;simp[Value.ownBlock]at e;omega)
    have HA5:=G (show(Value.slice (some ⟨A5,0,none⟩) (j+1) c5).ownBlock≠some w1.heap.size from fun e=>by
     simp[Value.ownBlock]at e;rcases HA2.out with h|h
     ·rw[e]at h;exact HA.out h.symm
     ·omega)
    go_wp2_with fail;go_roundw
    case rel=>exact⟨j+1,_,_,by rw[<-hK];go_num,rfl,by omega,HO2,HR2,HX2,HA5⟩
    case measure=>simp[intOf];omega
   ·obtain rfl:j=np:=by omega
    have hlt': ¬((128*j:Nat):Int)<(L:Int):=by omega
    go_wp2_with fail;go_ret;exact⟨_,_,rfl,HO.out,HR.out,HX.out⟩
end
section
open Go.RowKit
def fB (f:kN) (R:Rs) (n:Nat):Oc×Int:=if fe f=true then(iy (lT f).toNat R n ⟨wF f.code f.data (j7 f.code.length).toNat,qu f.entry,0⟩,0)else(⟨0,0,0,0,0,[],0⟩,1)
def xz (l:List UInt8) (k:Nat):jN:=fun i=>if i<k then l.getD i 0 else 0
theorem y_ (l:List UInt8):xz l 0=fun _=>0:=by funext i;simp[xz]
theorem Bv (l:List UInt8) (k n:Nat) (h:k+n<=l.length):jS (xz l k) k ((l.drop k).take n)=xz l (k+n):=by
 funext i;unfold jS xz;have hl:((l.drop k).take n).length=n:=by simp;omega
 rw[hl];by_cases h1:k<=i/\i<k+n
 ·rw[if_pos h1,if_pos (by omega)];simp only[bI,bZ,fR];rw[if_pos (by omega),show k+(i-k)=i by omega]
 ·rw[if_neg h1];by_cases h2:i<k
  ·rw[if_pos h2,if_pos (by omega)]
  ·rw[if_neg h2,if_neg (by omega)]
theorem yo {L:List UInt8} {off:Nat} {b:List UInt8} (h:off+b.length<=L.length) (i:Nat):(tO L off b).getD i 0=if off<=i/\i<off+b.length then b.getD (i-off) 0 else L.getD i 0:=by
 unfold tO;simp only[bI,e_,aW,bZ,fR];rw[show min off L.length=off by omega];by_cases h1:i<off
 ·rw[if_pos h1,if_pos h1,if_neg (by omega)]
 ·rw[if_neg h1];by_cases h2:i-off<b.length
  ·rw[if_pos h2,if_pos (by omega)]
  ·rw[if_neg h2,if_neg (by omega),show off+b.length+(i-off-b.length)=i by omega]
theorem EL {f:kN} {U L:Nat} (h1:f.code.length<=U) (h2:U+f.data.length<=L):xz (Dz f U L) L=wF f.code f.data U:=by
 funext i;have hr:(List.replicate L (0:UInt8)).length=L:=gu ..;have h0: ∀j,(List.replicate L (0:UInt8)).getD j 0=0:=fun j=>by
  rw[bI,List.getElem?_replicate];split<;>rfl
 unfold xz wF Dz;rw[yo (by rw[lE (by rw[hr];omega),hr];omega),yo (by rw[hr];omega),h0];by_cases c1:i<f.code.length
 ·rw[if_pos c1,if_pos (by omega),if_neg (by omega),if_pos (by omega),Nat.sub_zero]
 ·rw[if_neg c1];by_cases c2:U<=i/\i<U+f.data.length
  ·rw[if_pos c2,if_pos c2,if_pos (by omega)]
  ·rw[if_neg c2,if_neg c2,if_neg (show ¬(0<=i/\i<0+f.code.length) by omega)];split<;>rfl
theorem yG (sz:Int) (g:Rg) (A:Option Addr) (n c:Nat):prog.built 113 [(1, .int .i64 sz),(2, .agg g.cs),(3, .slice A n c)]=some (jU (fun _=>0)++mn sz g (.slice A n c) (oz 0)).toArray:=by
 kernel_rfl
theorem wP {g:Rg} {ld:Int} {b0 b1 b2 b3:UInt8} (hpc:0<=g.pc/\g.pc<=4096) (hR:md g): -5000000000<=(mC g ld (eO b0 b1 b2 b3)).1.pc/\(mC g ld (eO b0 b1 b2 b3)).1.pc<=5000000000:=by
 cases hd:eO b0 b1 b2 b3 with
 |none=>simp only[mC];omega
 |some x=>
  have hv:=(oF hd).v;unfold mC;simp only;repeat' split
  all_goals try (simp only[Rg.upd];omega)
  ·unfold EP;have:=hR x.a.toNat;split
   ·simp only;omega
   ·cases (g.r x.a.toNat==0)<;>simp only[cond]<;>omega
   ·simp only;omega
   ·simp only[wrap64];omega
structure uE (R:Rs) (s:Ru):Prop where
 g:md s.g
 pc: -5000000000<=s.g.pc/\s.g.pc<=5000000000
 u:s.used<=R.length
theorem Db {sz:Nat} {R:Rs} {t:rp} {s s':Ru} (h:uE R s) (e:qo sz R t s= .ok s'):uE R s':=by
 unfold qo at e;split at e
 ·cases e
 split at e
 ·cases e
 split at e
 ·cases e
 ·rename_i r hr;simp only at e;split at e
  ·cases e
  ·injection e with e;subst e;have hu:s.used<R.length:=(List.getElem?_eq_some_iff.1 hr).1;refine⟨fun i=> ?_,h.pc,hu⟩;unfold Rg.reply;simp only;split
   ·have:=uI r.1;unfold Fe at this;omega
   ·exact h.g i
theorem AN {sz:Nat} {R:Rs} {s s':Ru} (h:uE R s) (e:ie sz R s= .ok s'):uE R s':=by
 rw[uO]at e;split at e
 ·cases e
 rename_i hb
 have hin:=iE (sz:=sz) (a:=s.g.pc) (n:=4) (by
  cases hm:fK sz s.g.pc 4 with
  |true=>rfl
  |false=>exact absurd (.inr hm) hb) (by decide)
 split at e
 ·cases e
 have h1:=(zy (g:=s.g) (ld:=uZ s (p5 s)) (b0:=s.m s.g.pc.toNat) (b1:=s.m (s.g.pc.toNat+1)) (b2:=s.m (s.g.pc.toNat+2)) (b3:=s.m (s.g.pc.toNat+3)) h.g (by omega)).1;have h2:=wP (g:=s.g) (ld:=uZ s (p5 s)) (b0:=s.m s.g.pc.toNat) (b1:=s.m (s.g.pc.toNat+1)) (b2:=s.m (s.g.pc.toNat+2)) (b3:=s.m (s.g.pc.toNat+3)) (by omega) h.g;change md (mC s.g (uZ s (p5 s)) (p5 s)).1 at h1;change-5000000000<=(mC s.g (uZ s (p5 s)) (p5 s)).1.pc/\(mC s.g (uZ s (p5 s)) (p5 s)).1.pc<=5000000000 at h2;unfold kP at e;split at e
 ·cases e
 split at e
 ·exact Db (s:=⟨_,_,s.used⟩) ⟨h1,h2,h.u⟩ e
 ·injection e with e;subst e;exact⟨h1,h2,h.u⟩
theorem yE {w:World} {base n:Nat} {e:TypeId} {v:Value} {xs:List Value} (h:w.ownsRow base e 1 v n xs) (hn:0<n): ∃g cap,v= .slice (some ⟨g,0,none⟩) n cap/\base<=g/\g<w.heap.size/\n<=cap/\ ∀i x,xs[i]? =some x->w.cell? ⟨g,i,none⟩=some x:=by
 rcases h.2 with⟨hv,h0⟩|⟨g,c,cur,hv,hb,hg,hnc,_,_,ht⟩
 ·omega
 ·refine⟨g,c,hv,hb,(Array.getElem?_eq_some_iff.1 hg).1,hnc,fun i x hx=> ?_⟩;rw[cell_of_row w g i cur e (0,0) hg];rw[<-ht,bZ]at hx;split at hx
  ·simpa using hx
  ·cases hx
theorem tw {P:Program} {w:World} {ops:Array Oper} {rest:List Oper} {o:Oper} {a:Act} {Q:Exit->Act->World->Prop} (hgd:o.guard=none) (t:TypeId) (parts:Array (Nat×Operand)) (ho:o.op= .build t parts) (cells:Array Value)
  (hb:P.built t (parts.map fun(i,x)=>(i,a.eval x)).toList=some cells) (h:wpList P ops Q rest (a.put o.dst (.agg cells)) w):wpList P ops Q (o::rest) a w:=
 wpList_plain hgd fun K hK=>wp_build t parts ho (by rw[hb];rfl) (by rw[hb];exact hK _ _ h)
theorem Di (n:Int):md (qu n):=fun i=>by unfold qu;simp only;split<;>omega
end
section
open Go.RowKit
theorem ED {w:World} {g:Nat} {e:TypeId} {l:List UInt8} (h:Rw w g e l) (off n c:Nat) (hl:off+n<=l.length) (hc:n<=c) (hm:c<=maxLen):Sl w (some ⟨g,off,none⟩) c ((l.drop off).take n):=by
 have hn:((l.drop off).take n).length=n:=by simp;omega
 refine⟨by rw[hn];exact hc,hm,(fun h=>by cases h), .inr ⟨g,off,rfl,h.lt,fun i hi=> ?_⟩⟩;rw[hn]at hi;rw[cell_of_row w g (off+i) _ e (0,0) h];simp[gn,oY,show off+i<l.length by omega]
theorem Cp {w:World} {A:Option Addr} {c g:Nat} {l:List UInt8} {t:TypeId} (h:Sl w A c l) (hb:aP w g t #[.int .i64 0, .int .i64 0, .int .i64 0, .int .i64 0, .int .i64 0, .slice none 0 0, .int .i64 0]) (b i:Nat) (e:A=some ⟨b,i,none⟩) (hl:l≠ []):b≠g:=by
 rintro rfl;rcases h.rd with h0|⟨b',o,ha,_,hc⟩
 ·exact hl h0
 ·rw[e]at ha;injection ha with ha;injection ha with h1 h2;subst h1 h2;have h0:=hc 0 (List.length_pos_iff.2 hl);rw[hb.cell,a7]at h0
  iterate 7 (rcases i with _|i;(simp at h0))
  simp at h0
theorem RB.outs {w:World} {b:Nat} {M:jN} {sz:Int} {g:Rg} {rv:Value} {ol:List Value} (h:RB w b M sz g rv ol):w.rangeAt b 4115 ol:=fun j v hv=>(h.out j).trans hv
theorem uj {w:World} {g:Nat} {u0 u1 u2 u3 u4 u5 u6:Value} (h:Hid (aP w g 49 #[u0,u1,u2,u3,u4,u5,u6])):(loadVar 49 ⟨g,0,none⟩).run prog w= .ok (.agg #[u0,u1,u2,u3,u4,u5,u6]) w:=
 run_loadVar_row w g _ _ _ _ _ h underlying49 rfl (by kernel_rfl)
theorem pG (f:kN) (A B:Option Addr) (c d:Nat) (R:Rs) (rv:Value) (N:Nat) (hN:N<=1000000000) (w:World) (hF:FT w) (hS:Sl w A c f.code) (hS2:Sl w B d f.data) (hn:f.code.length<=1000000000) (hm:f.data.length<=1000000000) (hR:iT w (fun _=>True) rv R) (hl:R.length<=1000000000):
  Calls prog 18 #[f.val A B c d,rv, .int .i64 (N:Int)] w fun e w'=>au w w'/\ ∃A2 c2,e= .returned (.tuple #[.agg (Gc (fB f R N).1 A2 c2).toArray, .int .i64 (fB f R N).2])/\Sl w' A2 c2 (fB f R N).1.data:=by
 have HV:=G (fun W (h:au w W)=>lx f A B c d W (hF.ext h) (hS.ext h) hn hm);have HF:=G hF;have HS:=G hS;have HS2:=G hS2;have HR:=G (hR.mono (Q:=fun b=>b<w.heap.size) fun b _ h=>h);have HAn:=G (show fB f R N=if fe f=true then(iy (lT f).toNat R N ⟨wF f.code f.data (j7 f.code.length).toNat,qu f.entry,0⟩,0)else(⟨0,0,0,0,0,[],0⟩,1)from rfl);generalize fB f R N=ANS at*
 cases hv:fe f with
 |false=>
  have HE:=G (show ANS=(⟨0,0,0,0,0,[],0⟩,1) by rw[HAn.out,if_neg (by rw[hv];decide)]);rw[hv]at HV;clear HAn hF hS hS2 hR hv;unfold kN.val at*;go_enter func18,ntmps18
  go_upto_region 1 with fail
  generalize hW:World.alloc (World.alloc w _) _=W0;obtain⟨hX,q,o,s⟩:=E6 hW;replace hX:=G hX;clear hW;have c0:=q.out.cell;go_wp2_with (first|(go_at_call 41;refine(HV.out _ hX.out).mono ?_;rintro e w1 ⟨rfl,hE⟩;replace hX:=kx hX hE;replace o:=kb o hE;clear HV c0 hE;have c1:=o.out.cell;have f1:=o.out.frozen));generalize hW:World.setCell _ _ _=W8;obtain⟨o8,hs,hx⟩:=la hW o;have hX8:=hx _ hX (by omega);have hl:=uj o8;clear hW hs hx c1 f1;refine bodyPost_ret (v:= .tuple #[.agg #[.int .i64 0, .int .i64 0, .int .i64 0, .int .i64 0, .int .i64 0, .slice none 0 0, .int .i64 0], .int .i64 1]) ?_ rfl ⟨hX8.out,none,0,by rw[HE.out];rfl,by rw[HE.out];exact d7 _⟩;simp[results,results18,asAddr,hl,Act.put]
 |true=>
  obtain⟨np,hp,p1,p2,U,hU,u1,u2⟩:=EW hv;obtain⟨_,_,_,_,e0,e1,_⟩:=qi hv;have HE:=G (show ANS=(iy (128*np) R N ⟨wF f.code f.data U,qu f.entry,0⟩,0) by rw[HAn.out,if_pos hv,hp,hU];rfl);have HSz:=G (fun W (h:au w W)=>pZ f A B c d np W (hF.ext h) (hS.ext h) hv hn hm hp p2);have HPg:=G (fun W (h:au w W)=>uo f A B c d np U W (hF.ext h) (hS.ext h) (hS2.ext h) hv hn hm hp p1 p2 hU u1 u2);have HMf:=G (EL (L:=128*np) u1 u2)
  have HMl:=G (show(Dz f U (128*np)).length=128*np by
   unfold Dz;have hr:(List.replicate (128*np) (0:UInt8)).length=128*np:=gu ..
   rw[lE (by rw[lE (by rw[hr];omega),hr];omega),lE (by rw[hr];omega),hr])
  have HSt:=G (fun W=>vZ f.entry W);rw[hv]at HV;obtain⟨AR,nR,cR,rfl,hnR⟩:=HR.out.form;have HEn:=G (show-5000000000<=f.entry/\f.entry<=5000000000 by omega);have HStp:=G (fun(W:World) (b:Nat) (s:Ru) (hb:RB W b s.m (128*np:Nat) s.g (.slice AR nR cR) (oz s.used)) (hf:FT W) (hr:iT W (fun k=>k≠b) (.slice AR nR cR) R) (ho:uE R s)=>yi b s.m (128*np) s.g (.slice AR nR cR) s.used R W hb hf hr ho.u hl (by omega) ho.g ho.pc);clear HAn hF hS hS2 hR hv hn hm hp hU u1 u2 hl hnR e0 e1 HS HS2;unfold kN.val at*;rw[<-HMf.out]at HE;clear HMf;generalize Dz f U (128*np)=ML at*;generalize f.code.length=n at*;generalize f.data.length=m at*;generalize f.zero=z at*;generalize f.entry=en at*;obtain⟨L,hL⟩: ∃L,128*np=L:=⟨_,rfl⟩
  have hw1:IntKind.i64.wrap ((np:Int)*128)=(L:Int):=by rw[<-hL];simp[IntKind.wrap,IntKind.signed,IntKind.bits];omega
  rw[hL]at HE HMl HStp;have HL:=G hL;clear hL;go_enter func18,ntmps18
  go_upto_region 1 with fail
  generalize hW:World.alloc (World.alloc w _) _=W0;obtain⟨hX,q,o,s⟩:=E6 hW;replace hX:=G hX;clear hW;have c0:=q.out.cell
  go_upto_region 3 with(first|(go_at_call 41;refine(HV.out _ hX.out).mono ?_;rintro e w1 ⟨rfl,hE⟩;replace hX:=kx hX hE;replace o:=kb o hE;replace q:=kb q hE;clear HV c0 hE;have c0:=q.out.cell))
  refine ay 7 6 [(1,fun v=>v= .int .i64 (np:Int),fun _ _=>True),(5,fun v=>v= .agg (qu en).cs,fun _ _=>True)] mixed (by kernel_rfl) ⟨fun _ _ _ _ _=>trivial,fun _ _ _ _ _=>trivial,trivial⟩ ?_;repeat (refine sx ?_ (fun w1 hU=> ?_) ?_;rotate_left;(focus have c0:=(q.out.ext hU.un).cell;clear hU;go_simp<;>with_reducible rfl);simp only[bH,bG,bF,bE,bD])
  refine so (fun w6 hU hp K hK=> ?_) ?_
  ·clear hp;go_simp;refine(HSz.out w6 (hX.out.trans hU.un)).mono ?_;rintro e w7 ⟨rfl,hE⟩;exact hK _ _ hE rfl trivial
  rintro _ rfl;simp only[bH,bG,bF,bE,bD];repeat (refine sx ?_ (fun w1 hU=> ?_) ?_;rotate_left;(focus have c0:=(q.out.ext hU.un).cell;clear hU;go_simp<;>with_reducible rfl);simp only[bH,bG,bF,bE,bD])
  refine so (fun w6 hU hp K hK=> ?_) ?_
  ·clear hp;go_simp;refine(HSt.out w6).mono ?_;rintro e w7 ⟨rfl,hE⟩;exact hK _ _ hE rfl trivial
  rintro _ rfl;simp only[bH,bG,bF,bE,bD];repeat (refine sx ?_ (fun w1 hU=> ?_) ?_;rotate_left;(focus have c0:=(q.out.ext hU.un).cell;clear hU;go_simp<;>with_reducible rfl);simp only[bH,bG,bF,bE,bD])
  intro w5 hw5 hp;replace hX:=kx hX hw5.un;replace o:=kb o hw5.un;replace q:=kb q hw5.un;clear hp hw5 HSz HSt c0;simp only[ac,aq];refine tw rfl 113 _ rfl _ (by simp only[cU,bS,db];exact(congrArg (Program.built prog 113) (show _=[(1,Value.int .i64 (L:Int)),(2, .agg (qu en).cs),(3, .slice AR nR cR)]from rfl)).trans (yG (L:Int) (qu en) AR nR cR)) ?_
  go_upto_region 4 with fail
  have hb5:w.heap.size+1<w5.heap.size:=o.out.lt;have HM0:=G (show ∀W,Mv (fun k=>k=w5.heap.size) (w5.alloc (.cells (jU (fun _=>0)++mn (L:Int) (qu en) (.slice AR nR cR) (oz 0)).toArray 113)) W->au w W from fun W hm=>((cE hX.out).trans ((cE (aa w5 _)).trans hm)).ext fun k hk e=>by omega);generalize hW:World.alloc w5 _=W1 at*;obtain⟨hE,rb,s1⟩:=jm hW;replace hX:=kx hX hE;replace o:=kb o hE;replace q:=kb q hE;have HB:=G (show RB W1 w5.heap.size (fun _=>0) (L:Int) (qu en) (.slice AR nR cR) (oz 0)from rb.out);generalize w5.heap.size=b at*;clear hW hE rb;have c0:=q.out.cell
  go_upto_region 5 with(go_at_call 44;refine(HPg.out _ hX.out).mono ?_;rintro e w6 ⟨gm,vp,rfl,hrow,hmem,hE⟩;obtain⟨gr,cp,rfl,hgr,hgr2,hcp,hrc⟩:=yE hrow (by omega);have HRc:=G hrc;have HMem:=G hmem;have HE6:=G hE;clear HPg hrow hmem hE c0 hrc)
  have hbw:b<W1.heap.size:=oX HB.out;have HB6:=G (HB.out.ext HE6.out);have o6:=kb o HE6.out;have hgm:=HMem.out.lt;have HFo:=G (HF.out.ext (hX.out.trans HE6.out));have HR6:=G (show iT w6 (fun k=>k≠b) (.slice AR nR cR) R from(HR.out.keep ((cE (S:=fun k=>k=b) (hX.out.trans HE6.out)).keepP fun k h _=>by omega)).mono fun k h _=>by omega);have hgmb:gm≠b:=fun e=>by
   have h1:some _=some _:=HMem.out.symm.trans (e▸HB6.out);injection h1 with h1;injection h1 with h1 _ _;have h2:=congrArg Array.size h1;rw[eW,eW,ab,bX,ip,HMl.out]at h2;have:=HL.out;omega
  have hFb:=CH HFo.out HB6.out;clear HB q hX o HF HR;have HB60:=G (show RB w6 b (xz ML (128*0)) (L:Int) (qu en) (.slice AR nR cR) (oz 0) by rw[Nat.mul_zero,y_];exact HB6.out)
  go_loopw [27] (fun v wr=> ∃j:Nat,v= .int .i64 (j:Int)/\j<=np/\Hid (RB wr b (xz ML (128*j)) (L:Int) (qu en) (.slice AR nR cR) (oz 0))/\Hid (Mv (fun k=>k=b) w6 wr)) (fun v _=>np-(intOf v).toNat)
  case atStart=>exact⟨0,rfl,aC _,HB60,G (fA _ _)⟩
  case round=>
   obtain⟨j,rfl,hj,HBj,HMj⟩:=hrel;clear HB60 HB6;have HLe:=HL.out;by_cases hlt:j<np
   ·have hlt':(j:Int)<(np:Int):=by omega
    obtain⟨K,hK⟩: ∃K,128*j=K:=⟨_,rfl⟩
    have hrj:=HRc.out j (Bj gm j) (by simp[Cu,hlt]);have HPv:=G (show Bj gm j= .slice (some ⟨gm,K,none⟩) 128 128 by rw[<-hK];rfl);rw[HPv.out]at hrj;have hcj:=((HMj.out.keepP (P:=fun k=>k≠b) fun k h _=>h).cell j (show gr≠b by omega) hgr2).trans hrj;have HMr:=G (show Rw wr gm 5 ML from(HMj.out.block gm hgm hgmb).trans HMem.out);have HSp:=G (ED HMr.out K 128 128 (by rw[HMl.out];omega) (by decide) (by decide));have hwk:IntKind.i64.wrap ((j:Int)*128)=(K:Int):=by rw[<-hK];simp[IntKind.wrap,IntKind.signed,IntKind.bits];omega
    have hsl:=fun w=>Ew b K (by omega) w;have HLp:=G (show((ML.drop K).take 128).length=128 by simp[HMl.out];omega);rw[hK]at HBj
    go_upto_region 8 with(refine lA rfl _ _ rfl HBj.out K (4096-K) (4096-K) rfl (some ⟨gm,K,none⟩) 128 128 ((ML.drop K).take 128) HLp.out rfl HSp.out (by omega) (by omega) fun w7 v7 hb7 hm7 _=> ?_;have HB7:=G hb7;have HM7:=G (HMj.out.trans hm7);clear hb7 hm7 hcj hrj)
    rw[Bv _ _ _ (by rw[HMl.out];omega)]at HB7;have HB8:=G (show RB w7 b (xz ML (128*(j+1))) (L:Int) (qu en) (.slice AR nR cR) (oz 0) by rw[show 128*(j+1)=K+128 by omega];exact HB7.out);go_wp2_with fail;go_roundw
    case rel=>exact⟨j+1,by go_num,by omega,HB8,HM7⟩
    case measure=>simp[intOf];omega
   ·obtain rfl:j=np:=by omega
    have hlt': ¬(j:Int)<j:=by omega
    rw[HLe]at HBj;generalize wr=wz at*;obtain⟨O,hO⟩: ∃O,iy L R N ⟨xz ML L,qu en,0⟩=O:=⟨_,rfl⟩
    rw[hO]at HE;have HO:=G hO;have HRu:=G (show uE R ⟨xz ML L,qu en,0⟩from⟨Di en,HEn.out,aC _⟩);clear hO HRc HMem HMl
    go_upto_region 9 with fail
    go_loopw [2] (fun v wr=> ∃(k:Nat) (s:Ru),v= .int .i64 (k:Int)/\k<=N/\Hid (RB wr b s.m (L:Int) s.g (.slice AR nR cR) (oz s.used))/\Hid (uE R s)/\Hid (iy L R k s=O)/\Hid (Mv (fun k=>k=b) w6 wr)) (fun v _=>(intOf v).toNat)
    case atStart=>exact⟨N,_,rfl,ah _,HBj,HRu,HO,HMj⟩
    case round=>
     obtain⟨k,s,rfl,hk,HBs,HRs,HOs,HMs⟩:=hrel;clear HBj HRu HO HMj;have hbo: ¬w.heap.size+1=b:=by omega
     rcases k with _|k
     ·have hO:O=⟨3,0,0,0,0,[],s.used⟩:=HOs.out.symm;have hlt2: ¬(0:Int)<0:=by omega
      have c0:=HBs.out.out 0;have f0:=HBs.out.frz 4115;simp only[a7,oz,cA]at c0;have HB9:=G (show RB (wr.setCell ⟨b,4115,none⟩ (.int .i64 3)) b s.m (L:Int) s.g (.slice AR nR cR) [.int .i64 3, .int .i64 0, .int .i64 0, .int .i64 0, .int .i64 0, .slice none 0 0, .int .i64 (s.used:Int)]from HBs.out.setOut 0 (.int .i64 3));have HM9:=G (HMs.out.trans (Br wr b 4115 (.int .i64 3)))
      go_upto_region 14 with fail
      generalize World.setCell wr _ _=W9 at*;have o9:=G (mP HM9.out o6.out hbo);clear c0 f0;go_wp2_with (first|(refine wpList_load_mid rfl 49 _ rfl b 4115 rfl _ _ HB9.out.outs underlying49 rfl (by kernel_rfl) ?_)|(refine wpList_store_row rfl 49 _ _ rfl _ _ rfl rfl _ _ o9.out (by kernel_rfl) rfl (by simp[Value.oneCell']) ?_;generalize hW:World.setRow W9 _ _=W10;obtain⟨o10,_,hs,hx⟩:=oQ hW o9));have hl:=uj o10;have hX9:=G (HM0.out W9 ((cE HE6.out).trans HM9.out));have hX10:=hx _ hX9 (by omega);clear hW hs hx;refine bodyPost_ret (v:= .tuple #[.agg #[.int .i64 3, .int .i64 0, .int .i64 0, .int .i64 0, .int .i64 0, .slice none 0 0, .int .i64 (s.used:Int)], .int .i64 0]) ?_ rfl ⟨hX10.out,none,0,by rw[HE.out,hO];rfl,by rw[HE.out,hO];exact d7 _⟩;simp[results,results18,asAddr,hl,Act.put]
     ·have hlt2:(0:Int)<((k+1:Nat):Int):=by omega
      have hwk:IntKind.i64.wrap (((k+1:Nat):Int)-1)=(k:Int):=by simp[IntKind.wrap,IntKind.signed,IntKind.bits];omega
      have hlt3:(0:Int)<(k:Int)+1:=by omega
      have HF9:=G (show FT wr from HFo.out.mv hFb HMs.out);have HR9:=G (show iT wr (fun k=>k≠b) (.slice AR nR cR) R from HR6.out.keep (HMs.out.keepP fun k h _=>h));have HSp:=G (HStp.out wr b s HBs.out HF9.out HR9.out HRs.out);have HT:=G (show O=match ie L R s with| .error o=>o| .ok s'=>iy L R k s' from HOs.out.symm);have HK:=G (fun s' (h:ie L R s= .ok s')=>AN HRs.out h);have HSe:=G (show ie L R ⟨s.m,s.g,s.used⟩=ie L R s from rfl);rw[HSe.out]at HSp;clear HSe HOs HF9 HR9
      cases hst:ie L R s with
      |error oc=>
       rw[hst]at HSp HT;have hO:O=oc:=HT.out;clear hst HK
       go_upto_region 12 with(go_at_call 45;refine HSp.out.mono ?_;rintro e w9 ⟨hm,rfl,hr⟩;have HM9:=G (HMs.out.trans hm);have HR9:=G hr;clear HSp hm hr)
       obtain⟨M9,g9,A9,c9,hb9,hs9⟩:=HR9.out;have HB9:=G hb9;have HS9:=G hs9;clear hb9 hs9 HR9;have o9:=G (mP HM9.out o6.out hbo);obtain⟨o0,o1,o2,o3,o4,od,ou⟩:=oc;unfold Gc at HB9;simp only at HB9 HS9;go_wp2_with (first|(refine wpList_load_mid rfl 49 _ rfl b 4115 rfl _ _ HB9.out.outs underlying49 rfl (by kernel_rfl) ?_)|(refine wpList_store_row rfl 49 _ _ rfl _ _ rfl rfl _ _ o9.out (by kernel_rfl) rfl (by simp[Value.oneCell']) ?_;generalize hW:World.setRow w9 _ _=W10;obtain⟨o10,_,hs,hx⟩:=oQ hW o9));have hl:=uj o10;have hX9:=G (HM0.out w9 ((cE HE6.out).trans HM9.out));have hX10:=hx _ hX9 (by omega)
       have HS10:=G (show Sl W10 A9 c9 od from by
        subst hW
        refine HS9.out.keepP (P:=fun k=>k≠w.heap.size+1) ⟨by simp,fun k hk hl=>setRow_other w9 _ k _ hk⟩ fun b1 i1 e hne=>Cp HS9.out o9.out b1 i1 e hne)
       clear hW hs hx;refine bodyPost_ret (v:= .tuple #[.agg #[.int .i64 o0, .int .i64 o1, .int .i64 o2, .int .i64 o3, .int .i64 o4, .slice A9 od.length c9, .int .i64 (ou:Int)], .int .i64 0]) ?_ rfl ⟨hX10.out,A9,c9,by rw[HE.out,hO];rfl,by rw[HE.out,hO];exact HS10.out⟩;simp[results,results18,asAddr,hl,Act.put]
      |ok s'=>
       rw[hst]at HSp HT;have HT2:=G (show iy L R k s'=O from HT.out.symm);have HK2:=G (HK.out s' hst);clear hst HK HT;go_wp2_with (go_at_call 45;refine HSp.out.mono ?_;rintro e w9 ⟨hm,rfl,hr⟩;have HM9:=G (HMs.out.trans hm);have HR9:=G hr;clear HSp hm hr);go_roundw
       case rel=>exact⟨k,s',by go_num,by omega,HR9,HK2,HT2,HM9⟩
       case measure=>simp[intOf]
end
section
open Go.RowKit
def lu (x:cQ):List Value:=[.int .i64 x.op, .int .i64 x.a, .int .i64 x.b, .int .i64 x.c, .int .i64 x.v]
def fG (l:List cQ):List Value:=l.flatMap lu
def lM (p:Nat×Nm):List Value:=[.int .i64 (p.1:Int), .string (an p.2)]
def eU (l:List (Nat×Nm)):List Value:=l.flatMap lM
def fF (l:List (Nm×Int)):KF:=fun s=>(ge l s).map (.int .i64 ·)
def me (w:World) (b:Nat) (L:KF) (n:Nat):Prop:=b7 w b L/\ ∃es clock,w.heap[b]? =some (.map es clock)/\es.size=n
theorem me.obj {w w':World} {b n:Nat} {L:KF} (h:me w b L n) (he:w'.heap[b]? =w.heap[b]?):me w' b L n:=let⟨h1,es,c,h2,h3⟩:=h;⟨h1.obj he,es,c,he.trans h2,h3⟩
structure CC where
 c:Nat
 base:Nat
 va:Value
 fa:Value
 bp:Nat
 bs:Nat
 ba:Nat
 pl:List (Nm×Int)
 sz:List (Nm×Int)
def Ax:Value->Option Nat
 | .map b=>b
 | _=>none
def bw (k:CC) (vc vt vl vd vs:Value):List (Option Nat):=[some k.c,some k.bp,some k.bs,some k.ba,Ax vs,vc.ownBlock,vt.ownBlock,vl.ownBlock,vd.ownBlock]
structure gV (k:CC) (at_:List (Nm×Int)) (vc vt vl vd vs:Value) (w:World) (s:CS):Prop where
 blk:aP w k.c 95 #[k.va,k.fa,vc,vt, .map (some k.bp), .map (some k.bs), .map (some k.ba),vl,vd,vs, .int .i64 s.frame]
 code:w.ownsRow k.base 159 5 vc s.code.length (fG s.code)
 tx:fZ w k.base 5 vt s.tx
 calls:w.ownsRow k.base 155 2 vl s.calls.length (eU s.calls)
 dats:w.ownsRow k.base 155 2 vd s.dats.length (eU s.dats)
 pl:b7 w k.bp (fF k.pl)
 sz:b7 w k.bs (fF k.sz)
 at_:b7 w k.ba (fF at_)
 sl:vs= .map none/\s.slots=[]/\s.frame=0\/ ∃b,vs= .map (some b)/\me w b (fF s.slots) s.slots.length
 nd:(bw k vc vt vl vd vs).Pairwise fun x y=>x=none\/x≠y
 lo: ∀b,some b∈bw k vc vt vl vd vs->k.base<=b/\b<w.heap.size
def CX (k:CC) (at_:List (Nm×Int)) (O:Nat->Prop) (w:World) (s:CS):Prop:= ∃vc vt vl vd vs,gV k at_ vc vt vl vd vs w s/\ ∀b,O b↔some b∈bw k vc vt vl vd vs
def dF (O:Nat->Prop) (w:World) (O':Nat->Prop) (w':World):Prop:=Mv O w w'/\ ∀b,O' b->O b\/w.heap.size<=b
def CP (k:CC) (at_:List (Nm×Int)) (O:Nat->Prop) (w:World) (s':CS) (w':World):Prop:= ∃O',CX k at_ O' w' s'/\dF O w O' w'
def LB (O:Nat->Prop) (w:World) (b:Nat) (t:TypeId) (cs:Array Value):Prop:=aP w b t cs/\ ¬O b
section
variable {k:CC} {at_:List (Nm×Int)} {O O' O2:Nat->Prop} {w w' w2:World} {s s' s2:CS} {vc vt vl vd vs:Value}
theorem dF.refl (O:Nat->Prop) (w:World):dF O w O w:=⟨fA _ _,fun b h=> .inl h⟩
theorem dF.trans (h:dF O w O' w') (h':dF O' w' O2 w2):dF O w O2 w2:=
 ⟨h.1.tr h'.1 fun i hi hs=>(h.2 i hs).resolve_right (by omega),fun b hb=>(h'.2 b hb).elim (fun e=>h.2 b e) fun e=> .inr (ax h.1.size e)⟩
theorem dF.of_ext (he:au w w'):dF O w O w':=⟨.of_ext he,fun b h=> .inl h⟩
theorem dF.ex (h:dF O w O' w') (he:au w' w2):dF O w O' w2:=h.trans (.of_ext he)
theorem dF.pre (he:au w w') (h:dF O w' O' w2):dF O w O' w2:=dF.trans (.of_ext he) h
theorem CX.lt (h:CX k at_ O w s) {b:Nat} (hb:O b):k.base<=b/\b<w.heap.size:=by
 obtain⟨vc,vt,vl,vd,vs,h1,h2⟩:=h;exact h1.lo b ((h2 b).1 hb)
theorem CX.low (h:CX k at_ O w s) {b:Nat} (hb:b<k.base): ¬O b:=fun e=>by have:=(h.lt e).1;omega
theorem CX.new (h:CX k at_ O w s) {b:Nat} (hb:w.heap.size<=b): ¬O b:=fun e=>by have:=(h.lt e).2;omega
theorem gV.keep (h:gV k at_ vc vt vl vd vs w s) (hz:w.heap.size<=w'.heap.size) (hk: ∀b,some b∈bw k vc vt vl vd vs->w'.heap[b]? =w.heap[b]?):gV k at_ vc vt vl vd vs w' s:=by
 have q: ∀{v:Value} {e:TypeId} {z n:Nat} {xs:List Value},v.ownBlock∈bw k vc vt vl vd vs->w.ownsRow k.base e z v n xs->w'.ownsRow k.base e z v n xs:=fun hm hr=>by
  refine⟨hr.1,?_⟩;rcases hr.2 with h1|⟨g,cap,cur,rfl,h1,h2,h3⟩
  ·exact .inl h1
  ·exact .inr ⟨g,cap,cur,rfl,h1,(hk g hm).trans h2,h3⟩
 refine⟨(hk _ (by simp[bw])).trans h.blk,q (by simp[bw]) h.code,q (by simp[bw]) h.tx,q (by simp[bw]) h.calls,q (by simp[bw]) h.dats,h.pl.obj (hk _ (by simp[bw])),h.sz.obj (hk _ (by simp[bw])),h.at_.obj (hk _ (by simp[bw])),?_,h.nd,fun b hb=>⟨(h.lo b hb).1,aA (h.lo b hb).2 hz⟩⟩;rcases h.sl with h1|⟨b,rfl,h1⟩
 ·exact .inl h1
 ·exact .inr ⟨b,rfl,h1.obj (hk b (by simp[bw,Ax]))⟩
theorem CX.ext (h:CX k at_ O w s) (he:au w w'):CX k at_ O w' s:=by
 obtain⟨vc,vt,vl,vd,vs,h1,h2⟩:=h;exact⟨vc,vt,vl,vd,vs,h1.keep he.size fun b hb=>he.obj (h1.lo b hb).2,h2⟩
theorem LB.new (h:CX k at_ O w s) (t:TypeId) (cs:Array Value):LB O (w.alloc (.cells cs t)) w.heap.size t cs:=⟨aw w t cs,h.new (ah _)⟩
theorem LB.ext {b:Nat} {t:TypeId} {cs:Array Value} (h:LB O w b t cs) (he:au w w'):LB O w' b t cs:=⟨h.1.ext he,h.2⟩
theorem LB.st {b:Nat} {t:TypeId} {cs:Array Value} (h:LB O w b t cs) (hs:dF O w O' w'):LB O' w' b t cs:=⟨hs.1.blk h.1 h.2,fun e=>(hs.2 b e).elim h.2 fun e=>by have:=h.1.lt;omega⟩
theorem dF.keepP (h:dF O w O' w') (hx:CX k at_ O w s):dm (fun b=>b<k.base) w w':=h.1.keepP fun b hb _=>hx.low hb
end
end
section
open Go.RowKit
theorem mo {A:Nat}: ∀{l:List (Option Nat)},l.Pairwise (fun x y=>x=none\/x≠y)-> ∀i,(∀y∈l,y≠some A)->(l.set i (some A)).Pairwise (fun x y=>x=none\/x≠y)
 | [],h,i,_=>by simp
 |x::t,h,0,hA=>by
  rw[fP]at h;rw[du,fP];exact⟨fun y hy=> .inr fun e=>hA y (.tail _ hy) e.symm,h.2⟩
 |x::t,h,i+1,hA=>by
  rw[fP]at h;rw[dv,fP];refine⟨fun y hy=> ?_,mo h.2 i fun y hy=>hA y (.tail _ hy)⟩;rcases List.mem_or_eq_of_mem_set hy with hy|rfl
  ·exact h.1 y hy
  ·exact .inr (hA x (.head _))
theorem ik {l:List (Option Nat)} (h:l.Pairwise (fun x y=>x=none\/x≠y)) {i j:Nat} {x y:Option Nat} (hij:i≠j) (hi:l[i]? =some x) (hj:l[j]? =some y):x=none\/x≠y:=by
 obtain⟨hi1,hi2⟩:=List.getElem?_eq_some_iff.1 hi;obtain⟨hj1,hj2⟩:=List.getElem?_eq_some_iff.1 hj;rw[iw]at h;rcases Nat.lt_or_gt_of_ne hij with hl|hl
 ·have:=h i j hi1 hj1 hl;rwa [hi2,hj2]at this
 ·have:=h j i hj1 hi1 hl;rw[hi2,hj2]at this;rcases this with rfl|hn
  ·cases x with
   |none=>exact .inl rfl
   |some a=>exact .inr (by simp)
  ·exact .inr fun e=>hn e.symm
theorem dR {w W:World} {base z n:Nat} {e:TypeId} {v:Value} {xs:List Value} (h:w.ownsRow base e z v n xs) (hk: ∀b,v.ownBlock=some b->W.heap[b]? =w.heap[b]?):W.ownsRow base e z v n xs:=by
 refine⟨h.1,?_⟩;rcases h.2 with h1|⟨g,cap,cur,rfl,h1,h2,h3⟩
 ·exact .inl h1
 ·exact .inr ⟨g,cap,cur,rfl,h1,(hk g rfl).trans h2,h3⟩
theorem rR {w W:World} {vs:Value} {l:List (Nm×Int)} {f:Int} (h:vs= .map none/\l=[]/\f=0\/ ∃b,vs= .map (some b)/\me w b (fF l) l.length) (hk: ∀b,Ax vs=some b->W.heap[b]? =w.heap[b]?):vs= .map none/\l=[]/\f=0\/ ∃b,vs= .map (some b)/\me W b (fF l) l.length:=by
 rcases h with h|⟨b,rfl,h⟩
 ·exact .inl h
 ·exact .inr ⟨b,rfl,h.obj (hk b rfl)⟩
theorem qB {w:World} {base z n:Nat} {e:TypeId} {v:Value} {xs:List Value} (h:w.ownsRow base e z v n xs) {b:Nat} (hb:v.ownBlock=some b):base<=b/\b<w.heap.size:=h.lt b hb
theorem GH:mc prog 92 159 5 40 (.agg #[.int .i64 0, .int .i64 0, .int .i64 0, .int .i64 0, .int .i64 0]):=⟨underlying92,by kernel_rfl,by rfl,by decide⟩
theorem Fs:mc prog 93 155 2 24 (.agg #[.int .i64 0, .string ⟨#[]⟩]):=⟨underlying93,by kernel_rfl,by rfl,by decide⟩
section
variable {k:CC} {at_:List (Nm×Int)} {O:Nat->Prop} {w W:World} {s:CS} {vc vt vl vd vs v':Value}
theorem gV.code_to (h:gV k at_ vc vt vl vd vs w s) {c':List cQ} (hb:aP W k.c 95 #[k.va,k.fa,v',vt, .map (some k.bp), .map (some k.bs), .map (some k.ba),vl,vd,vs, .int .i64 s.frame]) (hn:W.ownsRow k.base 159 5 v' c'.length (fG c')) (hv:v'.ownBlock=vc.ownBlock\/v'.ownBlock=some w.heap.size) (hM:Mv (fun b=>b=k.c\/vc.ownBlock=some b) w W):gV k at_ v' vt vl vd vs W {s with code:=c'}:=by
 have K: ∀(j:Nat) (b:Nat),j≠0->j≠5->(bw k vc vt vl vd vs)[j]? =some (some b)->W.heap[b]? =w.heap[b]? :=fun j b h0 hi hj=>by
  refine hM.block b (h.lo b (ce hj)).2 fun e=> ?_;rcases e with rfl|e
  ·exact((ik h.nd h0 hj (show(bw k vc vt vl vd vs)[0]? =some (some k.c)from rfl)).resolve_left (by simp)) rfl
  ·exact((ik h.nd hi hj (show(bw k vc vt vl vd vs)[5]? =some vc.ownBlock from rfl)).resolve_left (by simp)) e.symm
 refine⟨hb,hn,dR h.tx fun b e=>K 6 b (by decide) (by decide) (congrArg some e),dR h.calls fun b e=>K 7 b (by decide) (by decide) (congrArg some e),dR h.dats fun b e=>K 8 b (by decide) (by decide) (congrArg some e),h.pl.obj (K 1 _ (by decide) (by decide) rfl),h.sz.obj (K 2 _ (by decide) (by decide) rfl),h.at_.obj (K 3 _ (by decide) (by decide) rfl),rR h.sl fun b e=>K 4 b (by decide) (by decide) (congrArg some e),?_,fun b hb'=> ?_⟩
 ·rcases hv with e|e
  ·have:bw k v' vt vl vd vs=bw k vc vt vl vd vs:=by simp only[bw,e]
   rw[this];exact h.nd
  ·have:bw k v' vt vl vd vs=(bw k vc vt vl vd vs).set 5 (some w.heap.size):=by simp[bw,e]
   rw[this];exact mo h.nd 5 fun y hy e2=>by subst e2;exact absurd (h.lo _ hy).2 (iM _)
 ·have hz:=hM.size;by_cases e:some b=v'.ownBlock
  ·exact qB hn e.symm
  ·have:some b∈bw k vc vt vl vd vs:=by simp only[bw,bN,aZ,or_false]at hb'⊢;rcases hb' with h|h|h|h|h|h|h|h|h<;>simp_all
   exact⟨(h.lo b this).1,aA (h.lo b this).2 hz⟩
theorem gV.code_cp (h:gV k at_ vc vt vl vd vs w s) (hO: ∀b,O b↔some b∈bw k vc vt vl vd vs) {c':List cQ} (hb:aP W k.c 95 #[k.va,k.fa,v',vt, .map (some k.bp), .map (some k.bs), .map (some k.ba),vl,vd,vs, .int .i64 s.frame]) (hn:W.ownsRow k.base 159 5 v' c'.length (fG c')) (hv:v'.ownBlock=vc.ownBlock\/v'.ownBlock=some w.heap.size) (hM:Mv (fun b=>b=k.c\/vc.ownBlock=some b) w W):CP k at_ O w {s with code:=c'} W:=by
 refine⟨_,⟨_,_,_,_,_,h.code_to hb hn hv hM,fun b=>f9⟩,hM.mono fun b _ e=>(hO b).2 ?_,fun b e=> ?_⟩
 ·rcases e with rfl|e
  ·simp[bw]
  ·simp[bw,e]
 ·rcases hv with q|q
  ·left;rw[hO];simp only[bw,q]at e⊢;exact e
  ·simp only[bw,q,bN,aZ,or_false]at e;rw[hO];simp only[bw,bN,aZ,or_false];rcases e with h|h|h|h|h|h|h|h|h<;>simp_all
theorem gV.tx_to (h:gV k at_ vc vt vl vd vs w s) {c':List UInt8} (hb:aP W k.c 95 #[k.va,k.fa,vc,v', .map (some k.bp), .map (some k.bs), .map (some k.ba),vl,vd,vs, .int .i64 s.frame]) (hn:fZ W k.base 5 v' c') (hv:v'.ownBlock=vt.ownBlock\/v'.ownBlock=some w.heap.size) (hM:Mv (fun b=>b=k.c\/vt.ownBlock=some b) w W):gV k at_ vc v' vl vd vs W {s with tx:=c'}:=by
 have K: ∀(j:Nat) (b:Nat),j≠0->j≠6->(bw k vc vt vl vd vs)[j]? =some (some b)->W.heap[b]? =w.heap[b]? :=fun j b h0 hi hj=>by
  refine hM.block b (h.lo b (ce hj)).2 fun e=> ?_;rcases e with rfl|e
  ·exact((ik h.nd h0 hj (show(bw k vc vt vl vd vs)[0]? =some (some k.c)from rfl)).resolve_left (by simp)) rfl
  ·exact((ik h.nd hi hj (show(bw k vc vt vl vd vs)[6]? =some vt.ownBlock from rfl)).resolve_left (by simp)) e.symm
 refine⟨hb,dR h.code fun b e=>K 5 b (by decide) (by decide) (congrArg some e),hn,dR h.calls fun b e=>K 7 b (by decide) (by decide) (congrArg some e),dR h.dats fun b e=>K 8 b (by decide) (by decide) (congrArg some e),h.pl.obj (K 1 _ (by decide) (by decide) rfl),h.sz.obj (K 2 _ (by decide) (by decide) rfl),h.at_.obj (K 3 _ (by decide) (by decide) rfl),rR h.sl fun b e=>K 4 b (by decide) (by decide) (congrArg some e),?_,fun b hb'=> ?_⟩
 ·rcases hv with e|e
  ·have:bw k vc v' vl vd vs=bw k vc vt vl vd vs:=by simp only[bw,e]
   rw[this];exact h.nd
  ·have:bw k vc v' vl vd vs=(bw k vc vt vl vd vs).set 6 (some w.heap.size):=by simp[bw,e]
   rw[this];exact mo h.nd 6 fun y hy e2=>by subst e2;exact absurd (h.lo _ hy).2 (iM _)
 ·have hz:=hM.size;by_cases e:some b=v'.ownBlock
  ·exact qB hn e.symm
  ·have:some b∈bw k vc vt vl vd vs:=by simp only[bw,bN,aZ,or_false]at hb'⊢;rcases hb' with h|h|h|h|h|h|h|h|h<;>simp_all
   exact⟨(h.lo b this).1,aA (h.lo b this).2 hz⟩
theorem gV.tx_cp (h:gV k at_ vc vt vl vd vs w s) (hO: ∀b,O b↔some b∈bw k vc vt vl vd vs) {c':List UInt8} (hb:aP W k.c 95 #[k.va,k.fa,vc,v', .map (some k.bp), .map (some k.bs), .map (some k.ba),vl,vd,vs, .int .i64 s.frame]) (hn:fZ W k.base 5 v' c') (hv:v'.ownBlock=vt.ownBlock\/v'.ownBlock=some w.heap.size) (hM:Mv (fun b=>b=k.c\/vt.ownBlock=some b) w W):CP k at_ O w {s with tx:=c'} W:=by
 refine⟨_,⟨_,_,_,_,_,h.tx_to hb hn hv hM,fun b=>f9⟩,hM.mono fun b _ e=>(hO b).2 ?_,fun b e=> ?_⟩
 ·rcases e with rfl|e
  ·simp[bw]
  ·simp[bw,e]
 ·rcases hv with q|q
  ·left;rw[hO];simp only[bw,q]at e⊢;exact e
  ·simp only[bw,q,bN,aZ,or_false]at e;rw[hO];simp only[bw,bN,aZ,or_false];rcases e with h|h|h|h|h|h|h|h|h<;>simp_all
theorem gV.calls_to (h:gV k at_ vc vt vl vd vs w s) {c':List (Nat×Nm)} (hb:aP W k.c 95 #[k.va,k.fa,vc,vt, .map (some k.bp), .map (some k.bs), .map (some k.ba),v',vd,vs, .int .i64 s.frame]) (hn:W.ownsRow k.base 155 2 v' c'.length (eU c')) (hv:v'.ownBlock=vl.ownBlock\/v'.ownBlock=some w.heap.size) (hM:Mv (fun b=>b=k.c\/vl.ownBlock=some b) w W):gV k at_ vc vt v' vd vs W {s with calls:=c'}:=by
 have K: ∀(j:Nat) (b:Nat),j≠0->j≠7->(bw k vc vt vl vd vs)[j]? =some (some b)->W.heap[b]? =w.heap[b]? :=fun j b h0 hi hj=>by
  refine hM.block b (h.lo b (ce hj)).2 fun e=> ?_;rcases e with rfl|e
  ·exact((ik h.nd h0 hj (show(bw k vc vt vl vd vs)[0]? =some (some k.c)from rfl)).resolve_left (by simp)) rfl
  ·exact((ik h.nd hi hj (show(bw k vc vt vl vd vs)[7]? =some vl.ownBlock from rfl)).resolve_left (by simp)) e.symm
 refine⟨hb,dR h.code fun b e=>K 5 b (by decide) (by decide) (congrArg some e),dR h.tx fun b e=>K 6 b (by decide) (by decide) (congrArg some e),hn,dR h.dats fun b e=>K 8 b (by decide) (by decide) (congrArg some e),h.pl.obj (K 1 _ (by decide) (by decide) rfl),h.sz.obj (K 2 _ (by decide) (by decide) rfl),h.at_.obj (K 3 _ (by decide) (by decide) rfl),rR h.sl fun b e=>K 4 b (by decide) (by decide) (congrArg some e),?_,fun b hb'=> ?_⟩
 ·rcases hv with e|e
  ·have:bw k vc vt v' vd vs=bw k vc vt vl vd vs:=by simp only[bw,e]
   rw[this];exact h.nd
  ·have:bw k vc vt v' vd vs=(bw k vc vt vl vd vs).set 7 (some w.heap.size):=by simp[bw,e]
   rw[this];exact mo h.nd 7 fun y hy e2=>by subst e2;exact absurd (h.lo _ hy).2 (iM _)
 ·have hz:=hM.size;by_cases e:some b=v'.ownBlock
  ·exact qB hn e.symm
  ·have:some b∈bw k vc vt vl vd vs:=by simp only[bw,bN,aZ,or_false]at hb'⊢;rcases hb' with h|h|h|h|h|h|h|h|h<;>simp_all
   exact⟨(h.lo b this).1,aA (h.lo b this).2 hz⟩
theorem gV.calls_cp (h:gV k at_ vc vt vl vd vs w s) (hO: ∀b,O b↔some b∈bw k vc vt vl vd vs) {c':List (Nat×Nm)} (hb:aP W k.c 95 #[k.va,k.fa,vc,vt, .map (some k.bp), .map (some k.bs), .map (some k.ba),v',vd,vs, .int .i64 s.frame]) (hn:W.ownsRow k.base 155 2 v' c'.length (eU c')) (hv:v'.ownBlock=vl.ownBlock\/v'.ownBlock=some w.heap.size) (hM:Mv (fun b=>b=k.c\/vl.ownBlock=some b) w W):CP k at_ O w {s with calls:=c'} W:=by
 refine⟨_,⟨_,_,_,_,_,h.calls_to hb hn hv hM,fun b=>f9⟩,hM.mono fun b _ e=>(hO b).2 ?_,fun b e=> ?_⟩
 ·rcases e with rfl|e
  ·simp[bw]
  ·simp[bw,e]
 ·rcases hv with q|q
  ·left;rw[hO];simp only[bw,q]at e⊢;exact e
  ·simp only[bw,q,bN,aZ,or_false]at e;rw[hO];simp only[bw,bN,aZ,or_false];rcases e with h|h|h|h|h|h|h|h|h<;>simp_all
theorem gV.dats_to (h:gV k at_ vc vt vl vd vs w s) {c':List (Nat×Nm)} (hb:aP W k.c 95 #[k.va,k.fa,vc,vt, .map (some k.bp), .map (some k.bs), .map (some k.ba),vl,v',vs, .int .i64 s.frame]) (hn:W.ownsRow k.base 155 2 v' c'.length (eU c')) (hv:v'.ownBlock=vd.ownBlock\/v'.ownBlock=some w.heap.size) (hM:Mv (fun b=>b=k.c\/vd.ownBlock=some b) w W):gV k at_ vc vt vl v' vs W {s with dats:=c'}:=by
 have K: ∀(j:Nat) (b:Nat),j≠0->j≠8->(bw k vc vt vl vd vs)[j]? =some (some b)->W.heap[b]? =w.heap[b]? :=fun j b h0 hi hj=>by
  refine hM.block b (h.lo b (ce hj)).2 fun e=> ?_;rcases e with rfl|e
  ·exact((ik h.nd h0 hj (show(bw k vc vt vl vd vs)[0]? =some (some k.c)from rfl)).resolve_left (by simp)) rfl
  ·exact((ik h.nd hi hj (show(bw k vc vt vl vd vs)[8]? =some vd.ownBlock from rfl)).resolve_left (by simp)) e.symm
 refine⟨hb,dR h.code fun b e=>K 5 b (by decide) (by decide) (congrArg some e),dR h.tx fun b e=>K 6 b (by decide) (by decide) (congrArg some e),dR h.calls fun b e=>K 7 b (by decide) (by decide) (congrArg some e),hn,h.pl.obj (K 1 _ (by decide) (by decide) rfl),h.sz.obj (K 2 _ (by decide) (by decide) rfl),h.at_.obj (K 3 _ (by decide) (by decide) rfl),rR h.sl fun b e=>K 4 b (by decide) (by decide) (congrArg some e),?_,fun b hb'=> ?_⟩
 ·rcases hv with e|e
  ·have:bw k vc vt vl v' vs=bw k vc vt vl vd vs:=by simp only[bw,e]
   rw[this];exact h.nd
  ·have:bw k vc vt vl v' vs=(bw k vc vt vl vd vs).set 8 (some w.heap.size):=by simp[bw,e]
   rw[this];exact mo h.nd 8 fun y hy e2=>by subst e2;exact absurd (h.lo _ hy).2 (iM _)
 ·have hz:=hM.size;by_cases e:some b=v'.ownBlock
  ·exact qB hn e.symm
  ·have:some b∈bw k vc vt vl vd vs:=by simp only[bw,bN,aZ,or_false]at hb'⊢;rcases hb' with h|h|h|h|h|h|h|h|h<;>simp_all
   exact⟨(h.lo b this).1,aA (h.lo b this).2 hz⟩
theorem gV.dats_cp (h:gV k at_ vc vt vl vd vs w s) (hO: ∀b,O b↔some b∈bw k vc vt vl vd vs) {c':List (Nat×Nm)} (hb:aP W k.c 95 #[k.va,k.fa,vc,vt, .map (some k.bp), .map (some k.bs), .map (some k.ba),vl,v',vs, .int .i64 s.frame]) (hn:W.ownsRow k.base 155 2 v' c'.length (eU c')) (hv:v'.ownBlock=vd.ownBlock\/v'.ownBlock=some w.heap.size) (hM:Mv (fun b=>b=k.c\/vd.ownBlock=some b) w W):CP k at_ O w {s with dats:=c'} W:=by
 refine⟨_,⟨_,_,_,_,_,h.dats_to hb hn hv hM,fun b=>f9⟩,hM.mono fun b _ e=>(hO b).2 ?_,fun b e=> ?_⟩
 ·rcases e with rfl|e
  ·simp[bw]
  ·simp[bw,e]
 ·rcases hv with q|q
  ·left;rw[hO];simp only[bw,q]at e⊢;exact e
  ·simp only[bw,q,bN,aZ,or_false]at e;rw[hO];simp only[bw,bN,aZ,or_false];rcases e with h|h|h|h|h|h|h|h|h<;>simp_all
end
end
section
open Go.RowKit
theorem gJ (w:World) (g i:Nat) (u:Value):w.grownBy (w.setCell ⟨g,i,none⟩ u) (some g):=⟨rfl,rfl,rfl,by simp[World.setCell],fun j _ hi=>Below.heap_setCell w ⟨g,i,none⟩ u j fun e=>hi (by rw[e])⟩
theorem sA (x:cQ): ∀u∈lu x,u.oneCell'=true:=by simp[lu,Value.oneCell']
theorem ul (l:List cQ) (x:cQ):fG (l++[x])=fG l++lu x:=by simp[fG]
theorem eE {k:CC} {at_:List (Nm×Int)} {vc vt vl vd vs:Value} {w:World} {s:CS} (h:gV k at_ vc vt vl vd vs w s):k.base<=w.heap.size/\some k.c≠vc.ownBlock/\some k.c≠vt.ownBlock/\some k.c≠vl.ownBlock/\some k.c≠vd.ownBlock:=by
 have h1:=h.lo k.c (by simp[bw]);refine⟨by omega,?_,?_,?_,?_⟩
 ·exact(ik h.nd (i:=0) (j:=5) (by decide) rfl rfl).resolve_left (by simp)
 ·exact(ik h.nd (i:=0) (j:=6) (by decide) rfl rfl).resolve_left (by simp)
 ·exact(ik h.nd (i:=0) (j:=7) (by decide) rfl rfl).resolve_left (by simp)
 ·exact(ik h.nd (i:=0) (j:=8) (by decide) rfl rfl).resolve_left (by simp)
def CV (k:CC) (at_:List (Nm×Int)) (vc vt vl vd vs:Value) (w:World) (s':CS) (w':World):Prop:=
 ∃vc',gV k at_ vc' vt vl vd vs w' s'/\Mv (fun b=>b=k.c\/vc.ownBlock=some b) w w'/\(vc'.ownBlock=vc.ownBlock\/ ∃b,vc'.ownBlock=some b/\w.heap.size<=b)
theorem CV.own {k:CC} {at_:List (Nm×Int)} {O:Nat->Prop} {vc vt vl vd vs:Value} {w w':World} {s':CS} (hO: ∀b,O b↔some b∈bw k vc vt vl vd vs) (h:CV k at_ vc vt vl vd vs w s' w'): ∃vc',gV k at_ vc' vt vl vd vs w' s'/\dF O w (fun b=>some b∈bw k vc' vt vl vd vs) w':=by
 obtain⟨vc',h1,h2,h3⟩:=h;refine⟨_,h1,h2.mono fun b _ e=>(hO b).2 ?_,fun b e=> ?_⟩
 ·rcases e with rfl|e
  ·simp[bw]
  ·simp[bw,e]
 ·rcases h3 with q|⟨c,q,hq⟩
  ·left;rw[hO];simp only[bw,q]at e⊢;exact e
  ·simp only[bw,q,bN,aZ,or_false]at e;rw[hO];simp only[bw,bN,aZ,or_false];rcases e with h|h|h|h|h|h|h|h|h<;>simp_all
theorem CV.st {k:CC} {at_:List (Nm×Int)} {O:Nat->Prop} {vc vt vl vd vs:Value} {w w':World} {s':CS} (hO: ∀b,O b↔some b∈bw k vc vt vl vd vs) (h:CV k at_ vc vt vl vd vs w s' w'):CP k at_ O w s' w':=by
 obtain⟨vc',h1,h2⟩:=h.own hO;exact⟨_,⟨_,_,_,_,_,h1,fun b=>f9⟩,h2⟩
theorem gV.add {k:CC} {at_:List (Nm×Int)} {w W0 w1:World} {s:CS} {vc vt vl vd vs:Value} (h:gV k at_ vc vt vl vd vs w s) (x:cQ) (hE:W0=w.alloc (.cells (lu x).toArray 159)) {A cap:Nat}
  (hn:w1.ownsRow k.base 159 5 (.slice (some ⟨A,0,none⟩) (s.code.length+1) cap) (s.code.length+1) (fG s.code++lu x)) (hg:W0.grownBy w1 vc.ownBlock) (hA:some A=vc.ownBlock\/A=W0.heap.size):
  aP w1 k.c 95 #[k.va,k.fa,vc,vt, .map (some k.bp), .map (some k.bs), .map (some k.ba),vl,vd,vs, .int .i64 s.frame]/\CV k at_ vc vt vl vd vs w (s.add x) (w1.setCell ⟨k.c,2,none⟩ (.slice (some ⟨A,0,none⟩) (s.code.length+1) cap)):=by
 have hx:au w W0:=hE▸aa w _;have hW:=h.keep hx.size fun b hb=>hx.obj (h.lo b hb).2;have hb:=hW.blk.grown hg (eE h).2.1;have hz:W0.heap.size=w.heap.size+1:=by rw[hE,World.size_alloc]
 have hM:Mv (fun b=>b=k.c\/vc.ownBlock=some b) W0 (w1.setCell ⟨k.c,2,none⟩ (.slice (some ⟨A,0,none⟩) (s.code.length+1) cap)):=(iJ hg fun b e=> .inr e).set (fun _=> .inl rfl) _;refine⟨hb,_,hW.code_to (c':=s.code++[x]) (v':= .slice (some ⟨A,0,none⟩) (s.code.length+1) cap) (W:=w1.setCell ⟨k.c,2,none⟩ (.slice (some ⟨A,0,none⟩) (s.code.length+1) cap)) (by simpa using hb.set 2 (.slice (some ⟨A,0,none⟩) (s.code.length+1) cap)) ?_ (hA.imp id fun e=>by rw[e];rfl) hM,(cE hx).trans hM,?_⟩
 ·rw[ab,ul]
  exact hn.kept (gJ w1 k.c 2 _) (.inr fun e=>by
   rcases hA with hA|hA
   ·exact(eE h).2.1 (by rw[<-hA];exact e.symm)
   ·have h5:=(h.lo k.c (by simp[bw])).2;have e:A=k.c:=ai e
    omega)
 ·exact hA.imp id fun e=>⟨A,rfl,by omega⟩
theorem E5 {k:CC} {at_:List (Nm×Int)} {vc vt vl vd vs:Value} {w:World} {s:CS} (h:gV k at_ vc vt vl vd vs w s) (op:Nat) (o a b n:Int) (ho:o=op) (hb:s.code.length<=1000000000):
  Calls prog 70 #[.pointer (some ⟨k.c,0,none⟩), .int .i64 o, .int .i64 a, .int .i64 b, .int .i64 n] w fun e w'=>e= .returned (.int .i64 (s.code.length:Int))/\CV k at_ vc vt vl vd vs w (s.op op a b n) w':=by
 subst ho;have c0:=h.blk.cell;have hr:=eE h;have H:=G h;have hcode:=h.code.alloc (.cells #[.int .i64 (op:Int), .int .i64 a, .int .i64 b, .int .i64 n, .int .i64 0] 159);have HB:=G (show k.base<=(w.alloc (.cells #[.int .i64 (op:Int), .int .i64 a, .int .i64 b, .int .i64 n, .int .i64 0] 159)).heap.size by rw[World.size_alloc];omega);clear h hr;go_enter func70,ntmps70
 go_upto_region 2 with(at_builtin;refine fd GH rfl _ _ rfl k.base _ s.code.length (fG s.code) rfl hcode w.heap.size (lu ⟨op,a,b,n,0⟩) rfl (aw w _ _) rfl (sA _) (by omega) (by decide) HB.out ?_;intro A cap w1 hn hg hA;obtain⟨hb1,hp⟩:=H.out.add ⟨op,a,b,n,0⟩ rfl hn hg hA;have c1:=hb1.cell;have f1:=hb1.frozen;have c2:=(hb1.set 2 (.slice (some ⟨A,0,none⟩) (s.code.length+1) cap)).cell;have HP:=G hp;clear hn hg hA hb1 hp hcode c0)
 clear c1 f1;go_wp2_with fail;go_ret;exact⟨rfl,HP.out⟩
theorem sP {k:CC} {at_:List (Nm×Int)} {vc vt vl vd vs:Value} {w:World} {s:CS} (h:gV k at_ vc vt vl vd vs w s) (op:Nat) (o a v:Int) (ho:o=op) (hb:s.code.length<=1000000000):
  Calls prog 69 #[.pointer (some ⟨k.c,0,none⟩), .int .i64 o, .int .i64 a, .int .i64 v] w fun e w'=>e= .returned (.int .i64 (s.code.length:Int))/\CV k at_ vc vt vl vd vs w (s.vl op a v) w':=by
 subst ho;have c0:=h.blk.cell;have hr:=eE h;have H:=G h;have hcode:=h.code.alloc (.cells #[.int .i64 (op:Int), .int .i64 a, .int .i64 0, .int .i64 0, .int .i64 v] 159);have HB:=G (show k.base<=(w.alloc (.cells #[.int .i64 (op:Int), .int .i64 a, .int .i64 0, .int .i64 0, .int .i64 v] 159)).heap.size by rw[World.size_alloc];omega);clear h hr;go_enter func69,ntmps69
 go_upto_region 2 with(at_builtin;refine fd GH rfl _ _ rfl k.base _ s.code.length (fG s.code) rfl hcode w.heap.size (lu ⟨op,a,0,0,v⟩) rfl (aw w _ _) rfl (sA _) (by omega) (by decide) HB.out ?_;intro A cap w1 hn hg hA;obtain⟨hb1,hp⟩:=H.out.add ⟨op,a,0,0,v⟩ rfl hn hg hA;have c1:=hb1.cell;have f1:=hb1.frozen;have c2:=(hb1.set 2 (.slice (some ⟨A,0,none⟩) (s.code.length+1) cap)).cell;have HP:=G hp;clear hn hg hA hb1 hp hcode c0)
 clear c1 f1;go_wp2_with fail;go_ret;exact⟨rfl,HP.out⟩
theorem fp {k:CC} {at_:List (Nm×Int)} {O:Nat->Prop} {w:World} {s:CS} (m:CX k at_ O w s) (op:Nat) (o a b n:Int) (ho:o=op) (hb:s.code.length<=1000000000):
  Calls prog 70 #[.pointer (some ⟨k.c,0,none⟩), .int .i64 o, .int .i64 a, .int .i64 b, .int .i64 n] w fun e w'=>e= .returned (.int .i64 (s.code.length:Int))/\CP k at_ O w (s.op op a b n) w':=by
 obtain⟨vc,vt,vl,vd,vs,h,hO⟩:=m;exact(E5 h op o a b n ho hb).mono fun e w' hh=>⟨hh.1,hh.2.st hO⟩
theorem gQ {k:CC} {at_:List (Nm×Int)} {O:Nat->Prop} {w:World} {s:CS} (m:CX k at_ O w s) (op:Nat) (o a v:Int) (ho:o=op) (hb:s.code.length<=1000000000):
  Calls prog 69 #[.pointer (some ⟨k.c,0,none⟩), .int .i64 o, .int .i64 a, .int .i64 v] w fun e w'=>e= .returned (.int .i64 (s.code.length:Int))/\CP k at_ O w (s.vl op a v) w':=by
 obtain⟨vc,vt,vl,vd,vs,h,hO⟩:=m;exact(sP h op o a v ho hb).mono fun e w' hh=>⟨hh.1,hh.2.st hO⟩
end
section
def CS.big (s:CS):Nat:=s.code.length+s.tx.length+s.calls.length+s.dats.length
section
variable {s:CS} {B:Nat}
theorem aT (h:s.big<=B):s.code.length<=B:=by unfold CS.big at h;omega
theorem CG (h:s.big<=B):s.tx.length<=B:=by unfold CS.big at h;omega
theorem oq (h:s.big<=B):s.calls.length<=B:=by unfold CS.big at h;omega
theorem qQ (h:s.big<=B):s.dats.length<=B:=by unfold CS.big at h;omega
theorem a8 (s:CS) (o:Nat) (a b n:Int):(s.op o a b n).big=s.big+1:=by simp[CS.op,CS.add,CS.big];omega
theorem bo (s:CS) (o:Nat) (a v:Int):(s.vl o a v).big=s.big+1:=by simp[CS.vl,CS.add,CS.big];omega
theorem bC (s:CS) (i:Nat):(s.land i).big=s.big:=by simp[CS.land,CS.big]
theorem cf (s:CS) (r:Int) (t:List UInt8):(s.text r t).big=s.big+2+t.length:=by simp[CS.text,CS.vl,CS.add,CS.big];omega
theorem cC (s:CS) (r:Int) (nm:Nm):(s.dat r nm).big=s.big+2:=by simp[CS.dat,CS.vl,CS.add,CS.big];omega
theorem b6 (s:CS) (nm:Nm):(s.call nm).big=s.big+2:=by simp[CS.call,CS.vl,CS.add,CS.big];omega
theorem bV (s:CS) (nm:Nm):(s.decl nm).big=s.big:=rfl
theorem bB (s:CS) (r:Int):(s.inv r).big=s.big+2:=by simp[CS.inv,a8,bo]
theorem iS (s:CS) (r n:Int):s.big+1<=(s.st r n).big/\(s.st r n).big<=s.big+2:=by unfold CS.st;split<;>simp only[bo]<;>omega
theorem rk (s:CS) (r m:Int):s.big+6<=(s.chk r m).big/\(s.chk r m).big<=s.big+7:=by have:=iS s 0 (m+1);unfold CS.chk;simp only[a8,bo];omega
theorem mJ (s:CS) (o:Nat) (r:Int) (nm:Nm):s.big+1<=(s.ld o r nm).big/\(s.ld o r nm).big<=s.big+3:=by unfold CS.ld;split<;>simp only[a8,cC]<;>omega
theorem dg (s:CS):s.back.big=s.big+3:=by simp[CS.back,a8]
theorem jg (sz:Nm->Int) (s:CS) (r:Int) (nm:Nm):s.big+9<=(s.elem sz r nm).big/\(s.elem sz r nm).big<=s.big+10:=by have:=rk s r (sz nm-1);unfold CS.elem;simp only[a8,cC];omega
theorem oO (op:Nm) (r:Int) (s:CS):s.big+1<=(pz op r s).big/\(pz op r s).big<=s.big+3:=by unfold pz;simp only;split<;>split<;>simp only[a8,bB]<;>omega
theorem cZ (o:Nat): ∀(k i:Nat) (s:CS),(nQ o k i s).big=s.big+k
 |0,i,s=>rfl
 |k+1,i,s=>by rw[nQ,cZ o k,a8];omega
theorem dB (r:Nat): ∀(k i:Nat) (s:CS),(si r k i s).big=s.big+k
 |0,i,s=>rfl
 |k+1,i,s=>by rw[si,dB r k,a8];omega
theorem cW (nm:Nm) (n r:Nat) (s:CS):(jM nm n r s).big=s.big+(2*(r-7)+n+3):=by unfold jM;simp only[a8,cZ,b6,dB];omega
theorem ea (c:Int) (n r i:Nat) (s:CS):(xB c n r i s).big=s.big+1:=by unfold xB;split<;>simp only[a8,bo]
variable (sz:Nm->Int)
theorem kL: ∀(ls:List UInt8) (a:List Ex) (lim:Int) (s:CS),s.big<=(mL sz ls a lim s).2.big
 | _,[],lim,s=>ah _
 |ls,x::l,lim,s=>by
  rw[mL];split
  ·exact kL ls.tail l lim s
  split
  ·refine ax ?_ (kL ls.tail l _ _);have:=iS (s.text 5 x.tx) 6 x.tx.length;rw[cf]at this;omega
  ·refine ax ?_ (kL ls.tail l _ _);rw[cC];omega
theorem mK (c:Int) (ls:List UInt8) (a:List Ex) (r:Nat) (s:CS):(mL sz ls a 0 s).2.big+6<=(iq sz c ls a r s).big/\(iq sz c ls a r s).big<=(mL sz ls a 0 s).2.big+14:=by
 unfold iq;have:=rk (mL sz ls a 0 s).2 ((r:Int)+tu ls a-1) (min (mL sz ls a 0 s).1 128);simp only[a8,bo];split<;>simp only[a8,ea]<;>omega
mutual
theorem mt: ∀(x:Ex) (r:Nat) (s:CS),s.big<=(eJ sz x r s).big
 | .mk k op nm tx v a,r,s=>by
  rw[eJ];split
  ·have:=iS s r v;omega
  split
  ·have:=mJ s 14 r nm;omega
  split
  ·have h0:=oo a r s;have:=jg sz (gt sz a r s) r nm;rw[a8];omega
  split
  ·split
   ·rename_i c ls _;have h0:=qK ls a r s;have h1:=kL sz ls a 0 (oH sz ls a r s);have:=mK sz c ls a r (oH sz ls a r s);omega
   ·have h0:=uf a r s;rw[cW];omega
  split
  ·have h0:=oo a r s;split
   ·rw[bB];omega
   ·rw[a8,bo];omega
  split
  ·have h0:=oo a r s;split
   ·rw[bC,bB,bB];have h1:=om a r ((gt sz a r s).vl 19 r 0);rw[bo]at h1;omega
   split
   ·rw[bB,bC,bB];have h1:=om a r (((gt sz a r s).inv r).vl 19 r 0);rw[bo,bB]at h1;omega
   ·have h1:=om a (r+1) (gt sz a r s);have:=oO op r (rz sz a (r+1) (gt sz a r s));omega
  ·exact ah _
theorem oo: ∀(l:List Ex) (r:Nat) (s:CS),s.big<=(gt sz l r s).big
 | [],r,s=>ah _
 |x::_,r,s=>by rw[gt];exact mt x r s
theorem om: ∀(l:List Ex) (r:Nat) (s:CS),s.big<=(rz sz l r s).big
 | [],r,s=>ah _
 | _::l,r,s=>by rw[rz];exact oo l r s
theorem uf: ∀(l:List Ex) (r:Nat) (s:CS),s.big<=(qZ sz l r s).big
 | [],r,s=>ah _
 |x::l,r,s=>by rw[qZ];exact ax (mt x r s) (uf l (r+1) _)
theorem qK: ∀(ls:List UInt8) (l:List Ex) (r:Nat) (s:CS),s.big<=(oH sz ls l r s).big
 | _,[],r,s=>ah _
 |ls,x::l,r,s=>by
  rw[oH];split
  ·exact ax (mt x r s) (qK ls.tail l (r+1) _)
  ·exact qK ls.tail l r s
end
mutual
theorem Dy: ∀(x:St) (s:CS),s.big<=(nF sz x s).big
 | .mk k nm ex b e,s=>by
  rw[nF];have h0:=oo sz ex 7 s;have h1:=iD b ((gt sz ex 7 s).vl 19 7 0);rw[bo]at h1;have hx:=Dx ex s;split
  ·split
   ·rw[bC];omega
   ·rw[bC];have h2:=iD e (((dG sz b ((gt sz ex 7 s).vl 19 7 0)).vl 18 0 0).land (gt sz ex 7 s).code.length);rw[bC,bo]at h2;omega
  split
  ·rw[bC,bo];omega
  split
  ·have:=mJ ((g8 sz ex s).decl nm) 15 7 nm;rw[bV]at this;omega
  split
  ·have:=mJ (g8 sz ex s) 15 7 nm;omega
  split
  ·have h2:=om sz ex 7 ((g8 sz ex s).op 15 7 15 28);have:=jg sz (((rz sz ex 7 ((g8 sz ex s).op 15 7 15 28)).op 3 8 7 0).op 14 7 15 28) 7 nm;simp only[a8]at this h2⊢;omega
  split
  ·rw[dg,a8];omega
  ·exact hx
theorem iD: ∀(l:List St) (s:CS),s.big<=(dG sz l s).big
 | [],s=>ah _
 |x::l,s=>by rw[dG];exact ax (Dy x s) (iD l _)
theorem Dx: ∀(l:List Ex) (s:CS),s.big<=(g8 sz l s).big
 | [],s=>by rw[g8,bo];omega
 |x::_,s=>by rw[g8];exact mt sz x 7 s
end
end
end
section
open Go.RowKit
theorem cF {O0 O O':Nat->Prop} {w0 w w':World} (T:Hid (dF O0 w0 O w)) (h:dF O w O' w'):Hid (dF O0 w0 O' w'):=dF.trans T h
theorem l6 {k:CC} {at_:List (Nm×Int)} {O:Nat->Prop} {w:World} {s:CS} (m:CX k at_ O w s) (a b:Int) (hb:s.big<=950000000):
  Calls prog 132 #[.pointer (some ⟨k.c,0,none⟩), .int .i64 a, .int .i64 b] w fun e w'=>e= .returned (.tuple #[])/\CP k at_ O w (s.op 3 a b 0) w':=by
 have m0:=G m;have T0:=G (dF.refl O w);clear m;go_enter func132,ntmps132;go_wp2_with (first|(go_at_call 70;refine(fp m0.out 3 _ _ _ _ rfl (aT (by(try simp only[bo,a8,bC,bB,cC,cf,b6,bV]);omega))).mono ?_;rintro e w1 ⟨rfl,O1,hm,hS⟩;have T1:=cF T0 hS;have m1:=G hm;clear m0 T0 hm hS;skip));exact bodyPost_end (results_none rfl _ _ _) rfl ⟨rfl,_,m1.out,T1.out⟩
theorem sX {k:CC} {at_:List (Nm×Int)} {O:Nat->Prop} {w:World} {s:CS} (m:CX k at_ O w s) (r:Int) (hb:s.big<=940000000):
  Calls prog 183 #[.pointer (some ⟨k.c,0,none⟩), .int .i64 r] w fun e w'=>e= .returned (.tuple #[])/\CP k at_ O w (s.inv r) w':=by
 have m0:=G m;have T0:=G (dF.refl O w);clear m;go_enter func183,ntmps183;go_wp2_with (first|(go_at_call 69;refine(gQ m0.out 1 _ _ _ rfl (aT (by(try simp only[bo,a8,bC,bB,cC,cf,b6,bV]);omega))).mono ?_;rintro e w1 ⟨rfl,O1,hm,hS⟩;have T1:=cF T0 hS;have m1:=G hm;clear m0 T0 hm hS)|(go_at_call 70;refine(fp m1.out 13 _ _ _ _ rfl (aT (by(try simp only[bo,a8,bC,bB,cC,cf,b6,bV]);omega))).mono ?_;rintro e w2 ⟨rfl,O2,hm,hS⟩;have T2:=cF T1 hS;have m2:=G hm;clear m1 T1 hm hS));exact bodyPost_end (results_none rfl _ _ _) rfl ⟨rfl,_,m2.out,T2.out⟩
theorem xE (n:Int):IntKind.i16.wrap n=jc n:=by unfold jc;simp[IntKind.wrap,IntKind.signed,IntKind.bits];split<;>split<;>omega
theorem uY (n:Int): -32768<=jc n/\jc n<=32767:=by unfold jc;split<;>omega
theorem DJ {k:CC} {at_:List (Nm×Int)} {O:Nat->Prop} {w:World} {s:CS} (m:CX k at_ O w s) (r n:Int) (hn: -1099511627776<=n/\n<=1099511627776) (hb:s.big<=945000000):
  Calls prog 179 #[.pointer (some ⟨k.c,0,none⟩), .int .i64 r, .int .i64 n] w fun e w'=>e= .returned (.tuple #[])/\CP k at_ O w (s.st r n) w':=by
 have m0:=G m;have T0:=G (dF.refl O w);clear m;have h1:=xE n;have h2:=xE ((n-jc n)/65536);obtain⟨l1,l2⟩:=uY n;have HS:=G (show s.st r n=if jc ((n-jc n)/65536)=0 then s.vl 1 r (jc n)else(s.vl 1 r (jc n)).vl 2 r (jc ((n-jc n)/65536))from rfl);have H3:=G (uY ((n-jc n)/65536));generalize jc ((n-jc n)/65536)=H at*;generalize jc n=L at*;obtain⟨l3,l4⟩:=H3.out;obtain⟨n1,n2⟩:=hn;have hw1:IntKind.i64.wrap (n-L)=n-L:=by simp[IntKind.wrap,IntKind.signed,IntKind.bits];omega
 have hw2:IntKind.i64.wrap L=L:=by simp[IntKind.wrap,IntKind.signed,IntKind.bits];omega
 have hw3:IntKind.i64.wrap H=H:=by simp[IntKind.wrap,IntKind.signed,IntKind.bits];omega
 clear H3;by_cases hH:H=0
 ·have hH':=beq_iff_eq.2 hH;rw[if_pos hH]at HS;clear hH;go_enter func179,ntmps179;go_wp2_with (first|(go_at_call 69;refine(gQ m0.out 1 _ _ _ rfl (aT (by(try simp only[bo,a8,bC,bB,cC,cf,b6,bV]);omega))).mono ?_;rintro e w1 ⟨rfl,O1,hm,hS⟩;have T1:=cF T0 hS;have m1:=G hm;clear m0 T0 hm hS));exact bodyPost_end (results_none rfl _ _ _) rfl ⟨rfl,_,HS.out▸m1.out,T1.out⟩
 ·have hH':=beq_eq_false_iff_ne.2 hH;rw[if_neg hH]at HS;go_enter func179,ntmps179;go_wp2_with (first|(go_at_call 69;refine(gQ m0.out 1 _ _ _ rfl (aT (by(try simp only[bo,a8,bC,bB,cC,cf,b6,bV]);omega))).mono ?_;rintro e w1 ⟨rfl,O1,hm,hS⟩;have T1:=cF T0 hS;have m1:=G hm;clear m0 T0 hm hS)|(go_at_call 69;refine(gQ m1.out 2 _ _ _ rfl (aT (by(try simp only[bo,a8,bC,bB,cC,cf,b6,bV]);omega))).mono ?_;rintro e w2 ⟨rfl,O2,hm,hS⟩;have T2:=cF T1 hS;have m2:=G hm;clear m1 T1 hm hS));exact bodyPost_end (results_none rfl _ _ _) rfl ⟨rfl,_,HS.out▸m2.out,T2.out⟩
theorem E4 {k:CC} {at_:List (Nm×Int)} {O:Nat->Prop} {w:World} {s:CS} (m:CX k at_ O w s) (r mm:Int) (hm: -1000000000<=mm/\mm<=1000000000) (hb:s.big<=940000000):
  Calls prog 186 #[.pointer (some ⟨k.c,0,none⟩), .int .i64 r, .int .i64 mm] w fun e w'=>e= .returned (.tuple #[])/\CP k at_ O w (s.chk r mm) w':=by
 have m0:=G m;have T0:=G (dF.refl O w);clear m;have hm1:=hm.1;have hm2:=hm.2;have hw:IntKind.i64.wrap (mm+1)=mm+1:=by simp[IntKind.wrap,IntKind.signed,IntKind.bits];omega
 go_enter func186,ntmps186;go_wp2_with (first|(go_at_call 179;refine(DJ m0.out 0 (mm+1) (by omega) (by omega)).mono ?_;rintro e w1 ⟨rfl,O1,hm,hS⟩;have T1:=cF T0 hS;have m1:=G hm;clear m0 T0 hm hS)|(go_at_call 70;refine(fp m1.out 12 _ _ _ _ rfl (aT (by have:=iS s 0 (mm+1);(try simp only[bo,a8,bC,bB,cC,cf,b6,bV]);omega))).mono ?_;rintro e w2 ⟨rfl,O2,hm,hS⟩;have T2:=cF T1 hS;have m2:=G hm;clear m1 T1 hm hS)|(go_at_call 69;refine(gQ m2.out 1 _ _ _ rfl (aT (by have:=iS s 0 (mm+1);(try simp only[bo,a8,bC,bB,cC,cf,b6,bV]);omega))).mono ?_;rintro e w3 ⟨rfl,O3,hm,hS⟩;have T3:=cF T2 hS;have m3:=G hm;clear m2 T2 hm hS)|(go_at_call 70;refine(fp m3.out 12 _ _ _ _ rfl (aT (by have:=iS s 0 (mm+1);(try simp only[bo,a8,bC,bB,cC,cf,b6,bV]);omega))).mono ?_;rintro e w4 ⟨rfl,O4,hm,hS⟩;have T4:=cF T3 hS;have m4:=G hm;clear m3 T3 hm hS)|(go_at_call 70;refine(fp m4.out 9 _ _ _ _ rfl (aT (by have:=iS s 0 (mm+1);(try simp only[bo,a8,bC,bB,cC,cf,b6,bV]);omega))).mono ?_;rintro e w5 ⟨rfl,O5,hm,hS⟩;have T5:=cF T4 hS;have m5:=G hm;clear m4 T4 hm hS)|(go_at_call 70;refine(fp m5.out 7 _ _ _ _ rfl (aT (by have:=iS s 0 (mm+1);(try simp only[bo,a8,bC,bB,cC,cf,b6,bV]);omega))).mono ?_;rintro e w6 ⟨rfl,O6,hm,hS⟩;have T6:=cF T5 hS;have m6:=G hm;clear m5 T5 hm hS));exact bodyPost_end (results_none rfl _ _ _) rfl ⟨rfl,_,m6.out,T6.out⟩
def iK:=@dF.of_ext
def jk:=@dF.refl
def oW:=@dF.trans
end
end Go.Proofs.YtoedmpgicdekmaaGreatDoor
