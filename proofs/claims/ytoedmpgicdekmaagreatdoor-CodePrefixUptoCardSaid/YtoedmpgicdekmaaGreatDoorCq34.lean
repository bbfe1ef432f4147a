/-
  Parts of the proof: ExD.
-/
import Derived.Test.YtoedmpgicdekmaaGreatDoorCq00
import Derived.Lib.SlBytesConst
import Derived.Test.YtoedmpgicdekmaaGreatDoorCq33
set_option maxRecDepth 100000
set_option maxHeartbeats 8000000
set_option linter.unusedVariables false
set_option linter.unusedSimpArgs false
set_option linter.unusedSectionVars false
namespace Go.Proofs.YtoedmpgicdekmaaGreatDoor
open Go.Proofs.Tryz
open Go.RowKit
def iZ (l:List UInt8):List UInt8:=l++fl ((EI l).toNat:Int)
theorem tV (base:Nat) (v:Value) (l:List UInt8) (w:World) (hown:fZ w base 5 v l) (hb:base<=w.heap.size) (hl:l.length<=1000000000):
  Calls prog 50 #[v] w fun e w'=> ∃A cap,e= .returned (.slice A (l.length+8) cap)/\fZ w' base 5 (.slice A (l.length+8) cap) (iZ l)/\Below base w w':=by
 obtain⟨A,cap,rfl⟩:=hown.form;have HO:=G hown;have HS:=G (Dq A cap l w hown.sl.2 (by omega));have HF:=G (show iZ l=l++fl ((EI l).toNat:Int)from rfl);have hh:=(EI l).toNat_lt;generalize iZ l=SL at*;generalize (EI l).toNat=N at*;clear hown;go_enter func50,ntmps50
 go_upto_region 3 with(go_at_call 104;refine HS.out.mono ?_;rintro e w1 ⟨rfl,hE⟩;have HO1:=G (HO.out.ext hE);have HB1:=G (show Below base w w1 from⟨hE.os,hE.tape,hE.output,hE.size,fun k hk=>hE.obj (aA hk hb)⟩);clear HS hE)
 have hb1:base<=w1.heap.size:=ax hb HB1.out.size
 go_loopw [0,7] (fun v i wr=> ∃(k:Nat) (L:List UInt8) (A:Option Addr) (cap:Nat),k<=8/\i= .int .i64 k/\v= .slice A L.length cap/\Below base w wr/\Hid (L=l++(fl (N:Int)).take k)/\Hid (fZ wr base 5 (.slice A L.length cap) L)) (fun _ i _=>8-(intOf i).toNat)
 case atStart=>exact⟨0,l,A,cap,by omega,rfl,rfl,HB1.out,G (by simp),HO1⟩
 case round=>
  obtain⟨k,L,A,cap,hk,rfl,rfl,hbl,HL,HW⟩:=hrel;have HB:=G hbl;have hbs:=hbl.size;clear hbl;by_cases hlt:k<8
  ·have HLL:=G (show L.length=l.length+k by rw[HL.out];simp[dA];omega);have hx:=nc (N:Int) k;have HT:=G (m_ (N:Int) hlt);generalize oL (N:Int) k=b at*;go_wp2_with (at_builtin;refine dZ bt rfl _ _ rfl base _ L rfl (HW.out.ext (aa wr _)) _ _ [b] rfl (nV wr 5 b) (by have:=HLL.out;simp;omega) (by simp;omega) ?_;intro A' cap' w' q1 q2 _;have HW':=G q1;have HB':=G (Below.grown (HB.out.alloc (ax hb hbs) _) q2 (by simp;omega) (fun j hj=>ji HW.out j hj));clear q1 q2);go_roundw
   case rel=>exact⟨k+1,L++[b],A',cap',by omega,by go_num,by simp,HB'.out,G (by rw[HL.out,HT.out,aJ]),G (by have:=HW'.out;simpa using this)⟩
   case measure=>simp[intOf];omega
  ·have hkk:k=8:=by omega
   have HE:=G (show L=SL by rw[HL.out,hkk,oE,HF.out]);have HLL:=G (show L.length=l.length+8 by rw[HE.out,HF.out];simp[dA]);go_wp2_with fail;go_ret;refine⟨A,cap,by rw[HLL.out];rfl,?_,HB.out⟩;have:=HW.out;rw[HE.out]at this;rw[<-HLL.out,HE.out];exact this
def Bt (f:kN):List UInt8×Int:=if fe f=true then(if 1536<(iZ (wm f)).length then([],6)else(iZ (wm f),0))else([],1)
theorem zc (f:kN) (A B:Option Addr) (c d:Nat) (w:World) (hF:FT w) (hS:Sl w A c f.code) (hS2:Sl w B d f.data) (hn:f.code.length<=100000000) (hm:f.data.length<=100000000):
  Calls prog 24 #[f.val A B c d] w fun e w'=>au w w'/\ ∃A2 n2 c2,e= .returned (.tuple #[.slice A2 n2 c2, .int .i64 (Bt f).2])/\(Bt f).1.length=n2/\Sl w' A2 c2 (Bt f).1:=by
 have HVd:=G (fun W (h:au w W)=>lx f A B c d W (hF.ext h) (hS.ext h) (by omega) (by omega));have HMk:=G (show Bt f=if fe f=true then(if 1536<(iZ (wm f)).length then([],6)else(iZ (wm f),0))else([],1)from rfl);have hX:=aa w (.cells #[.slice A f.code.length c, .slice B f.data.length d, .int .i64 f.zero, .int .i64 f.entry] 38);have HX:=G hX;have HB:=G (aw w 38 #[.slice A f.code.length c, .slice B f.data.length d, .int .i64 f.zero, .int .i64 f.entry]);have HSa:=G (hS.ext hX);have HSb:=G (hS2.ext hX);have HRw:=G (show wm f=[82,84,78,49]++eV f.entry++eV f.zero++eV f.code.length++f.code++eV f.data.length++f.data from rfl)
 have HV01:=G (show fe f=true->0<=f.entry/\0<=f.zero/\f.entry<=100000000/\f.zero<=3072 from fun h=>by
  unfold fe at h;simp only[ak,decide_eq_true_eq]at h
  omega)
 unfold kN.val at*;clear hF hS hS2 hX;go_enter func24,ntmps24
 go_upto_region 1 with fail
 generalize World.alloc w _=W0 at*;have c0:=HB.out.cell
 cases hv:fe f with
 |false=>
  rw[hv]at HVd HMk;rw[if_neg (by decide)]at HMk;clear hv;go_wp2_with (go_at_call 41;refine(HVd.out _ HX.out).mono ?_;rintro e w1 ⟨rfl,hE⟩;have HX1:=G (HX.out.trans hE);clear HVd hE c0);go_ret2;exact⟨HX1.out,none,0,0,by rw[HMk.out];rfl,by rw[HMk.out];rfl,by rw[HMk.out];exact d7 _⟩
 |true=>
  obtain⟨v0,v1,v2,v3⟩:=HV01.out hv;rw[hv]at HVd HMk;rw[if_pos rfl]at HMk;clear hv HV01
  go_upto_region 3 with(go_at_call 41;refine(HVd.out _ HX.out).mono ?_;rintro e w1 ⟨rfl,hE⟩;have HX1:=G (HX.out.trans hE);have HB1:=G (HB.out.ext hE);replace HSa:=G (HSa.out.ext hE);replace HSb:=G (HSb.out.ext hE);clear HVd hE c0 HX HB)
  generalize f.entry=E at*;generalize f.zero=Z at*;obtain⟨en,rfl⟩:=aR v0;obtain⟨ze,rfl⟩:=aR v1;clear v0 v1;have hD:au w1 w1.drew:=d9 (aG w1);have c2:=(HB1.out.ext hD).cell;have hM:=aa w1 (.cells #[.int .u8 82, .int .u8 84, .int .u8 78, .int .u8 49] 5 (4,5));have HM:=G (hM.trans (d9 (aG _)));have c3:=(HB1.out.ext hM).cell;have c1:=HB1.out.cell;have c5:=(HB1.out.ext (aa w1 (.cells #[.int .u8 82, .int .u8 84, .int .u8 78, .int .u8 49] 5))).cell;have kc:(convert 36 36 (.slice (some ⟨w1.heap.size,0,none⟩) 4 4)).run prog (w1.alloc (.cells #[.int .u8 82, .int .u8 84, .int .u8 78, .int .u8 49] 5)).drew= .ok (.slice (some ⟨w1.heap.size,0,none⟩) 4 4) (w1.alloc (.cells #[.int .u8 82, .int .u8 84, .int .u8 78, .int .u8 49] 5 (4,5))).drew:=Lib.run_convert_bytes_const w1.drew 36 5 _ 4 4 (by rfl) (by rfl)
  have HO:=G (show rq (w1.alloc (.cells #[.int .u8 82, .int .u8 84, .int .u8 78, .int .u8 49] 5 (4,5))).drew w1.heap.size 5 (.slice (some ⟨w1.heap.size,0,none⟩) 4 4) [82,84,78,49]from .inr ⟨w1.heap.size,rfl,by decide,by decide,by simp, .inr ⟨w1.heap.size,0,rfl,by simp,fun i hi=>by
   refine(World.cell?_alloc_mark w1 _ _ _ _).trans ?_
   match i,hi with
   |0,_=>rfl
   |1,_=>rfl
   |2,_=>rfl
   |3,_=>rfl⟩⟩)
  clear hD hM;have HL1:=G (show([82,84,78,49]++eV (en:Int)++eV (ze:Int):List UInt8).length<=30 by have:=kk en;have:=kk ze;simp;omega)
  go_cut [4]from 8 to 15 (fun s4 wx=> ∃A4 c4 n4,s4= .slice A4 n4 c4/\Hid (n4=([82,84,78,49]++eV (en:Int)++eV (ze:Int)).length)/\Hid (fZ wx w1.heap.size 5 (.slice A4 n4 c4) ([82,84,78,49]++eV (en:Int)++eV (ze:Int)))/\Hid (au w1 wx))
  case first=>
   go_region_law (first
    |(go_simp;go_at_call 49;refine(nJ w1.heap.size _ 4 _ [82,84,78,49] en _ HO.out HM.out.size (by decide) (by omega)).mono ?_;rintro e w2 ⟨A2,c2',rfl,hO,hBl⟩;have HO2:=G hO;have HM2:=G (show au w1 w2 from RowKit.Below.trans (HM.out:RowKit.Below w1.heap.size _ _) hBl);have c4:=(HB1.out.ext HM2.out).cell;clear HO HM hO hBl)
    |(go_simp;go_at_call 49;refine(nJ w1.heap.size _ _ _ _ ze _ (.inl HO2.out) HM2.out.size (by have:=kk en;simp;omega) (by omega)).mono ?_;rintro e w3 ⟨A3,c3',rfl,hO,hBl⟩;have HO3:=G hO;have HM3:=G (show au w1 w3 from RowKit.Below.trans (HM2.out:RowKit.Below w1.heap.size _ _) hBl);clear HO2 HM2 hO hBl))
   all_goals
    go_wp2_with fail;have h4:=HO3;have h5:=HM3;clear HO3 HM3 c1 c2 c3 c4 c5 kc
    go_meet
    case rel=>exact⟨_,_,_,rfl,G (by simp),G (by have:=h4.out;simpa using this),h5⟩
  case rest=>
  clear HM c1 c2 c3 c5 kc HO;obtain⟨A4,c4,n4,rfl,HN4,HO4,HM4⟩:=hcut;have hRaw:(([82,84,78,49]++eV (en:Int)++eV (ze:Int))++eV f.code.length++f.code)++eV f.data.length++f.data=wm f:=by rw[HRw.out]
  generalize ([82,84,78,49]++eV (en:Int)++eV (ze:Int):List UInt8)=L0 at*;have hD:=d9 (aG wc);have HOd:=G (HO4.out.ext hD);have HMd:=G (HM4.out.trans hD);have HSad:=G (HSa.out.ext HMd.out)
  have HBA:=G (show ∀b o,A=some ⟨b,o,none⟩->f.code≠ []->b<w1.heap.size from fun b o he hne=>by
   rcases HSa.out.rd with h0|⟨b',o',h1,h2,_⟩
   ·exact absurd h0 hne
   ·rw[he]at h1;injection h1 with h1;injection h1 with h1;omega)
  have HBB:=G (show ∀b o,B=some ⟨b,o,none⟩->f.data≠ []->b<w1.heap.size from fun b o he hne=>by
   rcases HSb.out.rd with h0|⟨b',o',h1,h2,_⟩
   ·exact absurd h0 hne
   ·rw[he]at h1;injection h1 with h1;injection h1 with h1;omega)
  have c1:=(HB1.out.ext HM4.out).cell;have hLc:=kk (f.code.length:Int);have hLd:=kk (f.data.length:Int);have hL0:=HL1.out;have HW1:=G (nK w1.heap.size A4 A n4 c4 f.code.length c L0 f.code wc.drew HOd.out HMd.out.size (by omega) HSad.out rfl (by omega) HBA.out);have HL2:=G (show(L0++eV f.code.length++f.code).length<=200000000 by simp;omega);have HL3:=G (show((L0++eV f.code.length++f.code)++eV f.data.length++f.data).length<=400000000 by simp;omega);generalize hR1:L0++eV f.code.length++f.code=R1 at*;have HR2:=G hRaw;generalize hR2:R1++eV f.data.length++f.data=R2 at*;clear hD HOd HSad hLc hLd hL0 HBA hR1 hRaw;replace hR2:=G hR2
  go_upto_region 4 with fail
  go_cut [4]from 16 to 23 (fun s4 wx=> ∃A4 c4 n4,s4= .slice A4 n4 c4/\Hid (n4=(iZ R2).length)/\Hid (fZ wx w1.heap.size 5 (.slice A4 n4 c4) (iZ R2))/\Hid (au w1 wx))
  case first=>
   go_region_law (first
    |(go_simp;go_at_call 51;refine HW1.out.mono ?_;rintro e w5 ⟨A5,c5',rfl,hO,hBl⟩;have HO5:=G hO;have HM5:=G (show au w1 w5 from RowKit.Below.trans (HMd.out:RowKit.Below w1.heap.size _ _) hBl);have c5:=(HB1.out.ext HM5.out).cell;clear HW1 hO hBl)
    |(go_simp;go_at_call 51;refine(nK w1.heap.size _ _ _ _ _ _ R1 f.data _ HO5.out HM5.out.size (by have:=HL2.out;omega) (HSb.out.ext HM5.out) rfl (by omega) HBB.out).mono ?_;rw[hR2.out];rintro e w6 ⟨A6,c6',rfl,hO,hBl⟩;have HO6:=G hO;have HM6:=G (show au w1 w6 from RowKit.Below.trans (HM5.out:RowKit.Below w1.heap.size _ _) hBl);have c6:=(HB1.out.ext HM6.out).cell;clear HO5 hO hBl)
    |(go_simp;go_at_call 50;refine(tV w1.heap.size _ R2 _ HO6.out HM6.out.size (by have:=HL3.out;omega)).mono ?_;rintro e w7 ⟨A7,c7',rfl,hO,hBl⟩;have HO7:=G hO;have HM7:=G (show au w1 w7 from RowKit.Below.trans (HM6.out:RowKit.Below w1.heap.size _ _) hBl);clear HO6 hO hBl))
   all_goals
    go_wp2_with fail;have h4:=HO7;have h5:=HM7;clear HO7 HM7 c1 c5 c6
    go_meet
    case rel=>exact⟨_,_,_,rfl,G (by simp[iZ,dA]),h4,h5⟩
  case rest=>
  clear HW1 c1 HM4 HO4 HMd;obtain⟨A7,c7,n7,rfl,HN7,HO7,HM7⟩:=hcut;have HF:=G (show Bt f=if 1536<n7 then([],6)else(iZ R2,0) by rw[HN7.out,HMk.out,HR2.out]);have HL:=G (show n7<=500000000 by rw[HN7.out];have:=HL3.out;simp[iZ,dA];omega);have hl7:=HL.out;by_cases hlt:1536<n7
  ·have hlt':(1536:Int)<(n7:Int):=by omega
   have HF':=G (show Bt f=([],6) by rw[HF.out,if_pos hlt]);clear HF hlt;go_wp2_with fail;go_ret2;exact⟨HX1.out.trans HM7.out,none,0,0,by rw[HF'.out];rfl,by rw[HF'.out];rfl,by rw[HF'.out];exact d7 _⟩
  ·have hlt': ¬(1536:Int)<(n7:Int):=by omega
   have HF':=G (show Bt f=(iZ R2,0) by rw[HF.out,if_neg hlt]);clear HF hlt;go_wp2_with fail;go_ret2;exact⟨HX1.out.trans HM7.out,A7,n7,c7,by rw[HF'.out];rfl,by rw[HF'.out];exact HN7.out.symm,by rw[HF'.out];exact HO7.out.sl.2⟩
end Go.Proofs.YtoedmpgicdekmaaGreatDoor
