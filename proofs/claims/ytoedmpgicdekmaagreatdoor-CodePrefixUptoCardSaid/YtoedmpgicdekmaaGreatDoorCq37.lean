/-
  Parts of the proof: CoF CoG CoH CoI CoJ CoK CoL.
-/
import Derived.Test.YtoedmpgicdekmaaGreatDoorCq00
import Derived.Deep.CutBlock
import Derived.Deep.RegionWith
import Derived.Test.YtoedmpgicdekmaaGreatDoorCq25
import Derived.Test.YtoedmpgicdekmaaGreatDoorCq36
import Derived.Test.YtoedmpgicdekmaaGreatDoorCq16
set_option maxRecDepth 100000
set_option maxHeartbeats 8000000
set_option linter.unusedVariables false
set_option linter.unusedSimpArgs false
set_option linter.unusedSectionVars false
namespace Go.Proofs.YtoedmpgicdekmaaGreatDoor
open Go.Proofs.Tryz
section
open Go.RowKit
mutual
def Eb:Ex->Bool
 | .mk k op nm tx v a=>
  decide (nm.length<=1000000000/\tx.length<=1000000000/\ -1099511627776<=v/\v<=1099511627776)&&
  (if k=4\/k=6 then decide (1<=a.length)&&Az a
   else if k=5 then(match fx nm with
    |some (c,ls)=>decide (a.length<=ls.length)&&Ec ls a
    |none=>Az a)
   else if k=7 then decide (2<=a.length)&&Az a else true)
def Az:List Ex->Bool
 | []=>true
 |y::r=>Eb y&&Az r
def Ec:List UInt8->List Ex->Bool
 | _,[]=>true
 |ls,y::r=>(if ls.headD 0=105 then Eb y else decide (y.nm.length<=1000000000/\y.tx.length<=1000000000))&&Ec ls.tail r
end
mutual
def pq:Ex->Nat
 | .mk k op nm tx v a=>1+oe a
def oe:List Ex->Nat
 | []=>0
 |y::r=>pq y+oe r
end
def jh (k:CC) (w:World):Prop:=BT w/\1<k.base/\ ∀nm,0<=aN k.sz nm/\aN k.sz nm<=1000000
theorem jh.ext {k:CC} {w w':World} (h:jh k w) (he:au w w'):jh k w':=⟨h.1.ext he,h.2⟩
theorem jh.st {k:CC} {at_:List (Nm×Int)} {O O':Nat->Prop} {w w':World} {s:CS} (h:jh k w) (m:CX k at_ O w s) (hS:dF O w O' w'):jh k w':=by
 obtain⟨⟨t,fr,h1⟩,h2⟩:=h;exact⟨⟨t,fr,(hS.1.block _ (Array.getElem?_eq_some_iff.1 h1).1 (m.low h2.1)).trans h1⟩,h2⟩
structure CQ (k:CC) (at_:List (Nm×Int)) (O0:Nat->Prop) (w0:World) (pb:Nat) (t:TypeId) (cs:Array Value) (O:Nat->Prop) (s:CS) (w:World):Prop where
 m:CX k at_ O w s
 T:dF O0 w0 O w
 x:LB O w pb t cs
 e:jh k w
section
variable {k:CC} {at_:List (Nm×Int)} {O0 O O':Nat->Prop} {w0 w w':World} {pb:Nat} {t:TypeId} {cs:Array Value} {s s':CS}
theorem CQ.nx (h:CQ k at_ O0 w0 pb t cs O s w) (m:CX k at_ O' w' s') (hS:dF O w O' w'):CQ k at_ O0 w0 pb t cs O' s' w':=⟨m,h.T.trans hS,h.x.st hS,h.e.st h.m hS⟩
theorem CQ.ext (h:CQ k at_ O0 w0 pb t cs O s w) (he:au w w'):CQ k at_ O0 w0 pb t cs O s w':=h.nx (h.m.ext he) (.of_ext he)
theorem CQ.new (m:CX k at_ O w s) (e:jh k w) (t:TypeId) (cs:Array Value):CQ k at_ O w w.heap.size t cs O s (w.alloc (.cells cs t)):=⟨m.ext (aa w _), .of_ext (aa w _), .new m t cs,e.ext (aa w _)⟩
theorem CQ.kp (h:CQ k at_ O0 w0 pb t cs O s w) (m0:CX k at_ O0 w0 s'):dm (fun b=>b<k.base) w0 w:=h.T.keepP m0
theorem CQ.cp (h:CQ k at_ O0 w0 pb t cs O s w):CP k at_ O0 w0 s w:=⟨O,h.m,h.T⟩
end
structure EC (w:World) (b o:Nat) (k:Int) (op nm tx:List UInt8) (v:Int) (B:Option Addr) (n d:Nat):Prop where
 c0:w.cell? ⟨b,o,none⟩=some (.int .i64 k)
 c1:w.cell? ⟨b,o+1,none⟩=some (.string (an op))
 c2:w.cell? ⟨b,o+2,none⟩=some (.string (an nm))
 c3:w.cell? ⟨b,o+3,none⟩=some (.string (an tx))
 c4:w.cell? ⟨b,o+4,none⟩=some (.int .i64 v)
 c5:w.cell? ⟨b,o+5,none⟩=some (.slice B n d)
theorem et.ec {w:World} {P:Nat->Prop} {A:Option Addr} {n c:Nat} {xs:List Ex} (h:et w P (.slice A n c) xs) (i:Nat) (hi:i<xs.length):
  ∃b o B d,A=some ⟨b,o,none⟩/\b<w.heap.size/\P b/\EC w b (o+i*6) xs[i].k xs[i].op xs[i].nm xs[i].tx xs[i].v B xs[i].args.length d/\et w P (.slice B xs[i].args.length d) xs[i].args:=by
 obtain⟨b,o,a,rfl,hb,hP,h0,h1,h2,h3,h4,h5,hR⟩:=h.at_ i hi;obtain⟨B,d,rfl,_⟩:=hR.form;exact⟨b,o,B,d,rfl,hb,hP,⟨h0,h1,h2,h3,h4,h5⟩,hR⟩
def CE (k:CC) (at_:List (Nm×Int)) (x:Ex):Prop:= ∀(O:Nat->Prop) (w:World) (s:CS) (r:Nat) (ri:Int) (A:Option Addr) (c:Nat),CX k at_ O w s->jh k w->et w (fun b=>b<k.base) (.slice A x.args.length c) x.args->
 Eb x=true->7<=r->r+pq x<=1000000000->ri=(r:Int)->(eJ (aN k.sz) x r s).big<=900000000->
 Calls prog 130 #[.pointer (some ⟨k.c,0,none⟩), .agg #[.int .i64 x.k, .string (an x.op), .string (an x.nm), .string (an x.tx), .int .i64 x.v, .slice A x.args.length c], .int .i64 ri] w fun e w'=>e= .returned (.tuple #[])/\CP k at_ O w (eJ (aN k.sz) x r s) w'
theorem jB: ∀{xs:List Ex} (i:Nat) (h:i<xs.length),Az xs=true->Eb xs[i]=true
 |x::r,0,h,hc=>by rw[Az,ak]at hc;exact hc.1
 |x::r,i+1,h,hc=>by rw[Az,ak]at hc;exact jB i (by simpa using h) hc.2
theorem r_ (x:Ex):1<=pq x:=by cases x;rw[pq];omega
theorem gC: ∀{xs:List Ex} (i:Nat) (h:i<xs.length),i+pq xs[i]<=oe xs
 |x::r,0,h=>by rw[oe];simp
 |x::r,i+1,h=>by rw[oe];have:=gC (xs:=r) i (by simpa using h);have:=r_ x;simp only[aL];omega
theorem ob: ∀(xs:List Ex),xs.length<=oe xs
 | []=>aC _
 |x::r=>by rw[oe,ae];have:=ob r;have:=r_ x;omega
theorem zN {sz:Nm->Int} {xs:List Ex} {j r:Nat} {s:CS} (h:j<xs.length):qZ sz (xs.drop j) r s=qZ sz (xs.drop (j+1)) (r+1) (eJ sz xs[j] r s):=by rw[am h,qZ]
theorem rM {o d i:Nat} {s:CS} (h:0<d):nQ o d i s=nQ o (d-1) (i+1) (s.op o i 15 (4+4*((i:Int)-7))):=by
 obtain⟨e,rfl⟩:=dC (Nat.pos_iff_ne_zero.1 h);rfl
theorem y7 {r d i:Nat} {s:CS} (h:0<d):si r d i s=si r (d-1) (i+1) (s.op 3 (1+i) (r+i) 0):=by
 obtain⟨e,rfl⟩:=dC (Nat.pos_iff_ne_zero.1 h);rfl
theorem xi (k:CC) (at_:List (Nm×Int)) (op nm tx:List UInt8) (v:Int) (xs:List Ex) (hIH: ∀y∈xs,CE k at_ y) (O:Nat->Prop) (w:World) (s:CS) (r:Nat) (A:Option Addr) (c:Nat) (m:CX k at_ O w s) (e:jh k w) (R:et w (fun b=>b<k.base) (.slice A xs.length c) xs)
  (hco:Az xs=true) (hr7:7<=r) (hr:r+oe xs+1<=1000000000) (hb:(jM nm xs.length r (qZ (aN k.sz) xs r s)).big<=900000000):
  Calls prog 182 #[.pointer (some ⟨k.c,0,none⟩), .agg #[.int .i64 5, .string (an op), .string (an nm), .string (an tx), .int .i64 v, .slice A xs.length c], .int .i64 (r:Int)] w fun e w'=>e= .returned (.tuple #[])/\CP k at_ O w (jM nm xs.length r (qZ (aN k.sz) xs r s)) w':=by
 have HM:=G m;have HR:=G R;have HCo:=G hco;have HI:=G hIH;have hnl:=ob xs;obtain⟨N,hN⟩: ∃N,xs.length=N:=⟨_,rfl⟩
 have HN:=G hN;obtain⟨SA,hSA⟩: ∃SA,qZ (aN k.sz) xs r s=SA:=⟨_,rfl⟩
 have HSA:=G hSA;rw[hSA,hN]at hb;rw[hN]at hnl;have HB:=G hb;have HBA:=G (show SA.big+(2*(r-7)+N+3)<=900000000 by rw[cW]at hb;exact hb);have HR7:=G hr7;have HRN:=G hr;have hrb:(r:Int)<=1000000000:=by omega
 have hNb:(N:Int)<=1000000000:=by omega
 rw[hSA,hN];have HQ0:=G (CQ.new m e 206 #[.int .i64 5, .string (an op), .string (an nm), .string (an tx), .int .i64 v, .slice A N c]);clear m e R hco hIH hb hSA hN hr7 hr hnl;go_enter func182,ntmps182
 go_upto_region 1 with fail
 have c0:=HQ0.out.x.1.cell;generalize World.alloc w _=W0 at*
 go_upto_region 2 with fail
 clear c0
 go_loopw [14] (fun vi wr=> ∃(j:Nat) (O1:Nat->Prop) (s1:CS),vi= .int .i64 (j:Int)/\j<=N/\Hid (CQ k at_ O w w.heap.size 206 #[.int .i64 5, .string (an op), .string (an nm), .string (an tx), .int .i64 v, .slice A N c] O1 s1 wr)/\Hid (qZ (aN k.sz) (xs.drop j) (r+j) s1=SA)) (fun vi _=>N-(intOf vi).toNat)
 case atStart=>exact⟨0,_,_,rfl,aC _,HQ0,HSA⟩
 case round=>
  obtain⟨j,O1,s1,rfl,hj,HQ1,HD1⟩:=hrel;clear HQ0;by_cases hlt:j<N
  ·have hlt':(j:Int)<(N:Int):=by omega
   have hjx:j<xs.length:=by rw[HN.out];exact hlt
   obtain⟨b,o,B,d,rfl,hbw,hPb,hY,hRy⟩:=HR.out.ec j hjx;have hkp:=HQ1.out.kp HM.out;obtain⟨e0,e1,e2,e3,e4,e5⟩:=hY;replace e0:=(hkp.cell _ hPb hbw).trans e0;replace e1:=(hkp.cell _ hPb hbw).trans e1;replace e2:=(hkp.cell _ hPb hbw).trans e2;replace e3:=(hkp.cell _ hPb hbw).trans e3;replace e4:=(hkp.cell _ hPb hbw).trans e4;replace e5:=(hkp.cell _ hPb hbw).trans e5;have HRy:=G (hRy.keep hkp (Q:=fun b=>b<k.base) (fun _ h _=>h));have HE:=G (HI.out _ (ap hjx));have HCy:=G (jB j hjx HCo.out);have hnd:=gC j hjx;have HD2:=G ((zN hjx).symm.trans HD1.out);have HMo:=G (uf (aN k.sz) (xs.drop (j+1)) (r+j+1) (eJ (aN k.sz) xs[j] (r+j) s1));generalize wr=w2 at*;unfold CE at HE;generalize xs[j]=y at*;have HND:=G hnd;clear hRy hkp hnd hjx
   go_upto_region 4 with fail
   generalize hW:World.alloc w2 _=W1;obtain⟨hE1,y0,_⟩:=jm hW;replace HQ1:=G (HQ1.out.ext hE1);replace HRy:=G (HRy.out.keep (.of_ext hE1) (Q:=fun b=>b<k.base) (fun _ h _=>h));clear hW hE1 e0 e1 e2 e3 e4 e5;have c0:=y0.out.cell
   go_upto_region 5 with(go_at_call 130;refine(HE.out _ _ _ (r+j) _ _ _ HQ1.out.m HQ1.out.e HRy.out HCy.out (by have:=HR7.out;omega) (by have:=HND.out;have:=HRN.out;omega) (by omega) (by have:=HMo.out;rw[HD2.out]at this;have:=HBA.out;omega)).mono ?_;rintro e w3 ⟨rfl,O3,m3,hS⟩;have HQ3:=G (HQ1.out.nx m3 hS);clear m3 hS HE HQ1 HRy c0)
   go_wp2_with fail;go_roundw
   case rel=>exact⟨j+1,_,_,by go_num,by omega,HQ3,HD2⟩
   case measure=>simp[intOf];omega
  ·have hjN:N=j:=by omega
   obtain rfl:=hjN;have hlt': ¬(N:Int)<(N:Int):=by omega
   have HS1:=G (show s1=SA by have:=HD1.out;rw[bJ (by rw[HN.out];exact ah _),qZ]at this;exact this);rw[HS1.out]at HQ1;clear HD1 HS1 hlt hj HCo HI HSA;generalize wr=wo at*
   go_upto_region 7 with fail
   clear hlt'
   go_loopw [8] (fun vi wr=> ∃(d:Nat) (O1:Nat->Prop) (s1:CS),vi= .int .i64 ((r:Int)-(d:Int))/\d<=r-7/\Hid (CQ k at_ O w w.heap.size 206 #[.int .i64 5, .string (an op), .string (an nm), .string (an tx), .int .i64 v, .slice A N c] O1 s1 wr)/\Hid (nQ 15 d (r-d) s1=nQ 15 (r-7) 7 SA)) (fun vi _=>r-(intOf vi).toNat)
   case atStart=>exact⟨r-7,_,_,by have:=HR7.out;rw[show((r:Int)-((r-7:Nat):Int))=7 by omega],ah _,HQ1,G (by have:=HR7.out;rw[show r-(r-7)=7 by omega])⟩
   case round=>
    obtain⟨d,O2,s2,rfl,hd,HQ2,HD2⟩:=hrel;clear HQ1;by_cases hd0:0<d
    ·have hlt':(r:Int)-(d:Int)<(r:Int):=by omega
     have hw1:IntKind.i64.wrap ((r:Int)-(d:Int)-7)=(r:Int)-(d:Int)-7:=by simp[IntKind.wrap,IntKind.signed,IntKind.bits];omega
     have hw2:IntKind.i64.wrap (4*((r:Int)-(d:Int)-7))=4*((r:Int)-(d:Int)-7):=by simp[IntKind.wrap,IntKind.signed,IntKind.bits];omega
     have hw3:IntKind.i64.wrap (4+4*((r:Int)-(d:Int)-7))=4+4*((r:Int)-(d:Int)-7):=by simp[IntKind.wrap,IntKind.signed,IntKind.bits];omega
     have hw4:IntKind.i64.wrap ((r:Int)-(d:Int)+1)=(r:Int)-(d:Int)+1:=by simp[IntKind.wrap,IntKind.signed,IntKind.bits];omega
     have HBd:=G (show s2.big<=900000000 by have h1:=congrArg CS.big HD2.out;rw[cZ,cZ]at h1;have:=HBA.out;omega);have HD3:=G ((rM hd0).symm.trans HD2.out);generalize wr=w2 at*;go_wp2_with (go_at_call 70;refine(fp HQ2.out.m 15 _ _ _ _ rfl (aT (ax HBd.out (by decide)))).mono ?_;rintro e w3 ⟨rfl,O3,m3,hS⟩;have HQ3:=G (HQ2.out.nx m3 hS);clear m3 hS HQ2);go_roundw
     case rel=>exact⟨d-1,_,_,by rw[show((r:Int)-((d-1:Nat):Int))=(r:Int)-(d:Int)+1 by omega],by omega,HQ3,G (by have:=HD3.out;rw[show((r-d:Nat):Int)=(r:Int)-(d:Int) by omega]at this;rw[show r-(d-1)=r-d+1 by omega];exact this)⟩
     case measure=>simp[intOf];omega
    ·obtain rfl:d=0:=by omega
     have HSv:=G (show s2=nQ 15 (r-7) 7 SA from HD2.out);rw[HSv.out]at HQ2;have HBv:=G (show(nQ 15 (r-7) 7 SA).big+((r-7)+N+3)<=900000000 by have:=HBA.out;rw[cZ];omega);have HFv:=G (show jM nm N r SA=(nQ 14 (r-7) 7 ((si r N 0 (nQ 15 (r-7) 7 SA)).call nm)).op 3 r 1 0 from rfl);generalize nQ 15 (r-7) 7 SA=SV at*;have hlt': ¬(r:Int)-((0:Nat):Int)<(r:Int):=by omega
     clear hd0 hd HD2 HSv HB HBA;generalize wr=wo2 at*;have c0:=HQ2.out.x.1.cell
     go_upto_region 11 with fail
     clear hlt' c0
     go_loopw [41] (fun vi wr=> ∃(j:Nat) (O1:Nat->Prop) (s1:CS),vi= .int .i64 (j:Int)/\j<=N/\Hid (CQ k at_ O w w.heap.size 206 #[.int .i64 5, .string (an op), .string (an nm), .string (an tx), .int .i64 v, .slice A N c] O1 s1 wr)/\Hid (si r (N-j) j s1=si r N 0 SV)) (fun vi _=>N-(intOf vi).toNat)
     case atStart=>exact⟨0,_,_,rfl,aC _,HQ2,G rfl⟩
     case round=>
      obtain⟨j,O3,s3,rfl,hj,HQ3,HD3⟩:=hrel;clear HQ2;by_cases hlt:j<N
      ·have hlt':(j:Int)<(N:Int):=by omega
       have HBd:=G (show s3.big<=900000000 by have h1:=congrArg CS.big HD3.out;rw[dB,dB]at h1;have:=HBv.out;omega);have HD4:=G ((y7 (show 0<N-j by omega)).symm.trans HD3.out);generalize wr=w2 at*;go_wp2_with (go_at_call 132;refine(l6 HQ3.out.m _ _ (ax HBd.out (by decide))).mono ?_;rintro e w3 ⟨rfl,O4,m4,hS⟩;have HQ4:=G (HQ3.out.nx m4 hS);clear m4 hS HQ3);go_roundw
       case rel=>exact⟨j+1,_,_,by go_num,by omega,HQ4,G (by rw[show N-(j+1)=N-j-1 by omega];exact HD4.out)⟩
       case measure=>simp[intOf];omega
      ·have hjN:N=j:=by omega
       obtain rfl:=hjN;have hlt': ¬(N:Int)<(N:Int):=by omega
       have HSv:=G (show s3=si r N 0 SV by have:=HD3.out;rw[ly,si]at this;exact this);rw[HSv.out]at HQ3;have HBm:=G (show(si r N 0 SV).big+((r-7)+3)<=900000000 by have:=HBv.out;rw[dB];omega);generalize si r N 0 SV=SM at*;clear hlt hj HD3 HSv HBv;generalize wr=wo3 at*;have c0:=HQ3.out.x.1.cell
       go_upto_region 15 with fail
       clear hlt' c0
       go_cut []from 52 to 65 (fun wx=> ∃O4,Hid (CQ k at_ O w w.heap.size 206 #[.int .i64 5, .string (an op), .string (an nm), .string (an tx), .int .i64 v, .slice A N c] O4 (SM.call nm) wx))
       case first=>
        have hD:au wo3 wo3.drew:=d9 (aG wo3);replace HQ3:=G (HQ3.out.ext hD);obtain⟨vc,vt,vl,vd,vs,h,hO⟩:=HQ3.out.m;have hcd:=aT (show SM.big<=900000000 by have:=HBm.out;omega);have hca:=oq (show SM.big<=900000000 by have:=HBm.out;omega);have HV:=G (sP h 20 20 14 0 rfl (by omega));have c0:=h.blk.cell;have x0:=HQ3.out.x.1.cell;clear h hD
        go_region_law (first
         |(refine ky Fs rfl _ _ rfl k.base _ SM.calls.length (eU SM.calls) rfl (HC.out.calls.alloc _) w1.heap.size (lM (SM.code.length,nm)) rfl (aw w1 _ _) rfl (lL _) (by omega) (by decide) (by rw[World.size_alloc];have:=(eE HC.out).1;omega) ?_;intro A cap w2 hn hg hA;obtain⟨hb1,hp⟩:=HC.out.callm (n:=SM.calls.length) (fun b=>f9) (aa w1 _) (SM.code.length,nm) rfl hn hg hA;clear c0 c0a x0 x0a;have c0:=hb1.cell;have f0:=hb1.frozen;have HP:=G hp;clear hn hg hA hb1 hp HC)
         |(go_simp;go_at_call 69;refine HV.out.mono ?_;rintro e w1 ⟨rfl,hv⟩;obtain⟨vc1,h1,hS⟩:=hv.own hO;have HQ4:=G (HQ3.out.nx ⟨_,_,_,_,_,h1,fun b=>f9⟩ hS);have HC:=G h1;clear c0 x0;have c0:=h1.blk.cell;have c0a:=(h1.blk.alloc (.cells #[.int .i64 (SM.code.length:Int), .string (an nm)] 155)).cell;have x0:=HQ4.out.x.1.cell;have x0a:=(HQ4.out.x.1.alloc (.cells #[.int .i64 (SM.code.length:Int), .string (an nm)] 155)).cell;clear h1 HV hS hv HQ3))
        all_goals
         clear c0 f0;go_wp2_with fail;obtain⟨O5,h5,hS5⟩:=HP.out;have HQ5:=G (HQ4.out.nx h5 hS5);clear HP h5 hS5 HQ4
         go_meet
         case rel=>exact⟨_,HQ5⟩
       case rest=>
        obtain⟨O4,HQ4⟩:=hcut;clear HQ3;have HBc:=G (show(SM.call nm).big+((r-7)+1)<=900000000 by have:=HBm.out;rw[b6];omega);generalize SM.call nm=SC at*;clear HBm
        go_upto_region 17 with fail
        go_loopw [10] (fun vi wr=> ∃(d:Nat) (O1:Nat->Prop) (s1:CS),vi= .int .i64 ((r:Int)-(d:Int))/\d<=r-7/\Hid (CQ k at_ O w w.heap.size 206 #[.int .i64 5, .string (an op), .string (an nm), .string (an tx), .int .i64 v, .slice A N c] O1 s1 wr)/\Hid (nQ 14 d (r-d) s1=nQ 14 (r-7) 7 SC)) (fun vi _=>r-(intOf vi).toNat)
        case atStart=>exact⟨r-7,_,_,by have:=HR7.out;rw[show((r:Int)-((r-7:Nat):Int))=7 by omega],ah _,HQ4,G (by have:=HR7.out;rw[show r-(r-7)=7 by omega])⟩
        case round=>
         obtain⟨d,O2,s2,rfl,hd,HQ2,HD2⟩:=hrel;clear HQ4;by_cases hd0:0<d
         ·have hlt':(r:Int)-(d:Int)<(r:Int):=by omega
          have hw1:IntKind.i64.wrap ((r:Int)-(d:Int)-7)=(r:Int)-(d:Int)-7:=by simp[IntKind.wrap,IntKind.signed,IntKind.bits];omega
          have hw2:IntKind.i64.wrap (4*((r:Int)-(d:Int)-7))=4*((r:Int)-(d:Int)-7):=by simp[IntKind.wrap,IntKind.signed,IntKind.bits];omega
          have hw3:IntKind.i64.wrap (4+4*((r:Int)-(d:Int)-7))=4+4*((r:Int)-(d:Int)-7):=by simp[IntKind.wrap,IntKind.signed,IntKind.bits];omega
          have hw4:IntKind.i64.wrap ((r:Int)-(d:Int)+1)=(r:Int)-(d:Int)+1:=by simp[IntKind.wrap,IntKind.signed,IntKind.bits];omega
          have HBd:=G (show s2.big<=900000000 by have h1:=congrArg CS.big HD2.out;rw[cZ,cZ]at h1;have:=HBc.out;omega);have HD3:=G ((rM hd0).symm.trans HD2.out);generalize wr=w2 at*;go_wp2_with (go_at_call 70;refine(fp HQ2.out.m 14 _ _ _ _ rfl (aT (ax HBd.out (by decide)))).mono ?_;rintro e w3 ⟨rfl,O3,m3,hS⟩;have HQ3:=G (HQ2.out.nx m3 hS);clear m3 hS HQ2);go_roundw
          case rel=>exact⟨d-1,_,_,by rw[show((r:Int)-((d-1:Nat):Int))=(r:Int)-(d:Int)+1 by omega],by omega,HQ3,G (by have:=HD3.out;rw[show((r-d:Nat):Int)=(r:Int)-(d:Int) by omega]at this;rw[show r-(d-1)=r-d+1 by omega];exact this)⟩
          case measure=>simp[intOf];omega
         ·obtain rfl:d=0:=by omega
          have HSv:=G (show s2=nQ 14 (r-7) 7 SC from HD2.out);rw[HSv.out]at HQ2;have HBv:=G (show(nQ 14 (r-7) 7 SC).big<=900000000 by have:=HBc.out;rw[cZ];omega);generalize nQ 14 (r-7) 7 SC=SV2 at*;have hlt': ¬(r:Int)-((0:Nat):Int)<(r:Int):=by omega
          clear hd0 hd HD2 HSv HBc;generalize wr=wo4 at*;go_wp2_with (go_at_call 132;refine(l6 HQ2.out.m _ _ (ax HBv.out (by decide))).mono ?_;rintro e w3 ⟨rfl,O4,m4,hS⟩;have HQ5:=G (HQ2.out.nx m4 hS);clear m4 hS HQ2);exact bodyPost_end (results_none rfl _ _ _) rfl ⟨rfl,by rw[HFv.out];exact HQ5.out.cp⟩
end
section
open Go.RowKit
theorem ur: ∀{ls:List UInt8} {xs:List Ex} (i:Nat) (h:i<xs.length) (hl:i<ls.length),Ec ls xs=true->(if ls[i]=105 then Eb xs[i]else decide (xs[i].nm.length<=1000000000/\xs[i].tx.length<=1000000000))=true
 |l::ls,x::r,0,h,hl,hc=>by rw[Ec,ak]at hc;exact hc.1
 |l::ls,x::r,i+1,h,hl,hc=>by rw[Ec,ak]at hc;exact ur (ls:=ls) i (by simpa using h) (by simpa using hl) hc.2
theorem lw {ls:List UInt8} {j:Nat} (h:j<ls.length):(ls.drop j).headD 0=ls[j]:=by rw[am h,List.headD_cons]
theorem zM {sz:Nm->Int} {ls:List UInt8} {xs:List Ex} {j r:Nat} {s:CS} (h:j<xs.length) (hl:j<ls.length):oH sz (ls.drop j) (xs.drop j) r s=if ls[j]=105 then oH sz (ls.drop (j+1)) (xs.drop (j+1)) (r+1) (eJ sz xs[j] r s)else oH sz (ls.drop (j+1)) (xs.drop (j+1)) r s:=by
 rw[am h,oH,lw hl,jZ]
theorem Ak {ls:List UInt8} {xs:List Ex} {j:Nat} (h:j<xs.length) (hl:j<ls.length):tu (ls.drop j) (xs.drop j)=if ls[j]=105 then tu (ls.drop (j+1)) (xs.drop (j+1))+1 else tu (ls.drop (j+1)) (xs.drop (j+1)):=by
 rw[am h,tu,lw hl,jZ]
theorem Aj {sz:Nm->Int} {ls:List UInt8} {xs:List Ex} {j:Nat} {lim:Int} {s:CS} (h:j<xs.length) (hl:j<ls.length):mL sz (ls.drop j) (xs.drop j) lim s=if ls[j]=105 then mL sz (ls.drop (j+1)) (xs.drop (j+1)) lim s else if xs[j].k=2 then mL sz (ls.drop (j+1)) (xs.drop (j+1)) xs[j].tx.length ((s.text 5 xs[j].tx).st 6 xs[j].tx.length)else mL sz (ls.drop (j+1)) (xs.drop (j+1)) (sz xs[j].nm) (s.dat 5 xs[j].nm):=by
 rw[am h,mL,lw hl,jZ]
theorem Ca {sz:Nm->Int} (ls:List UInt8) (lim:Int) (s:CS):mL sz ls [] lim s=(lim,s):=by cases ls<;>rfl
theorem BV {sz:Nm->Int} (ls:List UInt8) (r:Nat) (s:CS):oH sz ls [] r s=s:=by cases ls<;>rfl
theorem Cc (ls:List UInt8):tu ls []=0:=by cases ls<;>rfl
def vC (c:Int) (n r:Nat):Nat->CS->CS
 |0,s=>s
 |j+1,s=>xB c n r j (vC c n r j s)
theorem l8 (c:Int) (n r:Nat): ∀(j:Nat) (s:CS),(vC c n r j s).big=s.big+j
 |0,s=>rfl
 |j+1,s=>by rw[vC,ea,l8 c n r j];omega
def FC (c:Int):Bool:=decide (c=9\/c=10)
theorem Al (sz:Nm->Int) (c:Int) (ls:List UInt8) (a:List Ex) (r:Nat) (s:CS) (N:Nat) (hN:tu ls a=N) (lim:Int) (s2:CS) (h2:mL sz ls a 0 s=(lim,s2)) (SZ:Bool) (hS:FC c=SZ):
  iq sz c ls a r s=((((if SZ=true then(vC c N r 3 (if SZ=true then s2.chk ((r:Int)+N-1) (min lim 128)else s2)).op 3 6 ((r:Int)+N-1) 0 else vC c N r 3 (if SZ=true then s2.chk ((r:Int)+N-1) (min lim 128)else s2))).vl 1 1 c).op 22 0 0 0).op 3 r 1 0:=by
 subst hN hS;unfold iq FC;rw[h2];by_cases h:c=9\/c=10
 ·simp only[h,if_true,decide_true,vC]
 ·simp only[h,if_false,decide_false,vC];rfl
theorem B7 (k:CC) (at_:List (Nm×Int)) (op nm tx:List UInt8) (v:Int) (xs:List Ex) (hIH: ∀y∈xs,CE k at_ y) (O:Nat->Prop) (w:World) (s:CS) (r:Nat) (A:Option Addr) (c:Nat) (cc:Int) (ls:List UInt8) (m:CX k at_ O w s) (e:jh k w) (R:et w (fun b=>b<k.base) (.slice A xs.length c) xs)
  (hl:xs.length<=ls.length) (hll:ls.length<=10) (hcc:0<=cc/\cc<=100) (hco:Ec ls xs=true) (hr7:7<=r) (hr:r+oe xs+1<=1000000000) (hb:(iq (aN k.sz) cc ls xs r (oH (aN k.sz) ls xs r s)).big<=900000000):
  Calls prog 181 #[.pointer (some ⟨k.c,0,none⟩), .agg #[.int .i64 5, .string (an op), .string (an nm), .string (an tx), .int .i64 v, .slice A xs.length c], .int .i64 (r:Int), .int .i64 cc, .string (an ls)] w fun e w'=>e= .returned (.tuple #[])/\CP k at_ O w (iq (aN k.sz) cc ls xs r (oH (aN k.sz) ls xs r s)) w':=by
 have HM:=G m;have HR:=G R;have HCo:=G hco;have HI:=G hIH;have hnl:=ob xs;have HL:=G hl;have HLL:=G hll;obtain⟨N,hN⟩: ∃N,xs.length=N:=⟨_,rfl⟩
 have HN:=G hN;obtain⟨SB,hSB⟩: ∃SB,oH (aN k.sz) ls xs r s=SB:=⟨_,rfl⟩
 have HSB:=G hSB;obtain⟨NB,hNB⟩: ∃NB,tu ls xs=NB:=⟨_,rfl⟩
 have HNB:=G (show 0+tu (ls.drop 0) (xs.drop 0)=NB by rw[be];exact hNB);obtain⟨lim,s2,h2⟩: ∃lim s2,mL (aN k.sz) ls xs 0 SB=(lim,s2):=⟨_,_,rfl⟩
 have H2:=G h2;obtain⟨SZ,hSZ⟩: ∃SZ,FC cc=SZ:=⟨_,rfl⟩
 have HSZ:=G hSZ;rw[hSB]at hb;rw[hN]at hnl;rw[hSB,hN];have HF:=G (Al (aN k.sz) cc ls xs r SB NB hNB lim s2 h2 SZ hSZ);have HBF:=G (show(iq (aN k.sz) cc ls xs r SB).big<=900000000 from hb);have HB:=G (show s2.big+6<=900000000 by have:=mK (aN k.sz) cc ls xs r SB;rw[h2]at this;simp only at this;omega);have HBS:=G (show SB.big<=900000000 by have h1:=kL (aN k.sz) ls xs 0 SB;have:=mK (aN k.sz) cc ls xs r SB;omega);have HR7:=G hr7;have HRN:=G hr;have hrb:(r:Int)<=1000000000:=by omega
 have hNb:(N:Int)<=10:=by omega
 obtain⟨hc0,hc1⟩:=hcc;have HQ0:=G (CQ.new m e 206 #[.int .i64 5, .string (an op), .string (an nm), .string (an tx), .int .i64 v, .slice A N c]);clear m e R hco hIH hb hSB hN hr7 hr hnl hl hll h2 hNB hSZ;go_enter func181,ntmps181
 go_upto_region 1 with fail
 have c0:=HQ0.out.x.1.cell;generalize World.alloc w _=W0 at*
 go_upto_region 3 with fail
 clear c0
 go_loopw [10,21] (fun v10 vi wr=> ∃(j q:Nat) (O1:Nat->Prop) (s1:CS),vi= .int .i64 (j:Int)/\v10= .int .i64 (q:Int)/\j<=N/\q<=j/\Hid (CQ k at_ O w w.heap.size 206 #[.int .i64 5, .string (an op), .string (an nm), .string (an tx), .int .i64 v, .slice A N c] O1 s1 wr)/\Hid (oH (aN k.sz) (ls.drop j) (xs.drop j) (r+q) s1=SB)/\Hid (q+tu (ls.drop j) (xs.drop j)=NB)) (fun _ vi _=>N-(intOf vi).toNat)
 case atStart=>exact⟨0,0,_,_,rfl,rfl,aC _,ah _,HQ0,HSB,HNB⟩
 case round=>
  obtain⟨j,q,O1,s1,rfl,rfl,hj,hq,HQ1,HD1,HN1⟩:=hrel;clear HQ0 HSB HNB;by_cases hlt:j<N
  ·have hlt':(j:Int)<(N:Int):=by omega
   have hjx:j<xs.length:=by rw[HN.out];exact hlt
   have hjl:j<ls.length:=by have:=HL.out;omega
   obtain⟨b,o,B,d,rfl,hbw,hPb,hY,hRy⟩:=HR.out.ec j hjx;have hkp:=HQ1.out.kp HM.out;obtain⟨e0,e1,e2,e3,e4,e5⟩:=hY;replace e0:=(hkp.cell _ hPb hbw).trans e0;replace e1:=(hkp.cell _ hPb hbw).trans e1;replace e2:=(hkp.cell _ hPb hbw).trans e2;replace e3:=(hkp.cell _ hPb hbw).trans e3;replace e4:=(hkp.cell _ hPb hbw).trans e4;replace e5:=(hkp.cell _ hPb hbw).trans e5;have HRy:=G (hRy.keep hkp (Q:=fun b=>b<k.base) (fun _ h _=>h));have HE:=G (HI.out _ (ap hjx));have HCy:=G (ur j hjx hjl HCo.out);have hnd:=gC j hjx;have HD2:=G ((zM hjx hjl).symm.trans HD1.out);have HN2:=G (show q+_=NB from(by rw[<-Ak hjx hjl];exact HN1.out:q+(if ls[j]=105 then tu (ls.drop (j+1)) (xs.drop (j+1))+1 else tu (ls.drop (j+1)) (xs.drop (j+1)))=NB));have HMo:=G (qK (aN k.sz) (ls.drop (j+1)) (xs.drop (j+1)) (r+q+1) (eJ (aN k.sz) xs[j] (r+q) s1));have hix:=fun w=>kv ls j hjl w;generalize wr=w2 at*;unfold CE at HE;generalize xs[j]=y at*;have HND:=G hnd;clear hRy hkp hnd hjx HD1 HN1;by_cases h105:ls[j]=105
   ·rw[if_pos h105]at HCy HD2 HN2;rw[h105]at hix;replace hix: ∀w,(Instr.index 9 (.string (an ls)) (.int .i64 (j:Int))).run prog w= .ok (.int .u8 105) w:=hix;clear h105
    go_upto_region 5 with fail
    generalize hW:World.alloc w2 _=W1;obtain⟨hE1,y0,_⟩:=jm hW;replace HQ1:=G (HQ1.out.ext hE1);replace HRy:=G (HRy.out.keep (.of_ext hE1) (Q:=fun b=>b<k.base) (fun _ h _=>h));clear hW hE1 e0 e1 e2 e3 e4 e5;have c0:=y0.out.cell;go_wp2_with (go_at_call 130;refine(HE.out _ _ _ (r+q) _ _ _ HQ1.out.m HQ1.out.e HRy.out HCy.out (by have:=HR7.out;omega) (by have:=HND.out;have:=HRN.out;omega) (by omega) (by have:=HMo.out;rw[HD2.out]at this;have:=HBS.out;omega)).mono ?_;rintro e w3 ⟨rfl,O3,m3,hS⟩;have HQ3:=G (HQ1.out.nx m3 hS);clear m3 hS HE HQ1 HRy c0);go_roundw
    case rel=>exact⟨j+1,q+1,_,_,by go_num,by go_num,by omega,by omega,HQ3,HD2,G (by have:=HN2.out;omega)⟩
    case measure=>simp[intOf];omega
   ·rw[if_neg h105]at HD2 HN2;have hne:((ls[j].toNat:Int)==105)=false:=beq_eq_false_iff_ne.2 fun e=>h105 (UInt8.toNat_inj.1 (by show _=105;omega));generalize ls[j]=lj at*;clear h105
    go_upto_region 5 with fail
    generalize hW:World.alloc w2 _=W1;obtain⟨hE1,y0,_⟩:=jm hW;replace HQ1:=G (HQ1.out.ext hE1);clear hW hE1 e0 e1 e2 e3 e4 e5 y0 HE;go_wp2_with fail;go_roundw
    case rel=>exact⟨j+1,q,_,_,by go_num,rfl,by omega,by omega,HQ1,HD2,HN2⟩
    case measure=>simp[intOf];omega
  ·have hjN:N=j:=by omega
   obtain rfl:=hjN;have hlt': ¬(N:Int)<(N:Int):=by omega
   have HS1:=G (show s1=SB by have:=HD1.out;rw[bJ (show xs.length<=N from eh HN.out),BV]at this;exact this);have hqn:NB=q:=by have:=HN1.out;rw[bJ (show xs.length<=N from eh HN.out),Cc]at this;omega
   obtain rfl:=hqn;rw[HS1.out]at HQ1;clear HD1 HS1 hlt hj HI HN1;generalize wr=wo at*
   go_upto_region 9 with fail
   clear hlt'
   go_cut [14]from 39 to 44 (fun s14 wx=>s14= .bool SZ/\wx=wo)
   case first=>
    by_cases h9:cc=9
    ·subst h9;have hS:SZ=true:=HSZ.out.symm.trans rfl;subst hS;go_wp2_with fail
     go_meet
     case rel=>exact⟨rfl,rfl⟩
    ·have n9:(cc==9)=false:=beq_eq_false_iff_ne.2 h9;by_cases h10:cc=10
     ·subst h10;have hS:SZ=true:=HSZ.out.symm.trans rfl;subst hS;go_wp2_with fail
      go_meet
      case rel=>exact⟨rfl,rfl⟩
     ·have n10:(cc==10)=false:=beq_eq_false_iff_ne.2 h10;have hS:SZ=false:=HSZ.out.symm.trans (decide_eq_false (by omega));subst hS;go_wp2_with fail
      go_meet
      case rel=>exact⟨rfl,rfl⟩
   case rest=>
   obtain⟨rfl,rfl⟩:=hcut;have c0:=HQ1.out.x.1.cell
   go_upto_region 11 with fail
   clear c0;have HB0:=G (show(mL (aN k.sz) (ls.drop 0) (xs.drop 0) 0 SB)=(lim,s2)from H2.out)
   go_loopw [11,48] (fun v11 vi wr=> ∃(j:Nat) (l1:Int) (O1:Nat->Prop) (s1:CS),vi= .int .i64 (j:Int)/\v11= .int .i64 l1/\j<=N/\(0<=l1/\l1<=1000000000)/\Hid (CQ k at_ O w w.heap.size 206 #[.int .i64 5, .string (an op), .string (an nm), .string (an tx), .int .i64 v, .slice A N c] O1 s1 wr)/\Hid (mL (aN k.sz) (ls.drop j) (xs.drop j) l1 s1=(lim,s2))) (fun _ vi _=>N-(intOf vi).toNat)
   case atStart=>exact⟨0,0,_,_,rfl,rfl,aC _,⟨by decide,by decide⟩,HQ1,HB0⟩
   case round=>
    obtain⟨j,l1,O2,s1,rfl,rfl,hj,⟨hl1,hl2⟩,HQ2,HD1⟩:=hrel;clear HQ1 HB0;by_cases hlt:j<N
    ·have hlt':(j:Int)<(N:Int):=by omega
     have hjx:j<xs.length:=by rw[HN.out];exact hlt
     have hjl:j<ls.length:=by have:=HL.out;omega
     obtain⟨b,o,B,d,rfl,hbw,hPb,hY,hRy⟩:=HR.out.ec j hjx;have hkp:=HQ2.out.kp HM.out;obtain⟨e0,e1,e2,e3,e4,e5⟩:=hY;replace e0:=(hkp.cell _ hPb hbw).trans e0;replace e1:=(hkp.cell _ hPb hbw).trans e1;replace e2:=(hkp.cell _ hPb hbw).trans e2;replace e3:=(hkp.cell _ hPb hbw).trans e3;replace e4:=(hkp.cell _ hPb hbw).trans e4;replace e5:=(hkp.cell _ hPb hbw).trans e5;have HCy:=G (ur j hjx hjl HCo.out);have HD2:=G ((Aj hjx hjl).symm.trans HD1.out);have HMo:=G (fun(l:Int) (z:CS) (h:mL (aN k.sz) (ls.drop (j+1)) (xs.drop (j+1)) l z=(lim,s2))=>show z.big+6<=900000000 by have:=kL (aN k.sz) (ls.drop (j+1)) (xs.drop (j+1)) l z;rw[h]at this;have:=HB.out;simp only at*;omega);have hix:=fun w=>kv ls j hjl w;generalize wr=w2 at*;generalize xs[j]=y at*;clear hRy hkp hjx HD1;by_cases h105:ls[j]=105
     ·rw[if_pos h105]at HD2;rw[h105]at hix;replace hix: ∀w,(Instr.index 9 (.string (an ls)) (.int .i64 (j:Int))).run prog w= .ok (.int .u8 105) w:=hix;clear h105
      go_upto_region 15 with fail
      generalize hW:World.alloc w2 _=W1;obtain⟨hE1,y0,_⟩:=jm hW;replace HQ2:=G (HQ2.out.ext hE1);clear hW hE1 e0 e1 e2 e3 e4 e5;go_wp2_with fail;go_roundw
      case rel=>exact⟨j+1,l1,_,_,by go_num,rfl,by omega,⟨hl1,hl2⟩,HQ2,HD2⟩
      case measure=>simp[intOf];omega
     ·rw[if_neg h105]at HD2 HCy;obtain⟨hyn,hyt⟩:=of_decide_eq_true HCy.out;have hne:((ls[j].toNat:Int)==105)=false:=beq_eq_false_iff_ne.2 fun e=>h105 (UInt8.toNat_inj.1 (by show _=105;omega));generalize ls[j]=lj at*;clear h105
      go_upto_region 15 with fail
      generalize hW:World.alloc w2 _=W1;obtain⟨hE1,y0,_⟩:=jm hW;replace y0:=G (show LB O2 W1 w2.heap.size 206 _ from⟨y0.out,HQ2.out.m.new (ah _)⟩);replace HQ2:=G (HQ2.out.ext hE1);clear hW hE1 e0 e1 e2 e3 e4 e5;have c0:=y0.out.1.cell;by_cases hk2:y.k=2
      ·rw[if_pos hk2]at HD2;have hk2':(y.k==2)=true:=beq_iff_eq.2 hk2;have hbd:=HMo.out _ _ HD2.out;have hsz:(an y.tx).size=y.tx.length:=aU _;have hst:=iS (s1.text 5 y.tx) 6 y.tx.length;have HBt:=G (show(s1.text 5 y.tx).big<=900000000 by omega);clear hk2 hbd hst HMo
       go_upto_region 18 with(go_at_call 219;refine(Gj HQ2.out.m 5 y.tx (ax HBt.out (by decide))).mono ?_;rintro e w3 ⟨rfl,O3,m3,hS⟩;have HQ3:=G (HQ2.out.nx m3 hS);replace y0:=G (y0.out.st hS);clear c0;have c0:=y0.out.1.cell;clear m3 hS HQ2)
       go_upto_region 19 with(go_at_call 179;refine(DJ HQ3.out.m 6 y.tx.length (by omega) (ax HBt.out (by decide))).mono ?_;rintro e w4 ⟨rfl,O4,m4,hS⟩;have HQ4:=G (HQ3.out.nx m4 hS);replace y0:=G (y0.out.st hS);clear c0;have c0:=y0.out.1.cell;clear m4 hS HQ3)
       go_wp2_with fail;go_roundw
       case rel=>exact⟨j+1,(y.tx.length:Int),_,_,by go_num,rfl,by omega,⟨by omega,by omega⟩,HQ4,HD2⟩
       case measure=>simp[intOf];omega
      ·rw[if_neg hk2]at HD2;have hk2':(y.k==2)=false:=beq_eq_false_iff_ne.2 hk2;have hbd:=HMo.out _ _ HD2.out;rw[cC]at hbd;have HBt:=G (show s1.big<=900000000 by omega);clear hk2 hbd HMo
       go_upto_region 14 with(go_at_call 185;refine(B6 HQ2.out.m 5 y.nm (ax HBt.out (by decide))).mono ?_;rintro e w3 ⟨rfl,O3,m3,hS⟩;have HQ3:=G (HQ2.out.nx m3 hS);replace y0:=G (y0.out.st hS);clear c0 m3 hS HQ2)
       obtain⟨hz1,hz2⟩:=HQ3.out.e.2.2 y.nm;refine ay 8 1 [] mixed (by kernel_rfl) trivial ?_;repeat (refine sx ?_ (fun w1 hU=> ?_) ?_;rotate_left;(focus have q1:=(qX (HQ3.out.m.ext hU.un) (nm:=y.nm) (ax hyn (by decide))).1;have q2:=(qX (HQ3.out.m.ext hU.un) (nm:=y.nm) (ax hyn (by decide))).2;have c0:=(y0.out.1.ext hU.un).cell;clear hU;go_simp<;>with_reducible rfl);simp only[bH,bG,bF,bE,bD])
       intro w7 hw7 _;have HQ4:=G (HQ3.out.ext hw7.un);clear hw7 HQ3 y0;simp only[ac,aq];go_wp2_with fail;go_roundw
       case rel=>exact⟨j+1,aN k.sz y.nm,_,_,by go_num,rfl,by omega,⟨hz1,by omega⟩,HQ4,HD2⟩
       case measure=>simp[intOf];omega
    ·have hjN:N=j:=by omega
     obtain rfl:=hjN;have hlt': ¬(N:Int)<(N:Int):=by omega
     have HS1:=G (show(l1,s1)=(lim,s2) by have:=HD1.out;rw[bJ (show xs.length<=N from eh HN.out),Ca]at this;exact this);obtain⟨rfl,rfl⟩:=iL .. ▸HS1.out;clear HD1 HS1 hlt hj H2 HCo HR HM;generalize wr=wo2 at*
     go_upto_region 21 with fail
     have hw1:IntKind.i64.wrap ((r:Int)+(NB:Int))=(r:Int)+(NB:Int):=by simp[IntKind.wrap,IntKind.signed,IntKind.bits];omega
     have hw2:IntKind.i64.wrap ((r:Int)+(NB:Int)-1)=(r:Int)+(NB:Int)-1:=by simp[IntKind.wrap,IntKind.signed,IntKind.bits];omega
     have hm1:min l1 128<=128:=by omega
     have hm2:0<=min l1 128:=by omega
     go_upto_if 86 with fail
     go_cut []from 86 to 94 (fun wx=> ∃O4,Hid (CQ k at_ O w w.heap.size 206 #[.int .i64 5, .string (an op), .string (an nm), .string (an tx), .int .i64 v, .slice A N c] O4 (if SZ=true then s1.chk ((r:Int)+NB-1) (min l1 128)else s1) wx))
     case first=>
      cases SZ with
      |true=>
       go_wp2_with (go_at_call 186;refine(E4 HQ2.out.m _ _ ⟨by omega,by omega⟩ (ax (aK HB.out) (by decide))).mono ?_;rintro e w3 ⟨rfl,O3,m3,hS⟩;have HQ3:=G (HQ2.out.nx m3 hS);clear m3 hS HQ2)
       go_meet
       case rel=>exact⟨_,HQ3⟩
      |false=>
       go_wp2_with fail
       go_meet
       case rel=>exact⟨_,HQ2⟩
     case rest=>
      obtain⟨O4,HQ4⟩:=hcut;clear HQ2;generalize (if SZ=true then s1.chk ((r:Int)+NB-1) (min l1 128)else s1)=SI at*
      have HBI:=G (show SI.big+7<=900000001 by
       have:=HBF.out;rw[HF.out]at this
       cases SZ
       ·simp only[a8,bo,l8,ch,if_false]at this;omega
       ·simp only[a8,bo,l8,if_true]at this;omega)
      go_upto_region 24 with fail
      go_loopw [95] (fun vi wr=> ∃(j:Nat) (O1:Nat->Prop),vi= .int .i64 (j:Int)/\j<=3/\Hid (CQ k at_ O w w.heap.size 206 #[.int .i64 5, .string (an op), .string (an nm), .string (an tx), .int .i64 v, .slice A N c] O1 (vC cc NB r j SI) wr)) (fun vi _=>3-(intOf vi).toNat)
      case atStart=>exact⟨0,_,rfl,aC _,HQ4⟩
      case round=>
       obtain⟨j,O5,rfl,hj,HQ5⟩:=hrel;clear HQ4;generalize wr=w2 at*;by_cases hlt:j<3
       ·have hlt':(j:Int)<3:=by omega
        have HBj:=G (show(vC cc NB r j SI).big<=900000000 by rw[l8];have:=HBI.out;omega);have HSJ:=G (show vC cc NB r (j+1) SI=xB cc NB r j (vC cc NB r j SI)from rfl);unfold xB at HSJ;have hw3:IntKind.i64.wrap ((r:Int)+(j:Int))=(r:Int)+(j:Int):=by simp[IntKind.wrap,IntKind.signed,IntKind.bits];omega
        have hw4:IntKind.i64.wrap (2+(j:Int))=2+(j:Int):=by simp[IntKind.wrap,IntKind.signed,IntKind.bits];omega
        generalize vC cc NB r j SI=SJ at*;by_cases h1:NB<=j
        ·rw[if_pos (.inl h1)]at HSJ;have h1':(NB:Int)<=(j:Int):=by omega
         go_wp2_with (go_at_call 69;refine(gQ HQ5.out.m 1 _ _ _ rfl (aT (ax HBj.out (by decide)))).mono ?_;rintro e w3 ⟨rfl,O3,m3,hS⟩;have HQ6:=G (HQ5.out.nx m3 hS);clear m3 hS HQ5);go_roundw
         case rel=>exact⟨j+1,_,by go_num,by omega,G (by rw[HSJ.out];exact HQ6.out)⟩
         case measure=>simp[intOf];omega
        ·have h1': ¬(NB:Int)<=(j:Int):=by omega
         by_cases h2:cc=10/\0<j
         ·rw[if_pos (.inr h2)]at HSJ;obtain⟨rfl,h0⟩:=h2;have h0':(0:Int)<(j:Int):=by omega
          go_wp2_with (go_at_call 69;refine(gQ HQ5.out.m 1 _ _ _ rfl (aT (ax HBj.out (by decide)))).mono ?_;rintro e w3 ⟨rfl,O3,m3,hS⟩;have HQ6:=G (HQ5.out.nx m3 hS);clear m3 hS HQ5);go_roundw
          case rel=>exact⟨j+1,_,by go_num,by omega,G (by rw[HSJ.out];exact HQ6.out)⟩
          case measure=>simp[intOf];omega
         ·rw[if_neg (fun e=>e.elim h1 h2)]at HSJ;by_cases h10:cc=10
          ·subst h10;have h0:j=0:=by omega
           subst h0;go_wp2_with (go_at_call 132;refine(l6 HQ5.out.m _ _ (ax HBj.out (by decide))).mono ?_;rintro e w3 ⟨rfl,O3,m3,hS⟩;have HQ6:=G (HQ5.out.nx m3 hS);clear m3 hS HQ5);go_roundw
           case rel=>exact⟨0+1,_,by go_num,by omega,G (by rw[HSJ.out];exact HQ6.out)⟩
           case measure=>simp[intOf]
          ·have n10:(cc==10)=false:=beq_eq_false_iff_ne.2 h10;go_wp2_with (go_at_call 132;refine(l6 HQ5.out.m _ _ (ax HBj.out (by decide))).mono ?_;rintro e w3 ⟨rfl,O3,m3,hS⟩;have HQ6:=G (HQ5.out.nx m3 hS);clear m3 hS HQ5);go_roundw
           case rel=>exact⟨j+1,_,by go_num,by omega,G (by rw[HSJ.out];exact HQ6.out)⟩
           case measure=>simp[intOf];omega
       ·have hj3:j=3:=by omega
        subst hj3;have HBj:=G (show(vC cc NB r 3 SI).big+4<=900000001 by rw[l8];have:=HBI.out;omega);generalize vC cc NB r 3 SI=SJ at*;clear hlt hj
        cases SZ with
        |true=>
         go_wp2_with (first
          |(go_at_call 132;refine(l6 HQ5.out.m _ _ (by have:=HBj.out;omega)).mono ?_;rintro e w3 ⟨rfl,O3,m3,hS⟩;have HQ6:=G (HQ5.out.nx m3 hS);clear m3 hS HQ5)
          |(go_at_call 69;refine(gQ HQ6.out.m 1 _ _ _ rfl (aT (by rw[a8];have:=HBj.out;omega))).mono ?_;rintro e w4 ⟨rfl,O6,m3,hS⟩;have HQ7:=G (HQ6.out.nx m3 hS);clear m3 hS HQ6)
          |(go_at_call 70;refine(fp HQ7.out.m 22 _ _ _ _ rfl (aT (by rw[bo,a8];have:=HBj.out;omega))).mono ?_;rintro e w5 ⟨rfl,O7,m3,hS⟩;have HQ8:=G (HQ7.out.nx m3 hS);clear m3 hS HQ7)
          |(go_at_call 132;refine(l6 HQ8.out.m _ _ (by rw[a8,bo,a8];have:=HBj.out;omega)).mono ?_;rintro e w6 ⟨rfl,O8,m3,hS⟩;have HQ9:=G (HQ8.out.nx m3 hS);clear m3 hS HQ8))
         exact bodyPost_end (results_none rfl _ _ _) rfl ⟨rfl,by rw[HF.out];exact HQ9.out.cp⟩
        |false=>
         go_wp2_with (first
          |(go_at_call 69;refine(gQ HQ5.out.m 1 _ _ _ rfl (aT (by have:=HBj.out;omega))).mono ?_;rintro e w4 ⟨rfl,O6,m3,hS⟩;have HQ7:=G (HQ5.out.nx m3 hS);clear m3 hS HQ5)
          |(go_at_call 70;refine(fp HQ7.out.m 22 _ _ _ _ rfl (aT (by rw[bo];have:=HBj.out;omega))).mono ?_;rintro e w5 ⟨rfl,O7,m3,hS⟩;have HQ8:=G (HQ7.out.nx m3 hS);clear m3 hS HQ7)
          |(go_at_call 132;refine(l6 HQ8.out.m _ _ (by rw[a8,bo];have:=HBj.out;omega)).mono ?_;rintro e w6 ⟨rfl,O8,m3,hS⟩;have HQ9:=G (HQ8.out.nx m3 hS);clear m3 hS HQ8))
         exact bodyPost_end (results_none rfl _ _ _) rfl ⟨rfl,by rw[HF.out];exact HQ9.out.cp⟩
end
section
open Go.RowKit
theorem EC.kp {w w':World} {P:Nat->Prop} {b o:Nat} {k:Int} {op nm tx:List UInt8} {v:Int} {B:Option Addr} {n d:Nat} (h:EC w b o k op nm tx v B n d) (hk:dm P w w') (hP:P b) (hb:b<w.heap.size):EC w' b o k op nm tx v B n d:=
 ⟨(hk.cell _ hP hb).trans h.c0,(hk.cell _ hP hb).trans h.c1,(hk.cell _ hP hb).trans h.c2,(hk.cell _ hP hb).trans h.c3,(hk.cell _ hP hb).trans h.c4,(hk.cell _ hP hb).trans h.c5⟩
theorem q_ {sz:Nm->Int} {xs:List Ex} (h:0<xs.length) (r:Nat) (s:CS):gt sz xs r s=eJ sz xs[0] r s:=by
 cases xs with
 |nil=>simp at h
 |cons x l=>rfl
theorem zO {sz:Nm->Int} {xs:List Ex} (h:1<xs.length) (r:Nat) (s:CS):rz sz xs r s=eJ sz xs[1] r s:=by
 cases xs with
 |nil=>simp at h
 |cons x l=>
  cases l with
  |nil=>simp at h
  |cons y l=>rfl
theorem gh (s:CS) (o:Nat) (a v:Int):(s.vl o a v).code.length=s.code.length+1:=by simp[CS.vl,CS.add]
theorem io (s:CS) (o:Nat) (a b n:Int):(s.op o a b n).code.length=s.code.length+1:=by simp[CS.op,CS.add]
theorem jC (s:CS) (i:Nat):(s.land i).code.length=s.code.length:=by simp[CS.land]
theorem jD (s:CS) (r:Int):(s.inv r).code.length=s.code.length+2:=by simp[CS.inv,io,gh]
theorem zU (s:CS) (r n:Int):s.code.length+1<=(s.st r n).code.length:=by unfold CS.st;split<;>simp only[gh]<;>omega
theorem zX (s:CS) (r m:Int):s.code.length<=(s.chk r m).code.length:=by have:=zU s 0 (m+1);unfold CS.chk;simp only[io,gh];omega
theorem BW (s:CS) (r:Int) (t:List UInt8):(s.text r t).code.length=s.code.length+1:=by simp[CS.text,CS.vl,CS.add]
theorem ut (s:CS) (r:Int) (nm:Nm):(s.dat r nm).code.length=s.code.length+1:=by simp[CS.dat,CS.vl,CS.add]
theorem BX (s:CS) (nm:Nm):(s.call nm).code.length=s.code.length+1:=by simp[CS.call,CS.vl,CS.add]
theorem zW (s:CS) (o:Nat) (r:Int) (nm:Nm):s.code.length+1<=(s.ld o r nm).code.length:=by unfold CS.ld;split<;>simp only[io,ut]<;>omega
theorem vw (sz:Nm->Int) (s:CS) (r:Int) (nm:Nm):s.code.length<=(s.elem sz r nm).code.length:=by have:=zX s r (sz nm-1);unfold CS.elem;simp only[io,ut];omega
theorem BY (op:Nm) (r:Int) (s:CS):s.code.length<=(pz op r s).code.length:=by unfold pz;simp only;split<;>split<;>simp only[io,jD]<;>omega
theorem zS (o:Nat): ∀(k i:Nat) (s:CS),(nQ o k i s).code.length=s.code.length+k
 |0,i,s=>rfl
 |k+1,i,s=>by rw[nQ,zS o k,io];omega
theorem zV (r:Nat): ∀(k i:Nat) (s:CS),(si r k i s).code.length=s.code.length+k
 |0,i,s=>rfl
 |k+1,i,s=>by rw[si,zV r k,io];omega
theorem zY (nm:Nm) (n r:Nat) (s:CS):s.code.length<=(jM nm n r s).code.length:=by unfold jM;simp only[io,zS,BX,zV];omega
theorem DN (c:Int) (n r i:Nat) (s:CS):(xB c n r i s).code.length=s.code.length+1:=by unfold xB;split<;>simp only[io,gh]
section
variable (sz:Nm->Int)
theorem q': ∀(ls:List UInt8) (a:List Ex) (lim:Int) (s:CS),s.code.length<=(mL sz ls a lim s).2.code.length
 | _,[],lim,s=>ah _
 |ls,x::l,lim,s=>by
  rw[mL];split
  ·exact q' ls.tail l lim s
  split
  ·refine ax ?_ (q' ls.tail l _ _);have:=zU (s.text 5 x.tx) 6 x.tx.length;rw[BW]at this;omega
  ·refine ax ?_ (q' ls.tail l _ _);rw[ut];omega
theorem zZ (c:Int) (ls:List UInt8) (a:List Ex) (r:Nat) (s:CS):s.code.length<=(iq sz c ls a r s).code.length:=by
 unfold iq;have h0:=q' sz ls a 0 s;have:=zX (mL sz ls a 0 s).2 ((r:Int)+tu ls a-1) (min (mL sz ls a 0 s).1 128);simp only[io,gh];split<;>simp only[io,DN]<;>omega
mutual
theorem uu: ∀(x:Ex) (r:Nat) (s:CS),s.code.length<=(eJ sz x r s).code.length
 | .mk k op nm tx v a,r,s=>by
  rw[eJ];have h0:=DP a r s;split
  ·have:=zU s r v;omega
  split
  ·have:=zW s 14 r nm;omega
  split
  ·have:=vw sz (gt sz a r s) r nm;rw[io];omega
  split
  ·split
   ·rename_i c ls _;have h0:=DO ls a r s;have:=zZ sz c ls a r (oH sz ls a r s);omega
   ·have h0:=E3 a r s;have:=zY nm a.length r (qZ sz a r s);omega
  split
  ·split
   ·rw[jD];omega
   ·rw[io,gh];omega
  split
  ·split
   ·rw[jC,jD,jD];have h1:=BZ a r ((gt sz a r s).vl 19 r 0);rw[gh]at h1;omega
   split
   ·rw[jD,jC,jD];have h1:=BZ a r (((gt sz a r s).inv r).vl 19 r 0);rw[gh,jD]at h1;omega
   ·have h1:=BZ a (r+1) (gt sz a r s);have:=BY op r (rz sz a (r+1) (gt sz a r s));omega
  ·exact ah _
theorem DP: ∀(l:List Ex) (r:Nat) (s:CS),s.code.length<=(gt sz l r s).code.length
 | [],r,s=>ah _
 |x::_,r,s=>by rw[gt];exact uu x r s
theorem BZ: ∀(l:List Ex) (r:Nat) (s:CS),s.code.length<=(rz sz l r s).code.length
 | [],r,s=>ah _
 | _::l,r,s=>by rw[rz];exact DP l r s
theorem E3: ∀(l:List Ex) (r:Nat) (s:CS),s.code.length<=(qZ sz l r s).code.length
 | [],r,s=>ah _
 |x::l,r,s=>by rw[qZ];exact ax (uu x r s) (E3 l (r+1) _)
theorem DO: ∀(ls:List UInt8) (l:List Ex) (r:Nat) (s:CS),s.code.length<=(oH sz ls l r s).code.length
 | _,[],r,s=>ah _
 |ls,x::l,r,s=>by
  rw[oH];split
  ·exact ax (uu x r s) (DO ls.tail l (r+1) _)
  ·exact DO ls.tail l r s
end
end
theorem Ac (k:CC) (at_:List (Nm×Int)) (op nm tx:List UInt8) (v:Int) (xs:List Ex) (hIH: ∀y∈xs,CE k at_ y) (O:Nat->Prop) (w:World) (s:CS) (r:Nat) (A:Option Addr) (c:Nat) (m:CX k at_ O w s) (e:jh k w) (R:et w (fun b=>b<k.base) (.slice A xs.length c) xs)
  (h2:2<=xs.length) (hco:Az xs=true) (hr7:7<=r) (hr:r+oe xs+1<=1000000000) (hb:(eJ (aN k.sz) (.mk 7 op nm tx v xs) r s).big<=900000000):
  Calls prog 184 #[.pointer (some ⟨k.c,0,none⟩), .agg #[.int .i64 7, .string (an op), .string (an nm), .string (an tx), .int .i64 v, .slice A xs.length c], .int .i64 (r:Int)] w fun e w'=>e= .returned (.tuple #[])/\CP k at_ O w (eJ (aN k.sz) (.mk 7 op nm tx v xs) r s) w':=by
 have HM:=G m;have h0:0<xs.length:=by omega
 have h1:1<xs.length:=by omega
 obtain⟨b,o,B0,d0,rfl,hbw,hPb,hY0,hR0⟩:=R.ec 0 h0;obtain⟨b',o',B1,d1,hq,_,_,hY1,hR1⟩:=R.ec 1 h1;injection hq with hq;injection hq with e1 e2;subst e1 e2;simp only[aV,a7,cD]at hY0 hY1;have hnd0:=gC 0 h0;have hnd1:=gC 1 h1;have HC0:=G (jB 0 h0 hco);have HC1:=G (jB 1 h1 hco);have HE0:=G (hIH _ (ap h0));have HE1:=G (hIH _ (ap h1))
 have HF:=G (show eJ (aN k.sz) (.mk 7 op nm tx v xs) r s=if op=[38,38]then((((eJ (aN k.sz) xs[1] r ((eJ (aN k.sz) xs[0] r s).vl 19 r 0)).inv r).inv r).land (eJ (aN k.sz) xs[0] r s).code.length)
   else if op=[124,124]then(((eJ (aN k.sz) xs[1] r (((eJ (aN k.sz) xs[0] r s).inv r).vl 19 r 0)).inv r).land ((eJ (aN k.sz) xs[0] r s).inv r).code.length).inv r
   else pz op r (eJ (aN k.sz) xs[1] (r+1) (eJ (aN k.sz) xs[0] r s)) by
  rw[eJ,if_neg (by decide),if_neg (by decide),if_neg (by decide),if_neg (by decide),if_neg (by decide),if_pos rfl]
  simp only[q_ h0,zO h1])
 unfold CE at HE0 HE1;have HM1:=G (fun q z=>mt (aN k.sz) xs[1] q z);generalize xs[0]=x0 at*;generalize xs[1]=x1 at*;obtain⟨N,hN⟩: ∃N,xs.length=N:=⟨_,rfl⟩
 rw[hN]at h0 h1;rw[hN];have hn0:(0:Int)<(N:Int):=by omega
 have hn1:(1:Int)<(N:Int):=by omega
 have HY0:=G hY0;have HY1:=G hY1;have HR0:=G hR0;have HR1:=G hR1;have HND0:=G hnd0;have HND1:=G hnd1;have HR7:=G hr7;have HRN:=G hr;have HB:=G hb
 have HB0:=G (show(eJ (aN k.sz) x0 r s).big<=900000000 by
  rw[HF.out]at hb;split at hb
  ·rw[bC,bB,bB]at hb;have:=HM1.out r ((eJ (aN k.sz) x0 r s).vl 19 r 0);rw[bo]at this;omega
  ·split at hb
   ·rw[bB,bC,bB]at hb;have:=HM1.out r (((eJ (aN k.sz) x0 r s).inv r).vl 19 r 0);rw[bo,bB]at this;omega
   ·have:=HM1.out (r+1) (eJ (aN k.sz) x0 r s);have:=(oO op r (eJ (aN k.sz) x1 (r+1) (eJ (aN k.sz) x0 r s))).1
    omega)
 rw[HF.out]at HB;have hrb:(r:Int)<=1000000000:=by omega
 have HQ0:=G (CQ.new m e 206 #[.int .i64 7, .string (an op), .string (an nm), .string (an tx), .int .i64 v, .slice (some ⟨b,o,none⟩) N c]);clear m e R hco hIH hb hN hr7 hr hY0 hY1 hR0 hR1 hnd0 hnd1 h2;go_enter func184,ntmps184
 go_upto_region 1 with fail
 generalize World.alloc w _=W0 at*;have c0:=HQ0.out.x.1.cell;obtain⟨e0,e1,e2,e3,e4,e5⟩:=HY0.out.kp (HQ0.out.kp HM.out) hPb hbw
 go_upto_region 2 with(go_at_call 130;refine(HE0.out _ _ _ r _ _ _ HQ0.out.m HQ0.out.e (HR0.out.keep (HQ0.out.kp HM.out) (Q:=fun b=>b<k.base) (fun _ h _=>h)) HC0.out HR7.out (by have:=HND0.out;have:=HRN.out;omega) rfl HB0.out).mono ?_;rintro e w1 ⟨rfl,O1,m1,hS⟩;have HQ1:=G (HQ0.out.nx m1 hS);clear m1 hS HE0 HQ0 c0 e0 e1 e2 e3 e4 e5)
 generalize eJ (aN k.sz) x0 r s=S1 at*;have c0:=HQ1.out.x.1.cell;by_cases ha:op=[38,38]
 ·subst ha;rw[if_pos rfl]at HF HB;have HBv:=G (show(eJ (aN k.sz) x1 r (S1.vl 19 r 0)).big+4<=900000000 by have:=HB.out;rw[bC,bB,bB]at this;omega)
  have HLn:=G (show S1.code.length<(((eJ (aN k.sz) x1 r (S1.vl 19 r 0)).inv r).inv r).code.length by
   have:=uu (aN k.sz) x1 r (S1.vl 19 r 0)
   simp only[jD,gh]at this⊢;omega)
  go_upto_region 5 with(go_at_call 69;refine(gQ HQ1.out.m 19 _ _ _ rfl (aT (ax HB0.out (by decide)))).mono ?_;rintro e w2 ⟨rfl,O2,m,hS⟩;have HQ2:=G (HQ1.out.nx m hS);clear m hS HQ1)
  clear c0;have c0:=HQ2.out.x.1.cell;obtain⟨e0,e1,e2,e3,e4,e5⟩:=HY1.out.kp (HQ2.out.kp HM.out) hPb hbw
  go_upto_region 6 with(go_at_call 130;refine(HE1.out _ _ _ r _ _ _ HQ2.out.m HQ2.out.e (HR1.out.keep (HQ2.out.kp HM.out) (Q:=fun b=>b<k.base) (fun _ h _=>h)) HC1.out (by have:=HR7.out;omega) (by have:=HND1.out;have:=HRN.out;omega) (by omega) (aK HBv.out)).mono ?_;rintro e w3 ⟨rfl,O3,m,hS⟩;have HQ3:=G (HQ2.out.nx m hS);clear m hS HE1 HQ2 c0 e0 e1 e2 e3 e4 e5)
  generalize eJ (aN k.sz) x1 r (S1.vl 19 r 0)=S2 at*
  go_upto_region 7 with(go_at_call 183;refine(sX HQ3.out.m _ (ax (aK HBv.out) (by decide))).mono ?_;rintro e w4 ⟨rfl,O4,m,hS⟩;have HQ4:=G (HQ3.out.nx m hS);clear m hS HQ3)
  go_upto_region 8 with(go_at_call 183;refine(sX HQ4.out.m _ (by rw[bB];have:=HBv.out;omega)).mono ?_;rintro e w5 ⟨rfl,O5,m,hS⟩;have HQ5:=G (HQ4.out.nx m hS);clear m hS HQ4)
  go_wp2_with (go_at_call 178;refine(p7 HQ5.out.m _ HLn.out (by rw[bB,bB];have:=HBv.out;omega)).mono ?_;rintro e w6 ⟨rfl,O6,m,hS⟩;have HQ6:=G (HQ5.out.nx m hS);clear m hS HQ5);exact bodyPost_ret (results_none rfl _ _ _) rfl ⟨rfl,by rw[HF.out];exact HQ6.out.cp⟩
 have hna:(op==[38,38])=false:=beq_eq_false_iff_ne.2 ha;rw[if_neg ha]at HF HB;by_cases ho:op=[124,124]
 ·subst ho;rw[if_pos rfl]at HF HB;have HBv:=G (show(eJ (aN k.sz) x1 r ((S1.inv r).vl 19 r 0)).big+4<=900000000 by have:=HB.out;rw[bB,bC,bB]at this;omega);have HBs:=G (show S1.big<=900000000 by have:=HM1.out r ((S1.inv r).vl 19 r 0);rw[bo,bB]at this;have:=HBv.out;omega)
  have HLn:=G (show(S1.inv r).code.length<((eJ (aN k.sz) x1 r ((S1.inv r).vl 19 r 0)).inv r).code.length by
   have:=uu (aN k.sz) x1 r ((S1.inv r).vl 19 r 0)
   simp only[jD,gh]at this⊢;omega)
  go_upto_region 11 with(go_at_call 183;refine(sX HQ1.out.m _ (ax HBs.out (by decide))).mono ?_;rintro e w2 ⟨rfl,O2,m,hS⟩;have HQ2:=G (HQ1.out.nx m hS);clear m hS HQ1)
  clear c0
  go_upto_region 12 with(go_at_call 69;refine(gQ HQ2.out.m 19 _ _ _ rfl (aT (by rw[bB];have:=HBs.out;omega))).mono ?_;rintro e w3 ⟨rfl,O3,m,hS⟩;have HQ3:=G (HQ2.out.nx m hS);clear m hS HQ2)
  have c0:=HQ3.out.x.1.cell;obtain⟨e0,e1,e2,e3,e4,e5⟩:=HY1.out.kp (HQ3.out.kp HM.out) hPb hbw
  go_upto_region 13 with(go_at_call 130;refine(HE1.out _ _ _ r _ _ _ HQ3.out.m HQ3.out.e (HR1.out.keep (HQ3.out.kp HM.out) (Q:=fun b=>b<k.base) (fun _ h _=>h)) HC1.out (by have:=HR7.out;omega) (by have:=HND1.out;have:=HRN.out;omega) (by omega) (aK HBv.out)).mono ?_;rintro e w4 ⟨rfl,O4,m,hS⟩;have HQ4:=G (HQ3.out.nx m hS);clear m hS HE1 HQ3 c0 e0 e1 e2 e3 e4 e5)
  generalize eJ (aN k.sz) x1 r ((S1.inv r).vl 19 r 0)=S2 at*
  go_upto_region 14 with(go_at_call 183;refine(sX HQ4.out.m _ (ax (aK HBv.out) (by decide))).mono ?_;rintro e w5 ⟨rfl,O5,m,hS⟩;have HQ5:=G (HQ4.out.nx m hS);clear m hS HQ4)
  go_upto_region 15 with(go_at_call 178;refine(p7 HQ5.out.m _ HLn.out (by rw[bB];have:=HBv.out;omega)).mono ?_;rintro e w6 ⟨rfl,O6,m,hS⟩;have HQ6:=G (HQ5.out.nx m hS);clear m hS HQ5)
  go_wp2_with (go_at_call 183;refine(sX HQ6.out.m _ (by rw[bC,bB];have:=HBv.out;omega)).mono ?_;rintro e w7 ⟨rfl,O7,m,hS⟩;have HQ7:=G (HQ6.out.nx m hS);clear m hS HQ6);exact bodyPost_ret (results_none rfl _ _ _) rfl ⟨rfl,by rw[HF.out];exact HQ7.out.cp⟩
 have hno:(op==[124,124])=false:=beq_eq_false_iff_ne.2 ho;rw[if_neg ho]at HF HB;have HBv:=G (show(eJ (aN k.sz) x1 (r+1) S1).big+1<=900000000 by have:=HB.out;have:=(oO op r (eJ (aN k.sz) x1 (r+1) S1)).1;omega);have HOp:=G (Gm op)
 go_upto_region 16 with fail
 obtain⟨e0,e1,e2,e3,e4,e5⟩:=HY1.out.kp (HQ1.out.kp HM.out) hPb hbw
 go_upto_region 17 with(go_at_call 130;refine(HE1.out _ _ _ (r+1) _ _ _ HQ1.out.m HQ1.out.e (HR1.out.keep (HQ1.out.kp HM.out) (Q:=fun b=>b<k.base) (fun _ h _=>h)) HC1.out (by have:=HR7.out;omega) (by have:=HND1.out;have:=HRN.out;omega) (by omega) (aK HBv.out)).mono ?_;rintro e w2 ⟨rfl,O2,m,hS⟩;have HQ2:=G (HQ1.out.nx m hS);clear m hS HE1 HQ1 c0 e0 e1 e2 e3 e4 e5)
 generalize eJ (aN k.sz) x1 (r+1) S1=S2 at*;have c0:=HQ2.out.x.1.cell;have HBp:=G (show pz op r S2=if(qE op).2.2=true then(if(qE op).2.1=true then S2.op (qE op).1 r (r+1) r else S2.op (qE op).1 r r (r+1)).inv r else(if(qE op).2.1=true then S2.op (qE op).1 r (r+1) r else S2.op (qE op).1 r r (r+1))from rfl);rw[HBp.out]at HF;clear HBp;generalize (qE op).1=o1 at*;generalize (qE op).2.1=o2 at*;generalize (qE op).2.2=o3 at*
 go_upto_region 18 with(go_at_call 220;refine(HOp.out _).mono ?_;rintro e w3 ⟨rfl,rfl⟩;clear HOp c0)
 cases o2<;>cases o3
 ·go_wp2_with (go_at_call 70;refine(fp HQ2.out.m o1 _ _ _ _ rfl (aT (ax (aK HBv.out) (by decide)))).mono ?_;rintro e w3 ⟨rfl,O3,m,hS⟩;have HQ3:=G (HQ2.out.nx m hS);clear m hS HQ2);exact bodyPost_end (results_none rfl _ _ _) rfl ⟨rfl,by rw[HF.out];exact HQ3.out.cp⟩
 ·go_wp2_with (first|(go_at_call 70;refine(fp HQ2.out.m o1 _ _ _ _ rfl (aT (ax (aK HBv.out) (by decide)))).mono ?_;rintro e w3 ⟨rfl,O3,m,hS⟩;have HQ3:=G (HQ2.out.nx m hS);clear m hS HQ2)|(go_at_call 183;refine(sX HQ3.out.m _ (by simp only[a8,ch,if_false,if_true];have:=HBv.out;omega)).mono ?_;rintro e w4 ⟨rfl,O4,m,hS⟩;have HQ4:=G (HQ3.out.nx m hS);clear m hS HQ3));exact bodyPost_end (results_none rfl _ _ _) rfl ⟨rfl,by rw[HF.out];exact HQ4.out.cp⟩
 ·go_wp2_with (go_at_call 70;refine(fp HQ2.out.m o1 _ _ _ _ rfl (aT (ax (aK HBv.out) (by decide)))).mono ?_;rintro e w3 ⟨rfl,O3,m,hS⟩;have HQ3:=G (HQ2.out.nx m hS);clear m hS HQ2);exact bodyPost_end (results_none rfl _ _ _) rfl ⟨rfl,by rw[HF.out];exact HQ3.out.cp⟩
 ·go_wp2_with (first|(go_at_call 70;refine(fp HQ2.out.m o1 _ _ _ _ rfl (aT (ax (aK HBv.out) (by decide)))).mono ?_;rintro e w3 ⟨rfl,O3,m,hS⟩;have HQ3:=G (HQ2.out.nx m hS);clear m hS HQ2)|(go_at_call 183;refine(sX HQ3.out.m _ (by simp only[a8,ch,if_false,if_true];have:=HBv.out;omega)).mono ?_;rintro e w4 ⟨rfl,O4,m,hS⟩;have HQ4:=G (HQ3.out.nx m hS);clear m hS HQ3));exact bodyPost_end (results_none rfl _ _ _) rfl ⟨rfl,by rw[HF.out];exact HQ4.out.cp⟩
end
section
open Go.RowKit
theorem Ah: ∀x∈rm,x.2.2.length<=10/\0<=x.2.1/\x.2.1<=100:=by decide
theorem uB {s:List UInt8} {c:Int} {ls:List UInt8} (h:fx s=some (c,ls)):ls.length<=10/\0<=c/\c<=100:=by
 unfold fx at h;rw[f7]at h;obtain⟨x,hx,h⟩:=h;have:=Ah x (ed hx);rwa [h]at this
theorem ux (k:CC) (at_:List (Nm×Int)) (x:Ex) (hIH: ∀y∈x.args,CE k at_ y):CE k at_ x:=by
 obtain⟨kd,op,nm,tx,v,xs⟩:=x;intro O w s r ri A c m e R hco hr7 hr hri hb;subst hri;simp only[Ex.k,Ex.op,Ex.nm,Ex.tx,Ex.v,Ex.args]at R hIH⊢;rw[pq]at hr;rw[Eb,ak]at hco;obtain⟨hsz,hco⟩:=hco;obtain⟨hnm,htx,hv1,hv2⟩:=of_decide_eq_true hsz;have hnm':nm.length<=maxLen:=ax hnm (by decide);clear hsz;have HM:=G m;have HE:=G e;have HRR:=G R;have HIH:=G hIH;have HB:=G hb;have HR7:=G hr7;have HRN:=G hr;have hrb:(r:Int)<=1000000000:=by omega
 obtain⟨N,hN⟩: ∃N,xs.length=N:=⟨_,rfl⟩
 have HN:=G hN;rw[hN];have HQ0:=G (CQ.new m e 206 #[.int .i64 kd, .string (an op), .string (an nm), .string (an tx), .int .i64 v, .slice A N c]);have hX:=aa w (.cells #[.int .i64 kd, .string (an op), .string (an nm), .string (an tx), .int .i64 v, .slice A N c] 206);have HRQ:=G (R.keep (.of_ext hX) (Q:=fun b=>b<k.base) (fun _ h _=>h));clear m e R hIH hb hr7 hr hN hX;by_cases h1:kd=1
 ·subst h1;have HF:=G (show eJ (aN k.sz) (.mk 1 op nm tx v xs) r s=s.st r v by rw[eJ,if_pos rfl]);have HBs:=G (show s.big<=900000000 by have:=HB.out;rw[HF.out]at this;have:=iS s r v;omega);go_enter func130,ntmps130
  go_upto_region 1 with fail
  generalize World.alloc w _=W0 at*;have c0:=HQ0.out.x.1.cell;go_wp2_with (go_at_call 179;refine(DJ HQ0.out.m _ _ ⟨hv1,hv2⟩ (ax HBs.out (by decide))).mono ?_;rintro e w1 ⟨rfl,O1,m,hS⟩;have HQ1:=G (HQ0.out.nx m hS);clear m hS HQ0 c0);exact bodyPost_end (results_none rfl _ _ _) rfl ⟨rfl,by rw[HF.out];exact HQ1.out.cp⟩
 have n1:(kd==1)=false:=beq_eq_false_iff_ne.2 h1;by_cases h3:kd=3
 ·subst h3;have HF:=G (show eJ (aN k.sz) (.mk 3 op nm tx v xs) r s=s.ld 14 r nm by rw[eJ,if_neg (by decide),if_pos rfl]);have HBs:=G (show s.big<=900000000 by have:=HB.out;rw[HF.out]at this;have:=mJ s 14 r nm;omega);go_enter func130,ntmps130
  go_upto_region 1 with fail
  generalize World.alloc w _=W0 at*;have c0:=HQ0.out.x.1.cell;go_wp2_with (go_at_call 180;refine(E0 HQ0.out.m _ nm hnm' (ax HBs.out (by decide))).mono ?_;rintro e w1 ⟨rfl,O1,m,hS⟩;have HQ1:=G (HQ0.out.nx m hS);clear m hS HQ0 c0);exact bodyPost_end (results_none rfl _ _ _) rfl ⟨rfl,by rw[HF.out];exact HQ1.out.cp⟩
 have n3:(kd==3)=false:=beq_eq_false_iff_ne.2 h3;by_cases h46:kd=4\/kd=6
 ·rw[if_pos h46,ak]at hco;have h0:0<xs.length:=by have:=of_decide_eq_true hco.1;omega
  have HC0:=G (jB 0 h0 hco.2);have hnd0:=gC 0 h0;have HND0:=G hnd0;obtain⟨b,o,B0,d0,rfl,hbw,hPb,hY0,hR0⟩:=HRQ.out.ec 0 h0;simp only[aV,a7]at hY0;have HY0:=G hY0;have HR0:=G hR0;have HE0:=G (HIH.out _ (ap h0));have HF4:=G (fun r s=>q_ (sz:=aN k.sz) h0 r s);unfold CE at HE0;have hn0:(0:Int)<(N:Int):=by have:=HN.out;omega
  have hn0':0<N:=by have:=HN.out;omega
  generalize xs[0]=x0 at*;clear hnd0 hY0 hR0;rcases h46 with rfl|rfl
  ·have HF:=G (show eJ (aN k.sz) (.mk 4 op nm tx v xs) r s=((eJ (aN k.sz) x0 r s).elem (aN k.sz) r nm).op 16 r 0 0 by rw[eJ,if_neg (by decide),if_neg (by decide),if_pos rfl,HF4.out]);have HB1:=G (show(eJ (aN k.sz) x0 r s).big+10<=900000000 by have:=HB.out;rw[HF.out,a8]at this;have:=jg (aN k.sz) (eJ (aN k.sz) x0 r s) r nm;omega);go_enter func130,ntmps130
   go_upto_region 1 with fail
   generalize World.alloc w _=W0 at*;have c0:=HQ0.out.x.1.cell;obtain⟨e0,e1,e2,e3,e4,e5⟩:=HY0.out
   go_upto_region 8 with(go_at_call 130;refine(HE0.out _ _ _ r _ _ _ HQ0.out.m HQ0.out.e HR0.out HC0.out HR7.out (by have:=HND0.out;have:=HRN.out;omega) rfl (aK HB1.out)).mono ?_;rintro e w1 ⟨rfl,O1,m,hS⟩;have HQ1:=G (HQ0.out.nx m hS);clear m hS HQ0 HE0 c0 e0 e1 e2 e3 e4 e5)
   generalize eJ (aN k.sz) x0 r s=S1 at*;have c0:=HQ1.out.x.1.cell;have HBe:=G (jg (aN k.sz) S1 r nm)
   go_upto_region 9 with(go_at_call 133;refine(CN HQ1.out.m _ nm hnm' (HQ1.out.e.2.2 nm) (ax (aK HB1.out) (by decide))).mono ?_;rintro e w2 ⟨rfl,O2,m,hS⟩;have HQ2:=G (HQ1.out.nx m hS);clear m hS HQ1 c0)
   generalize S1.elem (aN k.sz) r nm=S2 at*;go_wp2_with (go_at_call 70;refine(fp HQ2.out.m 16 _ _ _ _ rfl (aT (by have:=HBe.out;have:=HB1.out;omega))).mono ?_;rintro e w3 ⟨rfl,O3,m,hS⟩;have HQ3:=G (HQ2.out.nx m hS);clear m hS HQ2);exact bodyPost_end (results_none rfl _ _ _) rfl ⟨rfl,by rw[HF.out];exact HQ3.out.cp⟩
  ·have HF:=G (show eJ (aN k.sz) (.mk 6 op nm tx v xs) r s=if op=[33]then(eJ (aN k.sz) x0 r s).inv r else((eJ (aN k.sz) x0 r s).vl 1 0 0).op 5 r 0 r by rw[eJ,if_neg (by decide),if_neg (by decide),if_neg (by decide),if_neg (by decide),if_pos rfl,HF4.out])
   have HB1:=G (show(eJ (aN k.sz) x0 r s).big+2<=900000000 by
    have:=HB.out;rw[HF.out]at this;split at this
    ·rw[bB]at this;omega
    ·rw[a8,bo]at this;omega)
   go_enter func130,ntmps130
   go_upto_region 1 with fail
   generalize World.alloc w _=W0 at*;have c0:=HQ0.out.x.1.cell;obtain⟨e0,e1,e2,e3,e4,e5⟩:=HY0.out
   go_upto_region 17 with(go_at_call 130;refine(HE0.out _ _ _ r _ _ _ HQ0.out.m HQ0.out.e HR0.out HC0.out HR7.out (by have:=HND0.out;have:=HRN.out;omega) rfl (aK HB1.out)).mono ?_;rintro e w1 ⟨rfl,O1,m,hS⟩;have HQ1:=G (HQ0.out.nx m hS);clear m hS HQ0 HE0 c0 e0 e1 e2 e3 e4 e5)
   generalize eJ (aN k.sz) x0 r s=S1 at*;have c0:=HQ1.out.x.1.cell;by_cases hx:op=[33]
   ·subst hx;rw[if_pos rfl]at HF;go_wp2_with (go_at_call 183;refine(sX HQ1.out.m _ (ax (aK HB1.out) (by decide))).mono ?_;rintro e w2 ⟨rfl,O2,m,hS⟩;have HQ2:=G (HQ1.out.nx m hS);clear m hS HQ1 c0);exact bodyPost_ret (results_none rfl _ _ _) rfl ⟨rfl,by rw[HF.out];exact HQ2.out.cp⟩
   ·rw[if_neg hx]at HF;have nx:(op==[33])=false:=beq_eq_false_iff_ne.2 hx
    go_wp2_with (first
     |(go_at_call 69;refine(gQ HQ1.out.m 1 _ _ _ rfl (aT (ax (aK HB1.out) (by decide)))).mono ?_;rintro e w2 ⟨rfl,O2,m,hS⟩;have HQ2:=G (HQ1.out.nx m hS);clear m hS HQ1 c0)
     |(go_at_call 70;refine(fp HQ2.out.m 5 _ _ _ _ rfl (aT (by rw[bo];have:=HB1.out;omega))).mono ?_;rintro e w3 ⟨rfl,O3,m,hS⟩;have HQ3:=G (HQ2.out.nx m hS);clear m hS HQ2))
    exact bodyPost_end (results_none rfl _ _ _) rfl ⟨rfl,by rw[HF.out];exact HQ3.out.cp⟩
 rw[if_neg h46]at hco;have n4:(kd==4)=false:=beq_eq_false_iff_ne.2 fun e=>h46 (.inl e);have n6:(kd==6)=false:=beq_eq_false_iff_ne.2 fun e=>h46 (.inr e);by_cases h5:kd=5
 ·subst h5;rw[if_pos rfl]at hco
  cases hbl:fx nm with
  |some p=>
   obtain⟨bc,ls⟩:=p;have HBl:=G (fun W (h:BT W)=>show Calls prog 175 #[.string (an nm)] W fun e w'=>e= .returned (.tuple #[.int .i64 bc, .string (an ls), .bool true])/\au W w' from by have:=kK nm W h;rw[hbl]at this;exact this);rw[hbl]at hco;simp only[ak]at hco;obtain⟨hls,hbc0,hbc1⟩:=uB hbl;have hall:=of_decide_eq_true hco.1;have HF:=G (show eJ (aN k.sz) (.mk 5 op nm tx v xs) r s=iq (aN k.sz) bc ls xs r (oH (aN k.sz) ls xs r s) by rw[eJ,if_neg (by decide),if_neg (by decide),if_neg (by decide),if_pos rfl,hbl]);have HB':=G (show(iq (aN k.sz) bc ls xs r (oH (aN k.sz) ls xs r s)).big<=900000000 by rw[<-HF.out];exact HB.out);have HCo:=G hco.2;clear hbl hco h46;go_enter func130,ntmps130
   go_upto_region 1 with fail
   generalize World.alloc w _=W0 at*;have c0:=HQ0.out.x.1.cell
   go_upto_region 12 with(go_at_call 175;refine(HBl.out _ HQ0.out.e.1).mono ?_;rintro e w1 ⟨rfl,hE⟩;have HQ1:=G (HQ0.out.ext hE);replace HRQ:=G (HRQ.out.keep (.of_ext hE) (Q:=fun b=>b<k.base) (fun _ h _=>h));clear HBl c0 HQ0 hE;have c0:=HQ1.out.x.1.cell)
   have HK:=G (B7 k at_ op nm tx v xs HIH.out _ _ s r A c bc ls HQ1.out.m HQ1.out.e HRQ.out hall hls ⟨hbc0,hbc1⟩ HCo.out HR7.out (by have:=HRN.out;omega) HB'.out);rw[HN.out]at HK;go_wp2_with (go_at_call 181;refine HK.out.mono ?_;rintro e w2 ⟨rfl,O2,m,hS⟩;have HQ2:=G (HQ1.out.nx m hS);clear m hS HQ1 c0 HK);exact bodyPost_ret (results_none rfl _ _ _) rfl ⟨rfl,by rw[HF.out];exact HQ2.out.cp⟩
  |none=>
   have HBl:=G (fun W (h:BT W)=>show Calls prog 175 #[.string (an nm)] W fun e w'=>e= .returned (.tuple #[.int .i64 0, .string ⟨#[]⟩, .bool false])/\au W w' from by have:=kK nm W h;rw[hbl]at this;exact this);rw[hbl]at hco;simp only at hco;have HF:=G (show eJ (aN k.sz) (.mk 5 op nm tx v xs) r s=jM nm xs.length r (qZ (aN k.sz) xs r s) by rw[eJ,if_neg (by decide),if_neg (by decide),if_neg (by decide),if_pos rfl,hbl]);have HB':=G (show(jM nm xs.length r (qZ (aN k.sz) xs r s)).big<=900000000 by rw[<-HF.out];exact HB.out);have HCo:=G hco;clear hbl hco h46;go_enter func130,ntmps130
   go_upto_region 1 with fail
   generalize World.alloc w _=W0 at*;have c0:=HQ0.out.x.1.cell
   go_upto_region 12 with(go_at_call 175;refine(HBl.out _ HQ0.out.e.1).mono ?_;rintro e w1 ⟨rfl,hE⟩;have HQ1:=G (HQ0.out.ext hE);replace HRQ:=G (HRQ.out.keep (.of_ext hE) (Q:=fun b=>b<k.base) (fun _ h _=>h));clear HBl c0 HQ0 hE;have c0:=HQ1.out.x.1.cell)
   have HK:=G (xi k at_ op nm tx v xs HIH.out _ _ s r A c HQ1.out.m HQ1.out.e HRQ.out HCo.out HR7.out (by have:=HRN.out;omega) HB'.out);rw[HN.out]at HK HF;go_wp2_with (go_at_call 182;refine HK.out.mono ?_;rintro e w2 ⟨rfl,O2,m,hS⟩;have HQ2:=G (HQ1.out.nx m hS);clear m hS HQ1 c0 HK);exact bodyPost_end (results_none rfl _ _ _) rfl ⟨rfl,by rw[HF.out];exact HQ2.out.cp⟩
 have n5:(kd==5)=false:=beq_eq_false_iff_ne.2 h5;rw[if_neg h5]at hco;by_cases h7:kd=7
 ·subst h7;rw[if_pos rfl,ak]at hco;have h2:=of_decide_eq_true hco.1;have HCo:=G hco.2;clear hco h46;go_enter func130,ntmps130
  go_upto_region 1 with fail
  generalize World.alloc w _=W0 at*;have c0:=HQ0.out.x.1.cell;have HK:=G (Ac k at_ op nm tx v xs HIH.out _ _ s r A c HQ0.out.m HQ0.out.e HRQ.out h2 HCo.out HR7.out (by have:=HRN.out;omega) HB.out);rw[HN.out]at HK;go_wp2_with (go_at_call 184;refine HK.out.mono ?_;rintro e w2 ⟨rfl,O2,m,hS⟩;have HQ2:=G (HQ0.out.nx m hS);clear m hS HQ0 c0 HK);exact bodyPost_end (results_none rfl _ _ _) rfl ⟨rfl,HQ2.out.cp⟩
 ·have n7:(kd==7)=false:=beq_eq_false_iff_ne.2 h7;have HF:=G (show eJ (aN k.sz) (.mk kd op nm tx v xs) r s=s by rw[eJ,if_neg h1,if_neg h3,if_neg (fun e=>h46 (.inl e)),if_neg h5,if_neg (fun e=>h46 (.inr e)),if_neg h7]);clear hco h46;go_enter func130,ntmps130
  go_upto_region 1 with fail
  generalize World.alloc w _=W0 at*;have c0:=HQ0.out.x.1.cell;go_wp2_with fail;exact bodyPost_end (results_none rfl _ _ _) rfl ⟨rfl,by rw[HF.out];exact HQ0.out.cp⟩
mutual
theorem l7 (k:CC) (at_:List (Nm×Int)): ∀x:Ex,CE k at_ x
 | .mk kd op nm tx v a=>ux k at_ _ (sY k at_ a)
theorem sY (k:CC) (at_:List (Nm×Int)): ∀l:List Ex,∀y∈l,CE k at_ y
 | [],y,h=>absurd h (by simp)
 |x::l,y,h=>by
  rcases List.mem_cons.1 h with e|e
  ·rw[e];exact l7 k at_ x
  ·exact sY k at_ l y e
end
end
section
open Go.RowKit
def CS.sf (s:CS):List (Nm×Int)×Int:=(s.slots,s.frame)
theorem iY (s:CS) (o:Nat) (a b n:Int):(s.op o a b n).sf=s.sf:=rfl
theorem kW (s:CS) (o:Nat) (a v:Int):(s.vl o a v).sf=s.sf:=rfl
theorem kB (s:CS) (i:Nat):(s.land i).sf=s.sf:=rfl
theorem mh (s:CS) (r:Int):(s.inv r).sf=s.sf:=rfl
theorem AQ (s:CS) (r:Int) (t:List UInt8):(s.text r t).sf=s.sf:=rfl
theorem yy (s:CS) (r:Int) (nm:Nm):(s.dat r nm).sf=s.sf:=rfl
theorem AS (s:CS) (nm:Nm):(s.call nm).sf=s.sf:=rfl
theorem yv (s:CS) (r n:Int):(s.st r n).sf=s.sf:=by unfold CS.st;split<;>rfl
theorem yz (s:CS) (r m:Int):(s.chk r m).sf=s.sf:=by unfold CS.chk;simp only[iY,kW,yv]
theorem yx (s:CS) (o:Nat) (r:Int) (nm:Nm):(s.ld o r nm).sf=s.sf:=by unfold CS.ld;split<;>rfl
theorem AT (op:Nm) (r:Int) (s:CS):(pz op r s).sf=s.sf:=by unfold pz;simp only;split<;>split<;>rfl
theorem yt (o:Nat): ∀(k i:Nat) (s:CS),(nQ o k i s).sf=s.sf
 |0,i,s=>rfl
 |k+1,i,s=>by rw[nQ,yt o k,iY]
theorem yw (r:Nat): ∀(k i:Nat) (s:CS),(si r k i s).sf=s.sf
 |0,i,s=>rfl
 |k+1,i,s=>by rw[si,yw r k,iY]
theorem yA (nm:Nm) (n r:Nat) (s:CS):(jM nm n r s).sf=s.sf:=by unfold jM;simp only[iY,yt,AS,yw]
theorem De (c:Int) (n r i:Nat) (s:CS):(xB c n r i s).sf=s.sf:=by unfold xB;split<;>rfl
section
variable (sz:Nm->Int)
theorem uP (s:CS) (r:Int) (nm:Nm):(s.elem sz r nm).sf=s.sf:=by unfold CS.elem;simp only[iY,yy,yz]
theorem qt: ∀(ls:List UInt8) (a:List Ex) (lim:Int) (s:CS),(mL sz ls a lim s).2.sf=s.sf
 | _,[],lim,s=>rfl
 |ls,x::l,lim,s=>by
  rw[mL];split
  ·exact qt ls.tail l lim s
  split
  ·rw[qt ls.tail l,yv,AQ]
  ·rw[qt ls.tail l,yy]
theorem yB (c:Int) (ls:List UInt8) (a:List Ex) (r:Nat) (s:CS):(iq sz c ls a r s).sf=s.sf:=by
 unfold iq;simp only[iY,kW];split<;>simp only[iY,De,yz,qt]
mutual
theorem wd: ∀(x:Ex) (r:Nat) (s:CS),(eJ sz x r s).sf=s.sf
 | .mk k op nm tx v a,r,s=>by
  rw[eJ];split
  ·rw[yv]
  split
  ·rw[yx]
  split
  ·rw[iY,uP,rS a]
  split
  ·split
   ·rw[yB,Df _ a]
   ·rw[yA,EB a]
  split
  ·split
   ·rw[mh,rS a]
   ·rw[iY,kW,rS a]
  split
  ·split
   ·rw[kB,mh,mh,AU a,kW,rS a]
   split
   ·rw[mh,kB,mh,AU a,kW,mh,rS a]
   ·rw[AT,AU a,rS a]
  ·rfl
theorem rS: ∀(l:List Ex) (r:Nat) (s:CS),(gt sz l r s).sf=s.sf
 | [],r,s=>rfl
 |x::_,r,s=>by rw[gt];exact wd x r s
theorem AU: ∀(l:List Ex) (r:Nat) (s:CS),(rz sz l r s).sf=s.sf
 | [],r,s=>rfl
 | _::l,r,s=>by rw[rz];exact rS l r s
theorem EB: ∀(l:List Ex) (r:Nat) (s:CS),(qZ sz l r s).sf=s.sf
 | [],r,s=>rfl
 |x::l,r,s=>by rw[qZ,EB l,wd x]
theorem Df: ∀(ls:List UInt8) (l:List Ex) (r:Nat) (s:CS),(oH sz ls l r s).sf=s.sf
 | _,[],r,s=>rfl
 |ls,x::l,r,s=>by
  rw[oH];split
  ·rw[Df _ l,wd x]
  ·rw[Df _ l]
end
theorem EA: ∀(l:List Ex) (s:CS),(g8 sz l s).sf=s.sf
 | [],s=>rfl
 |x::_,s=>by rw[g8];exact wd sz x 7 s
mutual
theorem EX: ∀(x:St) (s:CS),(nF sz x s).frame=s.frame/\(nF sz x s).slots.length<=s.slots.length+mE x
 | .mk k nm ex b e,s=>by
  have q: ∀{z y:CS},z.sf=y.sf->z.frame=y.frame/\z.slots.length=y.slots.length:=fun h=>by unfold CS.sf at h;injection h with h1 h2;exact⟨h2,by rw[h1]⟩
  have h0:=q (rS sz ex 7 s);have hx:=q (EA sz ex s);have h1:=sK b ((gt sz ex 7 s).vl 19 7 0);have hv:=q (kW (gt sz ex 7 s) 19 7 0);rw[nF,mE];split
  ·split
   ·have:=q (kB (dG sz b ((gt sz ex 7 s).vl 19 7 0)) (gt sz ex 7 s).code.length);exact⟨by rw[this.1,h1.1,hv.1,h0.1],by omega⟩
   ·have h2:=sK e (((dG sz b ((gt sz ex 7 s).vl 19 7 0)).vl 18 0 0).land (gt sz ex 7 s).code.length);have h3:=q (kB ((dG sz b ((gt sz ex 7 s).vl 19 7 0)).vl 18 0 0) (gt sz ex 7 s).code.length);have h4:=q (kW (dG sz b ((gt sz ex 7 s).vl 19 7 0)) 18 0 0);have h5:=q (kB (dG sz e (((dG sz b ((gt sz ex 7 s).vl 19 7 0)).vl 18 0 0).land (gt sz ex 7 s).code.length)) (dG sz b ((gt sz ex 7 s).vl 19 7 0)).code.length);exact⟨by rw[h5.1,h2.1,h3.1,h4.1,h1.1,hv.1,h0.1],by omega⟩
  split
  ·have h2:=q (kB ((dG sz b ((gt sz ex 7 s).vl 19 7 0)).vl 18 0 ((s.code.length:Int)-(dG sz b ((gt sz ex 7 s).vl 19 7 0)).code.length-1)) (gt sz ex 7 s).code.length);have h3:=q (kW (dG sz b ((gt sz ex 7 s).vl 19 7 0)) 18 0 ((s.code.length:Int)-(dG sz b ((gt sz ex 7 s).vl 19 7 0)).code.length-1));exact⟨by rw[h2.1,h3.1,h1.1,hv.1,h0.1],by omega⟩
  split
  ·rename_i hk;have h2:=q (yx ((g8 sz ex s).decl nm) 15 7 nm);have h3:((g8 sz ex s).decl nm).slots.length<=(g8 sz ex s).slots.length+1:=by
    show(gx _ _ _).length<=_;unfold gx;split<;>simp
   exact⟨by rw[h2.1];exact hx.1,by omega⟩
  split
  ·have h2:=q (yx (g8 sz ex s) 15 7 nm);exact⟨by rw[h2.1,hx.1],by omega⟩
  split
  ·have h2:=q (show(((((rz sz ex 7 ((g8 sz ex s).op 15 7 15 28)).op 3 8 7 0).op 14 7 15 28).elem sz 7 nm).op 17 8 0 0).sf=(g8 sz ex s).sf by rw[iY,uP,iY,iY,AU,iY]);exact⟨by rw[h2.1,hx.1],by omega⟩
  split
  ·have h2:=q (show((g8 sz ex s).op 3 1 7 0).back.sf=(g8 sz ex s).sf from rfl);exact⟨by rw[h2.1,hx.1],by omega⟩
  ·exact⟨hx.1,by omega⟩
theorem sK: ∀(l:List St) (s:CS),(dG sz l s).frame=s.frame/\(dG sz l s).slots.length<=s.slots.length+cJ l
 | [],s=>⟨rfl,ah _⟩
 |x::l,s=>by
  have h1:=EX x s;have h2:=sK l (nF sz x s);rw[dG,cJ];exact⟨by rw[h2.1,h1.1],by omega⟩
end
mutual
theorem Gp: ∀(x:St) (s:CS),s.code.length<=(nF sz x s).code.length
 | .mk k nm ex b e,s=>by
  rw[nF];have h0:=DP sz ex 7 s;have h1:=p8 b ((gt sz ex 7 s).vl 19 7 0);rw[gh]at h1;have hx:=Gn ex s;split
  ·split
   ·rw[jC];omega
   ·rw[jC];have h2:=p8 e (((dG sz b ((gt sz ex 7 s).vl 19 7 0)).vl 18 0 0).land (gt sz ex 7 s).code.length);rw[jC,gh]at h2;omega
  split
  ·rw[jC,gh];omega
  split
  ·have:=zW ((g8 sz ex s).decl nm) 15 7 nm;have h2:((g8 sz ex s).decl nm).code.length=(g8 sz ex s).code.length:=rfl;omega
  split
  ·have:=zW (g8 sz ex s) 15 7 nm;omega
  split
  ·have h2:=BZ sz ex 7 ((g8 sz ex s).op 15 7 15 28);have:=vw sz (((rz sz ex 7 ((g8 sz ex s).op 15 7 15 28)).op 3 8 7 0).op 14 7 15 28) 7 nm;simp only[io]at this h2⊢;omega
  split
  ·simp only[CS.back,io];omega
  ·exact hx
theorem p8: ∀(l:List St) (s:CS),s.code.length<=(dG sz l s).code.length
 | [],s=>ah _
 |x::l,s=>by rw[dG];exact ax (Gp x s) (p8 l _)
theorem Gn: ∀(l:List Ex) (s:CS),s.code.length<=(g8 sz l s).code.length
 | [],s=>by rw[g8,gh];omega
 |x::_,s=>by rw[g8];exact uu sz x 7 s
end
end
mutual
def sT:St->Bool
 | .mk k nm ex b e=>decide (nm.length<=1000000000/\oe ex<=900000000)&&(if k=4\/k=5 then decide (1<=ex.length)else if k=3 then decide (2<=ex.length)else true)&&Az ex&&(sU b&&sU e)
def sU:List St->Bool
 | []=>true
 |x::l=>sT x&&sU l
end
structure SC (w:World) (b o:Nat) (k:Int) (nm:List UInt8) (u1 u2 u3:Value):Prop where
 c0:w.cell? ⟨b,o,none⟩=some (.int .i64 k)
 c1:w.cell? ⟨b,o+1,none⟩=some (.string (an nm))
 c2:w.cell? ⟨b,o+2,none⟩=some u1
 c3:w.cell? ⟨b,o+3,none⟩=some u2
 c4:w.cell? ⟨b,o+4,none⟩=some u3
theorem SC.kp {w w':World} {P:Nat->Prop} {b o:Nat} {k:Int} {nm:List UInt8} {u1 u2 u3:Value} (h:SC w b o k nm u1 u2 u3) (hk:dm P w w') (hP:P b) (hb:b<w.heap.size):SC w' b o k nm u1 u2 u3:=
 ⟨(hk.cell _ hP hb).trans h.c0,(hk.cell _ hP hb).trans h.c1,(hk.cell _ hP hb).trans h.c2,(hk.cell _ hP hb).trans h.c3,(hk.cell _ hP hb).trans h.c4⟩
theorem dS.sc {w:World} {P:Nat->Prop} {A:Option Addr} {n c:Nat} {xs:List St} (h:dS w P (.slice A n c) xs) (i:Nat) (hi:i<xs.length):
  ∃b o E c1 B c2 L c3,A=some ⟨b,o,none⟩/\b<w.heap.size/\P b/\SC w b (o+i*5) xs[i].k xs[i].nm (.slice E xs[i].ex.length c1) (.slice B xs[i].body.length c2) (.slice L xs[i].els.length c3)/\et w P (.slice E xs[i].ex.length c1) xs[i].ex/\dS w P (.slice B xs[i].body.length c2) xs[i].body/\dS w P (.slice L xs[i].els.length c3) xs[i].els:=by
 cases h with
 |nil=>simp at hi
 |row b o n c xs es bs ls hP hb hn hnc hm hc he hs hl=>
  obtain⟨h0,h1,h2,h3,h4⟩:=hc i hi;have r1:=he i hi;have r2:=hs i hi;have r3:=hl i hi;obtain⟨E,c1,q1,_⟩:=r1.form;obtain⟨B,c2,q2,_⟩:=r2.form;obtain⟨L,c3,q3,_⟩:=r3.form;rw[q1]at r1 h2;rw[q2]at r2 h3;rw[q3]at r3 h4;exact⟨b,o,E,c1,B,c2,L,c3,rfl,hb,hP,⟨h0,h1,h2,h3,h4⟩,r1,r2,r3⟩
def vF (k:CC) (at_:List (Nm×Int)) (l:List St):Prop:= ∀(O:Nat->Prop) (w:World) (s:CS) (A:Option Addr) (c:Nat),CX k at_ O w s->jh k w->dS w (fun b=>b<k.base) (.slice A l.length c) l->
 sU l=true->s.frame≠0->s.slots.length+cJ l<=1000->(dG (aN k.sz) l s).big<=900000000->
 Calls prog 72 #[.pointer (some ⟨k.c,0,none⟩), .slice A l.length c] w fun e w'=>e= .returned (.tuple #[])/\CP k at_ O w (dG (aN k.sz) l s) w'
theorem CQ.box {k:CC} {at_:List (Nm×Int)} {O0 O:Nat->Prop} {w0 w:World} {s:CS} (m:CX k at_ O w s) (T:dF O0 w0 O w) (e:jh k w) (t:TypeId) (cs:Array Value):CQ k at_ O0 w0 w.heap.size t cs O s (w.alloc (.cells cs t)):=⟨m.ext (aa w _),T.ex (aa w _), .new m t cs,e.ext (aa w _)⟩
theorem oB {z y:CS} (h:z.sf=y.sf):z.frame=y.frame/\z.slots.length=y.slots.length:=by unfold CS.sf at h;injection h with h1 h2;exact⟨h2,by rw[h1]⟩
end
section
open Go.RowKit
theorem zH {k:CC} {at_:List (Nm×Int)} {O:Nat->Prop} {w:World} {s:CS} (m:CX k at_ O w s): ∃C cap,w.cell? ⟨k.c,1+1,none⟩=some (.slice C s.code.length cap):=by
 obtain⟨vc,vt,vl,vd,vs,h,hO⟩:=m;obtain⟨C,cap,rfl⟩:=i6 h.code;exact⟨C,cap,(h.blk.cell 2).trans rfl⟩
theorem B4 (k:CC) (at_:List (Nm×Int)) (nm:List UInt8) (ex:List Ex) (b e:List St) (hb':vF k at_ b) (he':vF k at_ e) (O:Nat->Prop) (w:World) (s:CS) (E:Option Addr) (c1:Nat) (B:Option Addr) (c2:Nat) (L:Option Addr) (c3:Nat) (m:CX k at_ O w s) (ev:jh k w)
  (R1:et w (fun b=>b<k.base) (.slice E ex.length c1) ex) (R2:dS w (fun b=>b<k.base) (.slice B b.length c2) b) (R3:dS w (fun b=>b<k.base) (.slice L e.length c3) e)
  (hco:sT (.mk 4 nm ex b e)=true) (hf:s.frame≠0) (hs:s.slots.length+mE (.mk 4 nm ex b e)<=1000) (hb:(nF (aN k.sz) (.mk 4 nm ex b e) s).big<=900000000):
  Calls prog 128 #[.pointer (some ⟨k.c,0,none⟩), .agg #[.int .i64 4, .string (an nm), .slice E ex.length c1, .slice B b.length c2, .slice L e.length c3]] w fun e' w'=>e'= .returned (.tuple #[])/\CP k at_ O w (nF (aN k.sz) (.mk 4 nm ex b e) s) w':=by
 have HM:=G m;rw[sT,ak,ak,ak,ak,if_pos (.inl rfl)]at hco;obtain⟨⟨⟨hnn,h1⟩,hcL⟩,hcb,hce⟩:=hco;have h0:0<ex.length:=by have:=of_decide_eq_true h1;omega
 have hnod:=(of_decide_eq_true hnn).2;have hnd0:=gC 0 h0;obtain⟨y,o,B0,d0,rfl,hbw,hPb,hY0,hR0⟩:=R1.ec 0 h0;simp only[aV,a7]at hY0;have HC0:=G (jB 0 h0 hcL)
 have HF:=G (show nF (aN k.sz) (.mk 4 nm ex b e) s=if e.isEmpty=true then(dG (aN k.sz) b ((eJ (aN k.sz) ex[0] 7 s).vl 19 7 0)).land (eJ (aN k.sz) ex[0] 7 s).code.length
   else(dG (aN k.sz) e (((dG (aN k.sz) b ((eJ (aN k.sz) ex[0] 7 s).vl 19 7 0)).vl 18 0 0).land (eJ (aN k.sz) ex[0] 7 s).code.length)).land (dG (aN k.sz) b ((eJ (aN k.sz) ex[0] 7 s).vl 19 7 0)).code.length by
  rw[nF,if_pos rfl];simp only[q_ h0])
 have hsf:=oB (wd (aN k.sz) ex[0] 7 s);have HE0:=G (l7 k at_ ex[0]);unfold CE at HE0;unfold vF at hb' he';have HSb:=G hb';have HSe:=G he';rw[mE,if_neg (by decide)]at hs;generalize ex[0]=x0 at*;generalize hS1:eJ (aN k.sz) x0 7 s=S1 at*;have hdl:=sK (aN k.sz) b (S1.vl 19 7 0);have hcl:=p8 (aN k.sz) b (S1.vl 19 7 0);have hmo:=iD (aN k.sz) b (S1.vl 19 7 0);rw[gh]at hcl;rw[bo]at hmo;have hvf:=oB (kW S1 19 7 0);generalize hS2:dG (aN k.sz) b (S1.vl 19 7 0)=S2 at*;have hlf:=oB (show((S2.vl 18 0 0).land S1.code.length).sf=S2.sf from rfl);have hmo3:=iD (aN k.sz) e ((S2.vl 18 0 0).land S1.code.length);have hcl3:=p8 (aN k.sz) e ((S2.vl 18 0 0).land S1.code.length);rw[bC,bo]at hmo3;rw[jC,gh]at hcl3;have hB2:S2.big<=900000000/\(e.isEmpty=false->(dG (aN k.sz) e ((S2.vl 18 0 0).land S1.code.length)).big<=900000000):=by
  rw[HF.out]at hb
  cases he:e.isEmpty with
  |true=>rw[he,if_pos rfl,bC]at hb;exact⟨hb,fun h=>by cases h⟩
  |false=>rw[he,if_neg (by simp),bC]at hb;exact⟨by omega,fun _=>hb⟩
 have HB2:=G hB2;have HB1:=G (show S1.big+1<=900000000 by have:=hB2.1;omega)
 have Hsl:=G (show S1.frame≠0/\S1.slots.length+cJ b<=1000/\S2.frame≠0/\S2.slots.length+cJ e<=1000 by
  refine⟨by rw[hsf.1];exact hf,by omega,by rw[hdl.1,hvf.1,hsf.1];exact hf,by omega⟩)
 have HLn:=G (show S1.code.length<S2.code.length/\S2.code.length<(dG (aN k.sz) e ((S2.vl 18 0 0).land S1.code.length)).code.length by omega);generalize hS3:dG (aN k.sz) e ((S2.vl 18 0 0).land S1.code.length)=S3 at*;obtain⟨N,hN⟩: ∃N,ex.length=N:=⟨_,rfl⟩
 rw[hN]at h0;rw[hN];obtain⟨M,hM⟩: ∃M,e.length=M:=⟨_,rfl⟩
 have HMe:=G hM;have hn0:(0:Int)<(N:Int):=by omega
 have HQ0:=G (CQ.new m ev 147 #[.int .i64 4, .string (an nm), .slice (some ⟨y,o,none⟩) N c1, .slice B b.length c2, .slice L e.length c3]);have HY0:=G hY0;have HR0:=G hR0;have HR2:=G R2;have HR3:=G R3;have HND:=G (show 7+pq x0<=1000000000 by omega);have Hcb:=G hcb;have Hce:=G hce;have HS1:=G hS1;have HS2:=G hS2;have HS3:=G hS3;clear m ev R1 R2 R3 hcb hce hb' he' hs hf hb hdl hcl hmo hvf hlf hmo3 hcl3 hB2 hN hM hY0 hR0 hnd0 hnod hnn h1 hcL hsf hS1 hS2 hS3;go_enter func128,ntmps128
 go_upto_region 1 with fail
 generalize World.alloc w _=W0 at*;have c0:=HQ0.out.x.1.cell;obtain⟨e0,e1,e2,e3,e4,e5⟩:=HY0.out.kp (HQ0.out.kp HM.out) hPb hbw
 go_upto_region 2 with(go_at_call 130;refine(HE0.out _ _ s 7 _ _ _ HQ0.out.m HQ0.out.e (HR0.out.keep (HQ0.out.kp HM.out) (Q:=fun b=>b<k.base) (fun _ h _=>h)) HC0.out (by decide) HND.out rfl (by rw[HS1.out];exact aK HB1.out)).mono ?_;rw[HS1.out];rintro e' w1 ⟨rfl,O1,m1,hS⟩;have HQ1:=G (HQ0.out.nx m1 hS);clear m1 hS HE0 HQ0 c0 e0 e1 e2 e3 e4 e5)
 go_upto_region 3 with(go_at_call 69;refine(gQ HQ1.out.m 19 _ _ _ rfl (aT (ax (aK HB1.out) (by decide)))).mono ?_;rintro e' w2 ⟨rfl,O2,m,hS⟩;have HQ2:=G (HQ1.out.nx m hS);clear m hS HQ1)
 have c0:=HQ2.out.x.1.cell
 go_upto_region 4 with(go_at_call 72;refine(HSb.out _ _ _ _ _ HQ2.out.m HQ2.out.e (HR2.out.keep (HQ2.out.kp HM.out) (Q:=fun b=>b<k.base) (fun _ h _=>h)) Hcb.out Hsl.out.1 Hsl.out.2.1 (by rw[HS2.out];exact HB2.out.1)).mono ?_;rw[HS2.out];rintro e' w3 ⟨rfl,O3,m,hS⟩;have HQ3:=G (HQ2.out.nx m hS);clear m hS HSb HQ2 c0)
 have c0:=HQ3.out.x.1.cell;by_cases hM0:0<M
 ·have hM0':(0:Int)<(M:Int):=by omega
  have hne:e.isEmpty=false:=by cases e with|nil=>have:=HMe.out;simp at this;omega|cons a l=>rfl
  rw[hne,if_neg (by simp)]at HF;have HB3:=G (HB2.out.2 hne);rw[HMe.out]at c0 HR3;have HSe':=HSe;rw[HMe.out]at HSe'
  go_upto_region 6 with(go_at_call 69;refine(gQ HQ3.out.m 18 _ _ _ rfl (aT (ax HB2.out.1 (by decide)))).mono ?_;rintro e' w4 ⟨rfl,O4,m,hS⟩;have HQ4:=G (HQ3.out.nx m hS);clear m hS HQ3 c0)
  go_upto_region 7 with(go_at_call 178;refine(p7 HQ4.out.m _ (by rw[gh];have:=HLn.out.1;omega) (by rw[bo];have:=HB2.out.1;omega)).mono ?_;rintro e' w5 ⟨rfl,O5,m,hS⟩;have HQ5:=G (HQ4.out.nx m hS);clear m hS HQ4)
  have c0:=HQ5.out.x.1.cell;rw[HMe.out]at c0
  go_upto_region 8 with(go_at_call 72;refine(HSe'.out _ _ _ _ _ HQ5.out.m HQ5.out.e (HR3.out.keep (HQ5.out.kp HM.out) (Q:=fun b=>b<k.base) (fun _ h _=>h)) Hce.out Hsl.out.2.2.1 Hsl.out.2.2.2 (by rw[HS3.out];exact HB3.out)).mono ?_;rw[HS3.out];rintro e' w6 ⟨rfl,O6,m,hS⟩;have HQ6:=G (HQ5.out.nx m hS);clear m hS HSe HSe' HQ5 c0)
  go_wp2_with (go_at_call 178;refine(p7 HQ6.out.m _ HLn.out.2 (ax HB3.out (by decide))).mono ?_;rintro e' w7 ⟨rfl,O7,m,hS⟩;have HQ7:=G (HQ6.out.nx m hS);clear m hS HQ6);exact bodyPost_end (results_none rfl _ _ _) rfl ⟨rfl,by rw[HF.out];exact HQ7.out.cp⟩
 ·have hM0': ¬(0:Int)<(M:Int):=by omega
  have hne:e.isEmpty=true:=by cases e with|nil=>rfl|cons a l=>have:=HMe.out;simp at this;omega
  rw[hne,if_pos rfl]at HF;rw[HMe.out]at c0;go_wp2_with (go_at_call 178;refine(p7 HQ3.out.m _ HLn.out.1 (ax HB2.out.1 (by decide))).mono ?_;rintro e' w4 ⟨rfl,O4,m,hS⟩;have HQ4:=G (HQ3.out.nx m hS);clear m hS HQ3 c0);exact bodyPost_end (results_none rfl _ _ _) rfl ⟨rfl,by rw[HF.out];exact HQ4.out.cp⟩
theorem BS (k:CC) (at_:List (Nm×Int)) (nm:List UInt8) (ex:List Ex) (b e:List St) (hb':vF k at_ b) (O:Nat->Prop) (w:World) (s:CS) (E:Option Addr) (c1:Nat) (B:Option Addr) (c2:Nat) (L:Value) (m:CX k at_ O w s) (ev:jh k w)
  (R1:et w (fun b=>b<k.base) (.slice E ex.length c1) ex) (R2:dS w (fun b=>b<k.base) (.slice B b.length c2) b)
  (hco:sT (.mk 5 nm ex b e)=true) (hf:s.frame≠0) (hs:s.slots.length+mE (.mk 5 nm ex b e)<=1000) (hb:(nF (aN k.sz) (.mk 5 nm ex b e) s).big<=900000000):
  Calls prog 129 #[.pointer (some ⟨k.c,0,none⟩), .agg #[.int .i64 5, .string (an nm), .slice E ex.length c1, .slice B b.length c2,L]] w fun e' w'=>e'= .returned (.tuple #[])/\CP k at_ O w (nF (aN k.sz) (.mk 5 nm ex b e) s) w':=by
 have HM:=G m;rw[sT,ak,ak,ak,ak,if_pos (.inr rfl)]at hco;obtain⟨⟨⟨hnn,h1⟩,hcL⟩,hcb,hce⟩:=hco;have h0:0<ex.length:=by have:=of_decide_eq_true h1;omega
 have hnod:=(of_decide_eq_true hnn).2;have hnd0:=gC 0 h0;obtain⟨y,o,B0,d0,rfl,hbw,hPb,hY0,hR0⟩:=R1.ec 0 h0;simp only[aV,a7]at hY0;have HC0:=G (jB 0 h0 hcL)
 have HF:=G (show nF (aN k.sz) (.mk 5 nm ex b e) s=((dG (aN k.sz) b ((eJ (aN k.sz) ex[0] 7 s).vl 19 7 0)).vl 18 0 ((s.code.length:Int)-(dG (aN k.sz) b ((eJ (aN k.sz) ex[0] 7 s).vl 19 7 0)).code.length-1)).land (eJ (aN k.sz) ex[0] 7 s).code.length by
  rw[nF,if_neg (by decide),if_pos rfl];simp only[q_ h0])
 have hsf:=oB (wd (aN k.sz) ex[0] 7 s);have HE0:=G (l7 k at_ ex[0]);unfold CE at HE0;unfold vF at hb';have HSb:=G hb';rw[mE,if_neg (by decide)]at hs;have hsc:=uu (aN k.sz) ex[0] 7 s;generalize ex[0]=x0 at*;generalize hS1:eJ (aN k.sz) x0 7 s=S1 at*;have hdl:=sK (aN k.sz) b (S1.vl 19 7 0);have hcl:=p8 (aN k.sz) b (S1.vl 19 7 0);have hmo:=iD (aN k.sz) b (S1.vl 19 7 0);rw[gh]at hcl;rw[bo]at hmo;have hvf:=oB (kW S1 19 7 0);generalize hS2:dG (aN k.sz) b (S1.vl 19 7 0)=S2 at*;have HB2:=G (show S2.big+1<=900000000 by rw[HF.out,bC,bo]at hb;exact hb);have HB1:=G (show S1.big+1<=900000000 by have:=HB2.out;omega);have Hsl:=G (show S1.frame≠0/\S1.slots.length+cJ b<=1000 from⟨by rw[hsf.1];exact hf,by omega⟩);have HLn:=G (show S1.code.length<S2.code.length by omega);have hc2:=aT (show S2.big<=900000000 by have:=HB2.out;omega);have hw1:IntKind.i64.wrap ((s.code.length:Int)-S2.code.length)=(s.code.length:Int)-S2.code.length:=by simp[IntKind.wrap,IntKind.signed,IntKind.bits];omega
 have hw2:IntKind.i64.wrap ((s.code.length:Int)-S2.code.length-1)=(s.code.length:Int)-S2.code.length-1:=by simp[IntKind.wrap,IntKind.signed,IntKind.bits];omega
 obtain⟨N,hN⟩: ∃N,ex.length=N:=⟨_,rfl⟩
 rw[hN]at h0;rw[hN];have hn0:(0:Int)<(N:Int):=by omega
 have HQ0:=G (CQ.new m ev 147 #[.int .i64 5, .string (an nm), .slice (some ⟨y,o,none⟩) N c1, .slice B b.length c2,L]);have HY0:=G hY0;have HR0:=G hR0;have HR2:=G R2;have HND:=G (show 7+pq x0<=1000000000 by omega);have Hcb:=G hcb;have HS1:=G hS1;have HS2:=G hS2;clear m ev R1 R2 hcb hce hb' hs hf hb hdl hcl hmo hvf hN hY0 hR0 hnd0 hnod hnn h1 hcL hsf hS1 hS2 hsc hc2;go_enter func129,ntmps129
 go_upto_region 1 with fail
 generalize World.alloc w _=W0 at*;obtain⟨C0,cap0,f0⟩:=zH HQ0.out.m;have c0:=HQ0.out.x.1.cell;obtain⟨e0,e1,e2,e3,e4,e5⟩:=HY0.out.kp (HQ0.out.kp HM.out) hPb hbw
 go_upto_region 2 with fail
 clear f0
 go_upto_region 3 with(go_at_call 130;refine(HE0.out _ _ s 7 _ _ _ HQ0.out.m HQ0.out.e (HR0.out.keep (HQ0.out.kp HM.out) (Q:=fun b=>b<k.base) (fun _ h _=>h)) HC0.out (by decide) HND.out rfl (by rw[HS1.out];exact aK HB1.out)).mono ?_;rw[HS1.out];rintro e' w1 ⟨rfl,O1,m1,hS⟩;have HQ1:=G (HQ0.out.nx m1 hS);clear m1 hS HE0 HQ0 c0 e0 e1 e2 e3 e4 e5)
 go_upto_region 4 with(go_at_call 69;refine(gQ HQ1.out.m 19 _ _ _ rfl (aT (ax (aK HB1.out) (by decide)))).mono ?_;rintro e' w2 ⟨rfl,O2,m,hS⟩;have HQ2:=G (HQ1.out.nx m hS);clear m hS HQ1)
 have c0:=HQ2.out.x.1.cell
 go_upto_region 5 with(go_at_call 72;refine(HSb.out _ _ _ _ _ HQ2.out.m HQ2.out.e (HR2.out.keep (HQ2.out.kp HM.out) (Q:=fun b=>b<k.base) (fun _ h _=>h)) Hcb.out Hsl.out.1 Hsl.out.2 (by rw[HS2.out];exact aK HB2.out)).mono ?_;rw[HS2.out];rintro e' w3 ⟨rfl,O3,m,hS⟩;have HQ3:=G (HQ2.out.nx m hS);clear m hS HSb HQ2 c0)
 obtain⟨C3,cap3,f3⟩:=zH HQ3.out.m
 go_upto_region 6 with(go_at_call 69;refine(gQ HQ3.out.m 18 _ _ _ rfl (aT (ax (aK HB2.out) (by decide)))).mono ?_;rintro e' w4 ⟨rfl,O4,m,hS⟩;have HQ4:=G (HQ3.out.nx m hS);clear m hS HQ3 f3)
 go_wp2_with (go_at_call 178;refine(p7 HQ4.out.m _ (by rw[gh];have:=HLn.out;omega) (by rw[bo];have:=HB2.out;omega)).mono ?_;rintro e' w5 ⟨rfl,O5,m,hS⟩;have HQ5:=G (HQ4.out.nx m hS);clear m hS HQ4);exact bodyPost_end (results_none rfl _ _ _) rfl ⟨rfl,by rw[HF.out];exact HQ5.out.cp⟩
end
section
open Go.RowKit
theorem vu: ∀{xs:List St} (i:Nat) (h:i<xs.length),sU xs=true->sT xs[i]=true
 |x::r,0,h,hc=>by rw[sU,ak]at hc;exact hc.1
 |x::r,i+1,h,hc=>by rw[sU,ak]at hc;exact vu i (by simpa using h) hc.2
theorem wW {sz:Nm->Int} {xs:List St} {j:Nat} {s:CS} (h:j<xs.length):dG sz (xs.drop j) s=dG sz (xs.drop (j+1)) (nF sz xs[j] s):=by rw[am h,dG]
theorem zF {xs:List St} {j:Nat} (h:j<xs.length):cJ (xs.drop j)=mE xs[j]+cJ (xs.drop (j+1)):=by rw[am h,cJ]
theorem mF (k:CC) (at_:List (Nm×Int)) (xs:List St) (hIH: ∀y∈xs,vF k at_ y.body/\vF k at_ y.els):vF k at_ xs:=by
 intro O w s A c m ev R hco hf hs hb;have HM:=G m;have HR:=G R;have HCo:=G hco;have HI:=G hIH;obtain⟨N,hN⟩: ∃N,xs.length=N:=⟨_,rfl⟩
 have HN:=G hN;have hN2:(N:Int)<=9223372036854775807:=by
  obtain⟨A',c',q,hq⟩:=R.form;rcases hq with rfl|⟨h1,h2,_⟩
  ·simp at hN;omega
  ·simp only[maxLen]at h2;omega
 obtain⟨SF,hSF⟩: ∃SF,dG (aN k.sz) xs s=SF:=⟨_,rfl⟩
 have HD0:=G (show dG (aN k.sz) (xs.drop 0) s=SF from hSF);have HL0:=G (show s.frame≠0/\s.slots.length+cJ (xs.drop 0)<=1000 from⟨hf,hs⟩);rw[hSF]at hb;rw[hSF,hN];have HB:=G hb;have m0:=G m;have T0:=G (jk O w);have EV:=G ev;clear m ev R hco hIH hb hf hs hSF hN;go_enter func72,ntmps72
 go_upto_region 1 with fail
 go_loopw [8] (fun vi wr=> ∃(j:Nat) (O1:Nat->Prop) (s1:CS),vi= .int .i64 (j:Int)/\j<=N/\Hid (CX k at_ O1 wr s1)/\Hid (dF O w O1 wr)/\Hid (jh k wr)/\Hid (dG (aN k.sz) (xs.drop j) s1=SF)/\Hid (s1.frame≠0/\s1.slots.length+cJ (xs.drop j)<=1000)) (fun vi _=>N-(intOf vi).toNat)
 case atStart=>exact⟨0,_,_,rfl,aC _,m0,T0,EV,HD0,HL0⟩
 case round=>
  obtain⟨j,O1,s1,rfl,hj,m1,T1,E1,HD1,HL1⟩:=hrel;clear m0 T0 EV HD0 HL0;by_cases hlt:j<N
  ·have hlt':(j:Int)<(N:Int):=by omega
   have hjx:j<xs.length:=by rw[HN.out];exact hlt
   obtain⟨b,o,E,c1,B,c2,L,c3,rfl,hbw,hPb,hY,hR1,hR2,hR3⟩:=HR.out.sc j hjx;have hkp:=T1.out.keepP HM.out;obtain⟨e0,e1,e2,e3,e4⟩:=hY.kp hkp hPb hbw;have HRw:=G hR1;have HR1:=G (hR1.keep hkp (Q:=fun b=>b<k.base) (fun _ h _=>h));have HR2:=G (hR2.keep hkp (Q:=fun b=>b<k.base) (fun _ h _=>h));have HR3:=G (hR3.keep hkp (Q:=fun b=>b<k.base) (fun _ h _=>h));have HCy:=G (vu j hjx HCo.out);have HIb:=G (HI.out _ (ap hjx)).1;have HIe:=G (HI.out _ (ap hjx)).2;have HD2:=G ((wW hjx).symm.trans HD1.out);have HL2:=HL1.out;rw[zF hjx]at HL2;have hmo:=iD (aN k.sz) (xs.drop (j+1)) (nF (aN k.sz) xs[j] s1);have hdl:=EX (aN k.sz) xs[j] s1;rw[HD2.out]at hmo;have HBS:=G (show(nF (aN k.sz) xs[j] s1).big<=900000000 by have:=HB.out;omega);have HL3:=G (show(nF (aN k.sz) xs[j] s1).frame≠0/\(nF (aN k.sz) xs[j] s1).slots.length+cJ (xs.drop (j+1))<=1000 from⟨by rw[hdl.1];exact HL2.1,by omega⟩);have HL4:=G (show s1.frame≠0/\s1.slots.length+mE xs[j]<=1000 from⟨HL2.1,by omega⟩);generalize wr=wz at*;generalize xs[j]=y at*;have HKP:=G hkp;clear hkp hY hR1 hR2 hR3 hjx hmo hdl HL2 HD1 HL1;obtain⟨kd,nm,ex,bd,el⟩:=y;simp only[St.k,St.nm,St.ex,St.body,St.els]at*
   go_upto_region 3 with fail
   have HQ1:=G (CQ.box m1.out T1.out E1.out 147 #[.int .i64 kd, .string (an nm), .slice E ex.length c1, .slice B bd.length c2, .slice L el.length c3]);replace HR1:=G (HR1.out.keep (.of_ext (aa wz (.cells #[.int .i64 kd, .string (an nm), .slice E ex.length c1, .slice B bd.length c2, .slice L el.length c3] 147))) (Q:=fun b=>b<k.base) (fun _ h _=>h));replace HR2:=G (HR2.out.keep (.of_ext (aa wz (.cells #[.int .i64 kd, .string (an nm), .slice E ex.length c1, .slice B bd.length c2, .slice L el.length c3] 147))) (Q:=fun b=>b<k.base) (fun _ h _=>h));replace HR3:=G (HR3.out.keep (.of_ext (aa wz (.cells #[.int .i64 kd, .string (an nm), .slice E ex.length c1, .slice B bd.length c2, .slice L el.length c3] 147))) (Q:=fun b=>b<k.base) (fun _ h _=>h));have HK1:=G (show dm (fun b=>b<k.base) wz (wz.alloc (.cells #[.int .i64 kd, .string (an nm), .slice E ex.length c1, .slice B bd.length c2, .slice L el.length c3] 147))from .of_ext (aa wz _));generalize World.alloc wz _=W1 at*;have c0:=HQ1.out.x.1.cell;clear m1 T1 E1 e0 e1 e2 e3 e4 HK1;have hnm:nm.length<=maxLen:=by
    have:=HCy.out;rw[sT,ak,ak,ak]at this;exact ax (of_decide_eq_true this.1.1.1).1 (by decide)
   by_cases h4:kd=4
   ·subst h4;go_wp2_with (go_at_call 128;refine(B4 k at_ nm ex bd el HIb.out HIe.out _ _ s1 E c1 B c2 L c3 HQ1.out.m HQ1.out.e HR1.out HR2.out HR3.out HCy.out HL4.out.1 HL4.out.2 HBS.out).mono ?_;rintro e w2 ⟨rfl,O2,m,hS⟩;have HQ2:=G (HQ1.out.nx m hS);clear m hS HQ1 c0);go_roundw
    case rel=>exact⟨j+1,_,_,by go_num,by omega,G HQ2.out.m,G HQ2.out.T,G HQ2.out.e,HD2,HL3⟩
    case measure=>simp[intOf];omega
   have n4:(kd==4)=false:=beq_eq_false_iff_ne.2 h4;by_cases h5:kd=5
   ·subst h5;go_wp2_with (go_at_call 129;refine(BS k at_ nm ex bd el HIb.out _ _ s1 E c1 B c2 _ HQ1.out.m HQ1.out.e HR1.out HR2.out HCy.out HL4.out.1 HL4.out.2 HBS.out).mono ?_;rintro e w2 ⟨rfl,O2,m,hS⟩;have HQ2:=G (HQ1.out.nx m hS);clear m hS HQ1 c0);go_roundw
    case rel=>exact⟨j+1,_,_,by go_num,by omega,G HQ2.out.m,G HQ2.out.T,G HQ2.out.e,HD2,HL3⟩
    case measure=>simp[intOf];omega
   have n5:(kd==5)=false:=beq_eq_false_iff_ne.2 h5
   have HFx:=G (show nF (aN k.sz) (.mk kd nm ex bd el) s1=if kd=1 then((g8 (aN k.sz) ex s1).decl nm).ld 15 7 nm else if kd=2 then(g8 (aN k.sz) ex s1).ld 15 7 nm
     else if kd=3 then((((rz (aN k.sz) ex 7 ((g8 (aN k.sz) ex s1).op 15 7 15 28)).op 3 8 7 0).op 14 7 15 28).elem (aN k.sz) 7 nm).op 17 8 0 0 else if kd=6 then((g8 (aN k.sz) ex s1).op 3 1 7 0).back else g8 (aN k.sz) ex s1 by rw[nF,if_neg h4,if_neg h5])
   have hcl:=HCy.out;rw[sT,ak,ak,ak]at hcl;have hnod:=(of_decide_eq_true hcl.1.1.1).2;have HCL:=G hcl.1.2
   have H3c:=G (show kd=3->2<=ex.length from fun e=>by
    have:=hcl.1.1.2;rw[if_neg (by omega),if_pos e]at this
    exact of_decide_eq_true this)
   have HBx:=G (show(g8 (aN k.sz) ex s1).big<=900000000 by
    have:=HBS.out;rw[HFx.out]at this;split at this
    ·have h:=(mJ ((g8 (aN k.sz) ex s1).decl nm) 15 7 nm).1;rw[bV]at h;omega
    split at this
    ·have h:=(mJ (g8 (aN k.sz) ex s1) 15 7 nm).1;omega
    split at this
    ·have h:=om (aN k.sz) ex 7 ((g8 (aN k.sz) ex s1).op 15 7 15 28);have h2:=(jg (aN k.sz) (((rz (aN k.sz) ex 7 ((g8 (aN k.sz) ex s1).op 15 7 15 28)).op 3 8 7 0).op 14 7 15 28) 7 nm).1;simp only[a8]at h h2 this;omega
    split at this
    ·rw[dg,a8]at this;omega
    ·exact this)
   have hsx:=oB (EA (aN k.sz) ex s1);have HLx:=G (show(g8 (aN k.sz) ex s1).frame≠0/\(g8 (aN k.sz) ex s1).slots.length<=1000 from⟨by rw[hsx.1];exact HL4.out.1,by have:=HL4.out.2;omega⟩);have HW1:=G HQ1.out;clear hcl hsx
   go_upto_if 27 with fail
   go_cut []from 9 to 80 (fun wx=> ∃O3,Hid (CQ k at_ O w wz.heap.size 147 #[.int .i64 kd, .string (an nm), .slice E ex.length c1, .slice B bd.length c2, .slice L el.length c3] O3 (g8 (aN k.sz) ex s1) wx))
   case first=>
    cases ex with
    |nil=>
     have h00:((0:Nat):Int)=0:=rfl;go_wp2_with (go_at_call 69;refine(gQ HQ1.out.m 1 _ _ _ rfl (aT (by have:=HBx.out;rw[g8,bo]at this;omega))).mono ?_;rintro e w2 ⟨rfl,O2,m,hS⟩;have HQ2:=G (HQ1.out.nx m hS);clear m hS HQ1 c0)
     go_meet
     case rel=>exact⟨_,HQ2⟩
    |cons x0 ex=>
     have hgt:((x0::ex).length:Int)≠0:=by simp only[ae];omega
     have hgt':(((x0::ex).length:Int)==0)=false:=beq_eq_false_iff_ne.2 hgt;have hgt2:(0:Int)<((x0::ex).length:Int):=by simp only[ae];omega
     have hgt3:0<(x0::ex).length:=by simp
     obtain⟨b1,o1,B0,d0,rfl,hbw1,hPb1,hY0,hR0⟩:=HR1.out.ec 0 hgt3;simp only[aV,a7,aE]at hY0 hR0;have hnd0:=gC 0 hgt3;have HC0:=G (jB 0 hgt3 HCL.out);simp only[aE]at hnd0 HC0;have HE0:=G (l7 k at_ x0);unfold CE at HE0;have HND:=G (show 7+pq x0<=1000000000 by omega);obtain⟨e0,e1,e2,e3,e4,e5⟩:=hY0;have HR0:=G hR0;have HBx0:=G (show(eJ (aN k.sz) x0 7 s1).big<=900000000 from HBx.out);clear hR0 hnd0;generalize (x0::ex).length=N0 at*;go_wp2_with (go_at_call 130;refine(HE0.out _ _ _ 7 _ _ _ HQ1.out.m HQ1.out.e HR0.out HC0.out (by decide) HND.out rfl HBx0.out).mono ?_;rintro e w2 ⟨rfl,O2,m,hS⟩;have HQ2:=G (HQ1.out.nx m hS);clear m hS HQ1 HE0 c0 e0 e1 e2 e3 e4 e5)
     go_meet
     case rel=>exact⟨_,HQ2⟩
   case rest=>
   obtain⟨O3,HQ3⟩:=hcut;have HKx:=G (show g8 (aN k.sz) ex s1=g8 (aN k.sz) ex s1 from rfl);generalize g8 (aN k.sz) ex s1=SX at*;clear c0 HKx;have c0:=HQ3.out.x.1.cell;by_cases h1:kd=1
   ·subst h1;rw[if_pos rfl]at HFx
    go_upto_region 14 with(go_at_call 71;refine(CO HQ3.out.m nm hnm HLx.out.1 (ax HLx.out.2 (by decide))).mono ?_;rintro e w4 ⟨rfl,O4,m,hS⟩;have HQ4:=G (HQ3.out.nx m hS);clear m hS HQ3 c0)
    have c0:=HQ4.out.x.1.cell;go_wp2_with (go_at_call 131;refine(zK HQ4.out.m _ nm hnm (by rw[bV];have:=HBx.out;omega)).mono ?_;rintro e w5 ⟨rfl,O5,m,hS⟩;have HQ5:=G (HQ4.out.nx m hS);clear m hS HQ4 c0);go_roundw
    case rel=>exact⟨j+1,_,_,by go_num,by omega,G (HFx.out▸HQ5.out.m),G HQ5.out.T,G HQ5.out.e,HD2,HL3⟩
    case measure=>simp[intOf];omega
   have n1:(kd==1)=false:=beq_eq_false_iff_ne.2 h1;rw[if_neg h1]at HFx;by_cases h2:kd=2
   ·subst h2;rw[if_pos rfl]at HFx;go_wp2_with (go_at_call 131;refine(zK HQ3.out.m _ nm hnm (ax HBx.out (by decide))).mono ?_;rintro e w4 ⟨rfl,O4,m,hS⟩;have HQ4:=G (HQ3.out.nx m hS);clear m hS HQ3 c0);go_roundw
    case rel=>exact⟨j+1,_,_,by go_num,by omega,G (HFx.out▸HQ4.out.m),G HQ4.out.T,G HQ4.out.e,HD2,HL3⟩
    case measure=>simp[intOf];omega
   have n2:(kd==2)=false:=beq_eq_false_iff_ne.2 h2;rw[if_neg h2]at HFx;by_cases h3:kd=3
   ·subst h3;rw[if_pos rfl]at HFx;have h2l:=H3c.out rfl;have h1l:1<ex.length:=by omega
    have hgt3:(1:Int)<(ex.length:Int):=by omega
    obtain⟨b1,o1,B0,d0,rfl,hbw1,hPb1,hY1,hR1⟩:=HRw.out.ec 1 h1l;simp only[cD]at hY1;have hnd0:=gC 1 h1l;have HC1:=G (jB 1 h1l HCL.out);have HE1:=G (l7 k at_ ex[1]);have HG:=G (zO (sz:=aN k.sz) h1l 7 (SX.op 15 7 15 28));rw[HG.out]at HFx;unfold CE at HE1;have hmE:=mt (aN k.sz) ex[1] 7 (SX.op 15 7 15 28);generalize ex[1]=x1 at*;have HND:=G (show 7+pq x1<=1000000000 by omega);generalize hSE:eJ (aN k.sz) x1 7 (SX.op 15 7 15 28)=SE at*;have HSE:=G hSE;have hel:=jg (aN k.sz) ((SE.op 3 8 7 0).op 14 7 15 28) 7 nm
    have HBE:=G (show SE.big+12<=900000000 by
     have:=HBS.out;rw[HFx.out,a8]at this;simp only[a8]at hel
     omega)
    have HEL:=G (show(((SE.op 3 8 7 0).op 14 7 15 28).elem (aN k.sz) 7 nm).big<=900000000 by have:=HBS.out;rw[HFx.out,a8]at this;omega);have HY1:=G hY1;have HR1':=G hR1;clear hY1 hR1 hnd0 hmE hel hSE
    go_upto_region 19 with(go_at_call 70;refine(fp HQ3.out.m 15 _ _ _ _ rfl (aT (ax HBx.out (by decide)))).mono ?_;rintro e w4 ⟨rfl,O4,m,hS⟩;have HQ4:=G (HQ3.out.nx m hS);clear m hS HQ3 c0)
    have c0:=HQ4.out.x.1.cell;obtain⟨e0,e1,e2,e3,e4,e5⟩:=HY1.out.kp (HQ4.out.T.keepP HM.out) hPb1 hbw1
    go_upto_region 20 with(go_at_call 130;refine(HE1.out _ _ (SX.op 15 7 15 28) 7 _ _ _ HQ4.out.m HQ4.out.e (HR1'.out.keep (HQ4.out.T.keepP HM.out) (Q:=fun b=>b<k.base) (fun _ h _=>h)) HC1.out (by decide) HND.out rfl (by rw[HSE.out];exact aK HBE.out)).mono ?_;rw[HSE.out];rintro e w5 ⟨rfl,O5,m,hS⟩;have HQ5:=G (HQ4.out.nx m hS);clear m hS HE1 HQ4 c0 e0 e1 e2 e3 e4 e5)
    go_upto_region 21 with(go_at_call 132;refine(l6 HQ5.out.m _ _ (ax (aK HBE.out) (by decide))).mono ?_;rintro e w6 ⟨rfl,O6,m,hS⟩;have HQ6:=G (HQ5.out.nx m hS);clear m hS HQ5)
    go_upto_region 22 with(go_at_call 70;refine(fp HQ6.out.m 14 _ _ _ _ rfl (aT (by rw[a8];have:=HBE.out;omega))).mono ?_;rintro e w7 ⟨rfl,O7,m,hS⟩;have HQ7:=G (HQ6.out.nx m hS);clear m hS HQ6)
    have c0:=HQ7.out.x.1.cell
    go_upto_region 23 with(go_at_call 133;refine(CN HQ7.out.m _ nm hnm (HQ7.out.e.2.2 nm) (by simp only[a8];have:=HBE.out;omega)).mono ?_;rintro e w8 ⟨rfl,O8,m,hS⟩;have HQ8:=G (HQ7.out.nx m hS);clear m hS HQ7 c0)
    go_wp2_with (go_at_call 70;refine(fp HQ8.out.m 17 _ _ _ _ rfl (aT (ax HEL.out (by decide)))).mono ?_;rintro e w9 ⟨rfl,O9,m,hS⟩;have HQ9:=G (HQ8.out.nx m hS);clear m hS HQ8);go_roundw
    case rel=>exact⟨j+1,_,_,by go_num,by omega,G (HFx.out▸HQ9.out.m),G HQ9.out.T,G HQ9.out.e,HD2,HL3⟩
    case measure=>simp[intOf];omega
   have n3:(kd==3)=false:=beq_eq_false_iff_ne.2 h3;rw[if_neg h3]at HFx;by_cases h6:kd=6
   ·subst h6;rw[if_pos rfl]at HFx
    go_wp2_with (first
     |(go_at_call 132;refine(l6 HQ3.out.m _ _ (ax HBx.out (by decide))).mono ?_;rintro e w4 ⟨rfl,O4,m,hS⟩;have HQ4:=G (HQ3.out.nx m hS);clear m hS HQ3 c0)
     |(go_at_call 73;refine(CT HQ4.out.m (by rw[a8];have:=HBx.out;omega)).mono ?_;rintro e w5 ⟨rfl,O5,m,hS⟩;have HQ5:=G (HQ4.out.nx m hS);clear m hS HQ4))
    go_roundw
    case rel=>exact⟨j+1,_,_,by go_num,by omega,G (HFx.out▸HQ5.out.m),G HQ5.out.T,G HQ5.out.e,HD2,HL3⟩
    case measure=>simp[intOf];omega
   have n6:(kd==6)=false:=beq_eq_false_iff_ne.2 h6;rw[if_neg h6]at HFx
   ·go_wp2_with fail;go_roundw
    case rel=>exact⟨j+1,_,_,by go_num,by omega,G (HFx.out▸HQ3.out.m),G HQ3.out.T,G HQ3.out.e,HD2,HL3⟩
    case measure=>simp[intOf];omega
  ·have hjN:N=j:=by omega
   obtain rfl:=hjN;have hlt': ¬(N:Int)<(N:Int):=by omega
   have HS1:=G (show s1=SF by have:=HD1.out;rw[bJ (show xs.length<=N from eh HN.out),dG]at this;exact this);rw[HS1.out]at m1;go_wp2_with fail;exact bodyPost_end (results_none rfl _ _ _) rfl ⟨rfl,_,m1.out,T1.out⟩
mutual
theorem zI (k:CC) (at_:List (Nm×Int)): ∀y:St,vF k at_ y.body/\vF k at_ y.els
 | .mk kd nm ex b e=>⟨mF k at_ b (kJ k at_ b),mF k at_ e (kJ k at_ e)⟩
theorem kJ (k:CC) (at_:List (Nm×Int)): ∀l:List St,∀y∈l,vF k at_ y.body/\vF k at_ y.els
 | [],y,h=>absurd h (by simp)
 |x::l,y,h=>by
  rcases List.mem_cons.1 h with e|e
  ·rw[e];exact zI k at_ x
  ·exact kJ k at_ l y e
end
theorem zJ (k:CC) (at_:List (Nm×Int)) (l:List St):vF k at_ l:=mF k at_ l (kJ k at_ l)
end
end Go.Proofs.YtoedmpgicdekmaaGreatDoor
