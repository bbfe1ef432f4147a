/- Parts of the proof. -/
import Derived.Test.YtoedmpgicdekmaaGreatDoorCl00
import Derived.Deep.CutBlock
import Derived.Deep.RegionWith
import Derived.Test.YtoedmpgicdekmaaGreatDoorCl26
import Derived.Test.YtoedmpgicdekmaaGreatDoorCl37
import Derived.Test.YtoedmpgicdekmaaGreatDoorCl17
set_option maxRecDepth 100000
set_option maxHeartbeats 8000000
set_option linter.unusedVariables false
set_option linter.unusedSimpArgs false
set_option linter.unusedSectionVars false
namespace Go.Proofs.YtoedmpgicdekmaaGreatDoor
open Go.Proofs.Tryz
section
open Go.RowKit
mutual
def G8:Ex->Bool
 | .mk k op nm tx v a=>
  decide (nm.length<=1000000000/\tx.length<=1000000000/\ -1099511627776<=v/\v<=1099511627776)&&
  (if k=4\/k=6 then decide (1<=a.length)&&CJ a
   else if k=5 then(match gh nm with
    |some (c,ls)=>decide (a.length<=ls.length)&&G9 ls a
    |none=>CJ a)
   else if k=7 then decide (2<=a.length)&&CJ a else true)
def CJ:List Ex->Bool
 | []=>true
 |y::r=>G8 y&&CJ r
def G9:List UInt8->List Ex->Bool
 | _,[]=>true
 |ls,y::r=>(if ls.headD 0=105 then G8 y else decide (y.nm.length<=1000000000/\y.tx.length<=1000000000))&&G9 ls.tail r
end
mutual
def rh:Ex->Nat
 | .mk k op nm tx v a=>1+qh a
def qh:List Ex->Nat
 | []=>0
 |y::r=>rh y+qh r
end
def ko (k:CC) (w:World):Prop:=BT w/\1<k.base/\ ∀nm,0<=aR k.sz nm/\aR k.sz nm<=1000000
theorem ko.ext {k:CC} {w w':World} (a:ko k w) (d:au w w'):ko k w':=⟨a.1.ext d,a.2⟩
theorem ko.st {k:CC} {at_:List (Nm×Int)} {O O':Nat->Prop} {w w':World} {s:CS} (o:ko k w) (m:CX k at_ O w s) (h:eb O w O' w'):ko k w':=by
 obtain⟨⟨t,fr,d⟩,a⟩:=o;exact⟨⟨t,fr,(h.1.block _ (Array.getElem?_eq_some_iff.1 d).1 (m.low a.1)).trans d⟩,a⟩
structure CQ (k:CC) (at_:List (Nm×Int)) (O0:Nat->Prop) (w0:World) (pb:Nat) (t:TypeId) (cs:Array Value) (O:Nat->Prop) (s:CS) (w:World):Prop where
 m:CX k at_ O w s
 T:eb O0 w0 O w
 x:LB O w pb t cs
 e:ko k w
section
variable {k:CC} {at_:List (Nm×Int)} {O0 O O':Nat->Prop} {w0 w w':World} {pb:Nat} {t:TypeId} {cs:Array Value} {s s':CS}
theorem CQ.nx (a:CQ k at_ O0 w0 pb t cs O s w) (m:CX k at_ O' w' s') (d:eb O w O' w'):CQ k at_ O0 w0 pb t cs O' s' w':=⟨m,a.T.trans d,a.x.st d,a.e.st a.m d⟩
theorem CQ.ext (d:CQ k at_ O0 w0 pb t cs O s w) (a:au w w'):CQ k at_ O0 w0 pb t cs O s w':=d.nx (d.m.ext a) (.of_ext a)
theorem CQ.new (m:CX k at_ O w s) (e:ko k w) (t:TypeId) (cs:Array Value):CQ k at_ O w w.heap.size t cs O s (w.alloc (.cells cs t)):=⟨m.ext (aa w _), .of_ext (aa w _), .new m t cs,e.ext (aa w _)⟩
theorem CQ.kp (d:CQ k at_ O0 w0 pb t cs O s w) (a:CX k at_ O0 w0 s'):dE (λb=>b<k.base) w0 w:=d.T.keepP a
theorem CQ.cp (a:CQ k at_ O0 w0 pb t cs O s w):CP k at_ O0 w0 s w:=⟨O,a.m,a.T⟩
end
structure EC (w:World) (b o:Nat) (k:Int) (op nm tx:List UInt8) (v:Int) (B:Option Addr) (n d:Nat):Prop where
 c0:w.cell? ⟨b,o,none⟩=some (.int .i64 k)
 c1:w.cell? ⟨b,o+1,none⟩=some (.string (ak op))
 c2:w.cell? ⟨b,o+2,none⟩=some (.string (ak nm))
 c3:w.cell? ⟨b,o+3,none⟩=some (.string (ak tx))
 c4:w.cell? ⟨b,o+4,none⟩=some (.int .i64 v)
 c5:w.cell? ⟨b,o+5,none⟩=some (.slice B n d)
theorem dL.ec {w:World} {P:Nat->Prop} {o:Option Addr} {n c:Nat} {xs:List Ex} (K:dL w P (.slice o n c) xs) (i:Nat) (u:i<xs.length):
  ∃b a B d,o=some ⟨b,a,none⟩/\b<w.heap.size/\P b/\EC w b (a+i*6) xs[i].k xs[i].op xs[i].nm xs[i].tx xs[i].v B xs[i].args.length d/\dL w P (.slice B xs[i].args.length d) xs[i].args:=by
 obtain⟨b,a,M,rfl,y,z,J,I,H,G,F,A,h⟩:=K.at_ i u;obtain⟨B,d,rfl,_⟩:=h.form;exact⟨b,a,B,d,rfl,y,z,⟨J,I,H,G,F,A⟩,h⟩
def CE (k:CC) (at_:List (Nm×Int)) (x:Ex):Prop:= ∀(O:Nat->Prop) (w:World) (s:CS) (r:Nat) (ri:Int) (A:Option Addr) (c:Nat),CX k at_ O w s->ko k w->dL w (λb=>b<k.base) (.slice A x.args.length c) x.args->
 G8 x=true->7<=r->r+rh x<=1000000000->ri=(r:Int)->(fA (aR k.sz) x r s).big<=900000000->
 Calls prog 130 #[.pointer (some ⟨k.c,0,none⟩), .agg #[.int .i64 x.k, .string (ak x.op), .string (ak x.nm), .string (ak x.tx), .int .i64 x.v, .slice A x.args.length c], .int .i64 ri] w λe w'=>e= .returned (.tuple #[])/\CP k at_ O w (fA (aR k.sz) x r s) w'
theorem kM: ∀{xs:List Ex} (i:Nat) (a:i<xs.length),CJ xs=true->G8 xs[i]=true
 |x::r,0,a,hc=>by rw[CJ,an]at hc;exact hc.1
 |x::r,i+1,a,hc=>by rw[CJ,an]at hc;exact kM i (by simpa using a) hc.2
theorem uo (x:Ex):1<=rh x:=by cases x;rw[rh];omega
theorem iy: ∀{xs:List Ex} (i:Nat) (a:i<xs.length),i+rh xs[i]<=qh xs
 |x::r,0,a=>by rw[qh];simp
 |x::r,i+1,a=>by rw[qh];have:=iy (xs:=r) i (by simpa using a);have:=uo x;simp only[aP];omega
theorem qg: ∀(xs:List Ex),xs.length<=qh xs
 | []=>aD _
 |x::r=>by rw[qh,ag];have:=qg r;have:=uo x;omega
theorem BR {sz:Nm->Int} {xs:List Ex} {j r:Nat} {s:CS} (a:j<xs.length):ti sz (xs.drop j) r s=ti sz (xs.drop (j+1)) (r+1) (fA sz xs[j] r s):=by rw[ap a,ti]
theorem tX {a d i:Nat} {s:CS} (h:0<d):pZ a d i s=pZ a (d-1) (i+1) (s.op a i 15 (4+4*((i:Int)-7))):=by
 obtain⟨e,rfl⟩:=dY (Nat.pos_iff_ne_zero.1 h);rfl
theorem Bd {r a i:Nat} {s:CS} (d:0<a):uw r a i s=uw r (a-1) (i+1) (s.op 3 (1+i) (r+i) 0):=by
 obtain⟨e,rfl⟩:=dY (Nat.pos_iff_ne_zero.1 d);rfl
theorem zo (k:CC) (at_:List (Nm×Int)) (op nm tx:List UInt8) (v:Int) (xs:List Ex) (bh: ∀a3∈xs,CE k at_ a3) (O:Nat->Prop) (w:World) (s:CS) (r:Nat) (V:Option Addr) (c:Nat) (m:CX k at_ O w s) (e:ko k w) (bl:dL w (λb=>b<k.base) (.slice V xs.length c) xs)
  (bd:CJ xs=true) (a6:7<=r) (a7:r+qh xs+1<=1000000000) (an:(kY nm xs.length r (ti (aR k.sz) xs r s)).big<=900000000):
  Calls prog 182 #[.pointer (some ⟨k.c,0,none⟩), .agg #[.int .i64 5, .string (ak op), .string (ak nm), .string (ak tx), .int .i64 v, .slice V xs.length c], .int .i64 (r:Int)] w λe w'=>e= .returned (.tuple #[])/\CP k at_ O w (kY nm xs.length r (ti (aR k.sz) xs r s)) w':=by
 have bL:=G m;have bI:=G bl;have bt:=G bd;have br:=G bh;have a9:=qg xs;obtain⟨N,ao⟩: ∃N,xs.length=N:=⟨_,rfl⟩
 have bq:=G ao;obtain⟨J,az⟩: ∃J,ti (aR k.sz) xs r s=J:=⟨_,rfl⟩
 have bn:=G az;rw[az,ao]at an;rw[ao]at a9;have bP:=G an;have aF:=G (show J.big+(2*(r-7)+N+3)<=900000000 by rw[dz]at an;exact an);have ap:=G a6;have bH:=G a7;have b5:(r:Int)<=1000000000:=Qa
 have b8:(N:Int)<=1000000000:=Qa
 rw[az,ao];have aX:=G (CQ.new m e 206 #[.int .i64 5, .string (ak op), .string (ak nm), .string (ak tx), .int .i64 v, .slice V N c]);clear m e bl bd bh an az ao a6 a7 a9;go_enter func182,ntmps182
 go_upto_region 1 with fail
 have A:=aX.out.x.1.cell;generalize World.alloc w _=ca at*
 go_upto_region 2 with fail
 clear A
 go_loopw [14] (λu wr=> ∃(j:Nat) (ab:Nat->Prop) (z:CS),u= .int .i64 (j:Int)/\j<=N/\Hid (CQ k at_ O w w.heap.size 206 #[.int .i64 5, .string (ak op), .string (ak nm), .string (ak tx), .int .i64 v, .slice V N c] ab z wr)/\Hid (ti (aR k.sz) (xs.drop j) (r+j) z=J)) (λu _=>N-(intOf u).toNat)
 case atStart=>exact⟨0,_,_,rfl,aD _,aX,bn⟩
 case round=>
  obtain⟨j,ab,z,rfl,aL,M,a1⟩:=hrel;clear aX;by_cases hlt:j<N
  ·have K:(j:Int)<(N:Int):=Qa
   have af:j<xs.length:=by rw[bq.out];exact hlt
   obtain⟨b,b4,B,a,rfl,ag,ai,bC,bg⟩:=bI.out.ec j af;have Z:=M.out.kp bL.out;obtain⟨e0,aU,aT,aS,aQ,aP⟩:=bC;replace e0:=(Z.cell _ ai ag).trans e0;replace aU:=(Z.cell _ ai ag).trans aU;replace aT:=(Z.cell _ ai ag).trans aT;replace aS:=(Z.cell _ ai ag).trans aS;replace aQ:=(Z.cell _ ai ag).trans aQ;replace aP:=(Z.cell _ ai ag).trans aP;have aB:=G (bg.keep Z (Q:=λb=>b<k.base) (λ_ ae _=>ae));have aY:=G (br.out _ (ay af));have bO:=G (kM j af bt.out);have ba:=iy j af;have H:=G ((BR af).symm.trans a1.out);have bK:=G (ww (aR k.sz) (xs.drop (j+1)) (r+j+1) (fA (aR k.sz) xs[j] (r+j) z));generalize wr=aj at*;unfold CE at aY;generalize xs[j]=a3 at*;have bJ:=G ba;clear bg Z ba af
   go_upto_region 4 with fail
   generalize be:World.alloc aj _=W1;obtain⟨aO,bu,_⟩:=kZ be;replace M:=G (M.out.ext aO);replace aB:=G (aB.out.keep (.of_ext aO) (Q:=λb=>b<k.base) (λ_ ae _=>ae));clear be aO e0 aU aT aS aQ aP;have A:=bu.out.cell
   go_upto_region 5 with(go_at_call 130;refine(aY.out _ _ _ (r+j) _ _ _ M.out.m M.out.e aB.out bO.out (by have:=ap.out;omega) (by have:=bJ.out;have:=bH.out;omega) Qa (by have:=bK.out;rw[H.out]at this;have:=aF.out;omega)).mono ?_;rintro e aw ⟨rfl,aV,X,o⟩;have d:=G (M.out.nx X o);clear X o aY M aB A)
   go_wp2_with fail;go_roundw
   case rel=>exact⟨j+1,_,_,by go_num,by omega,d,H⟩
   case measure=>simp[intOf];omega
  ·have aK:N=j:=Qa
   obtain rfl:=aK;have K: ¬(N:Int)<(N:Int):=Qa
   have bo:=G (show z=J by have:=a1.out;rw[bQ (by rw[bq.out];exact ah _),ti]at this;exact this);rw[bo.out]at M;clear a1 bo hlt aL bt br bn;generalize wr=bT at*
   go_upto_region 7 with fail
   clear K
   go_loopw [8] (λu wr=> ∃(a:Nat) (ab:Nat->Prop) (z:CS),u= .int .i64 ((r:Int)-(a:Int))/\a<=r-7/\Hid (CQ k at_ O w w.heap.size 206 #[.int .i64 5, .string (ak op), .string (ak nm), .string (ak tx), .int .i64 v, .slice V N c] ab z wr)/\Hid (pZ 15 a (r-a) z=pZ 15 (r-7) 7 J)) (λu _=>r-(intOf u).toNat)
   case atStart=>exact⟨r-7,_,_,by have:=ap.out;rw[show((r:Int)-((r-7:Nat):Int))=7 by omega],ah _,M,G (by have:=ap.out;rw[show r-(r-7)=7 by omega])⟩
   case round=>
    obtain⟨a,bG,al,rfl,aM,y,H⟩:=hrel;clear M;by_cases hd0:0<a
    ·have K:(r:Int)-(a:Int)<(r:Int):=Qa
     have bB:IntKind.i64.wrap ((r:Int)-(a:Int)-7)=(r:Int)-(a:Int)-7:=Qc
     have bA:IntKind.i64.wrap (4*((r:Int)-(a:Int)-7))=4*((r:Int)-(a:Int)-7):=Qc
     have bz:IntKind.i64.wrap (4+4*((r:Int)-(a:Int)-7))=4+4*((r:Int)-(a:Int)-7):=Qc
     have bx:IntKind.i64.wrap ((r:Int)-(a:Int)+1)=(r:Int)-(a:Int)+1:=Qc
     have av:=G (show al.big<=900000000 by have I:=congrArg CS.big H.out;rw[dF,dF]at I;have:=aF.out;omega);have ad:=G ((tX hd0).symm.trans H.out);generalize wr=aj at*;go_wp2_with (go_at_call 70;refine(f9 y.out.m 15 _ _ _ _ rfl (aZ (ax av.out Qd))).mono ?_;rintro e aw ⟨rfl,aV,X,o⟩;have d:=G (y.out.nx X o);clear X o y);go_roundw
     case rel=>exact⟨a-1,_,_,by rw[show((r:Int)-((a-1:Nat):Int))=(r:Int)-(a:Int)+1 by omega],by omega,d,G (by have:=ad.out;rw[show((r-a:Nat):Int)=(r:Int)-(a:Int) by omega]at this;rw[show r-(a-1)=r-a+1 by omega];exact this)⟩
     case measure=>simp[intOf];omega
    ·obtain rfl:a=0:=Qa
     have ac:=G (show al=pZ 15 (r-7) 7 J from H.out);rw[ac.out]at y;have ar:=G (show(pZ 15 (r-7) 7 J).big+((r-7)+N+3)<=900000000 by have:=aF.out;rw[dF];omega);have bM:=G (show kY nm N r J=(pZ 14 (r-7) 7 ((uw r N 0 (pZ 15 (r-7) 7 J)).call nm)).op 3 r 1 0 from rfl);generalize pZ 15 (r-7) 7 J=SV at*;have K: ¬(r:Int)-((0:Nat):Int)<(r:Int):=Qa
     clear hd0 aM H ac bP aF;generalize wr=bS at*;have A:=y.out.x.1.cell
     go_upto_region 11 with fail
     clear K A
     go_loopw [41] (λu wr=> ∃(j:Nat) (ab:Nat->Prop) (z:CS),u= .int .i64 (j:Int)/\j<=N/\Hid (CQ k at_ O w w.heap.size 206 #[.int .i64 5, .string (ak op), .string (ak nm), .string (ak tx), .int .i64 v, .slice V N c] ab z wr)/\Hid (uw r (N-j) j z=uw r N 0 SV)) (λu _=>N-(intOf u).toNat)
     case atStart=>exact⟨0,_,_,rfl,aD _,y,G rfl⟩
     case round=>
      obtain⟨j,aV,a4,rfl,aL,d,ad⟩:=hrel;clear y;by_cases hlt:j<N
      ·have K:(j:Int)<(N:Int):=Qa
       have av:=G (show a4.big<=900000000 by have I:=congrArg CS.big ad.out;rw[dW,dW]at I;have:=ar.out;omega);have bN:=G ((Bd (show 0<N-j by omega)).symm.trans ad.out);generalize wr=aj at*;go_wp2_with (go_at_call 132;refine(nS d.out.m _ _ (ax av.out Qd)).mono ?_;rintro e aw ⟨rfl,aA,am,o⟩;have R:=G (d.out.nx am o);clear am o d);go_roundw
       case rel=>exact⟨j+1,_,_,by go_num,by omega,R,G (by rw[show N-(j+1)=N-j-1 by omega];exact bN.out)⟩
       case measure=>simp[intOf];omega
      ·have aK:N=j:=Qa
       obtain rfl:=aK;have K: ¬(N:Int)<(N:Int):=Qa
       have ac:=G (show a4=uw r N 0 SV by have:=ad.out;rw[m_,uw]at this;exact this);rw[ac.out]at d;have aE:=G (show(uw r N 0 SV).big+((r-7)+3)<=900000000 by have:=ar.out;rw[dW];omega);generalize uw r N 0 SV=F at*;clear hlt aL ad ac ar;generalize wr=aI at*;have A:=d.out.x.1.cell
       go_upto_region 15 with fail
       clear K A
       go_cut []from 52 to 65 (λbw=> ∃aA,Hid (CQ k at_ O w w.heap.size 206 #[.int .i64 5, .string (ak op), .string (ak nm), .string (ak tx), .int .i64 v, .slice V N c] aA (F.call nm) bw))
       case first=>
        have bi:au aI aI.drew:=eJ (aG aI);replace d:=G (d.out.ext bi);obtain⟨bZ,bU,bW,bX,bV,ae,bD⟩:=d.out.m;have b6:=aZ (show F.big<=900000000 by have:=aE.out;omega);have b7:=qo (show F.big<=900000000 by have:=aE.out;omega);have bm:=G (uR ae 20 20 14 0 rfl Qa);have A:=ae.blk.cell;have aH:=d.out.x.1.cell;clear ae bi
        go_region_law (first
         |(refine lY IJ rfl _ _ rfl k.base _ F.calls.length (fO F.calls) rfl (aC.out.calls.alloc _) aJ.heap.size (nz (F.code.length,nm)) rfl (aq aJ _ _) rfl (ny _) Qa Qd (by rw[World.size_alloc];have:=(fw aC.out).1;omega) ?_;intro V b9 aj bb bc bj;obtain⟨aN,a8⟩:=aC.out.callm (n:=F.calls.length) (λb=>gW) (aa aJ _) (F.code.length,nm) rfl bb bc bj;clear A bF aH bv;have A:=aN.cell;have bE:=aN.frozen;have bp:=G a8;clear bb bc bj aN a8 aC)
         |(go_simp;go_at_call 69;refine bm.out.mono ?_;rintro e aJ ⟨rfl,a5⟩;obtain⟨bY,I,o⟩:=a5.own bD;have R:=G (d.out.nx ⟨_,_,_,_,_,I,λb=>gW⟩ o);have aC:=G I;clear A aH;have A:=I.blk.cell;have bF:=(I.blk.alloc (.cells #[.int .i64 (F.code.length:Int), .string (ak nm)] 155)).cell;have aH:=R.out.x.1.cell;have bv:=(R.out.x.1.alloc (.cells #[.int .i64 (F.code.length:Int), .string (ak nm)] 155)).cell;clear I bm o a5 d))
        all_goals
         clear A bE;go_wp2_with fail;obtain⟨cc,bk,bf⟩:=bp.out;have aW:=G (R.out.nx bk bf);clear bp bk bf R
         go_meet
         case rel=>exact⟨_,aW⟩
       case rest=>
        obtain⟨aA,R⟩:=hcut;clear d;have a2:=G (show(F.call nm).big+((r-7)+1)<=900000000 by have:=aE.out;rw[cA];omega);generalize F.call nm=SC at*;clear aE
        go_upto_region 17 with fail
        go_loopw [10] (λu wr=> ∃(a:Nat) (ab:Nat->Prop) (z:CS),u= .int .i64 ((r:Int)-(a:Int))/\a<=r-7/\Hid (CQ k at_ O w w.heap.size 206 #[.int .i64 5, .string (ak op), .string (ak nm), .string (ak tx), .int .i64 v, .slice V N c] ab z wr)/\Hid (pZ 14 a (r-a) z=pZ 14 (r-7) 7 SC)) (λu _=>r-(intOf u).toNat)
        case atStart=>exact⟨r-7,_,_,by have:=ap.out;rw[show((r:Int)-((r-7:Nat):Int))=7 by omega],ah _,R,G (by have:=ap.out;rw[show r-(r-7)=7 by omega])⟩
        case round=>
         obtain⟨a,bG,al,rfl,aM,y,H⟩:=hrel;clear R;by_cases hd0:0<a
         ·have K:(r:Int)-(a:Int)<(r:Int):=Qa
          have bB:IntKind.i64.wrap ((r:Int)-(a:Int)-7)=(r:Int)-(a:Int)-7:=Qc
          have bA:IntKind.i64.wrap (4*((r:Int)-(a:Int)-7))=4*((r:Int)-(a:Int)-7):=Qc
          have bz:IntKind.i64.wrap (4+4*((r:Int)-(a:Int)-7))=4+4*((r:Int)-(a:Int)-7):=Qc
          have bx:IntKind.i64.wrap ((r:Int)-(a:Int)+1)=(r:Int)-(a:Int)+1:=Qc
          have av:=G (show al.big<=900000000 by have I:=congrArg CS.big H.out;rw[dF,dF]at I;have:=a2.out;omega);have ad:=G ((tX hd0).symm.trans H.out);generalize wr=aj at*;go_wp2_with (go_at_call 70;refine(f9 y.out.m 14 _ _ _ _ rfl (aZ (ax av.out Qd))).mono ?_;rintro e aw ⟨rfl,aV,X,o⟩;have d:=G (y.out.nx X o);clear X o y);go_roundw
          case rel=>exact⟨a-1,_,_,by rw[show((r:Int)-((a-1:Nat):Int))=(r:Int)-(a:Int)+1 by omega],by omega,d,G (by have:=ad.out;rw[show((r-a:Nat):Int)=(r:Int)-(a:Int) by omega]at this;rw[show r-(a-1)=r-a+1 by omega];exact this)⟩
          case measure=>simp[intOf];omega
         ·obtain rfl:a=0:=Qa
          have ac:=G (show al=pZ 14 (r-7) 7 SC from H.out);rw[ac.out]at y;have ar:=G (show(pZ 14 (r-7) 7 SC).big<=900000000 by have:=a2.out;rw[dF];omega);generalize pZ 14 (r-7) 7 SC=cb at*;have K: ¬(r:Int)-((0:Nat):Int)<(r:Int):=Qa
          clear hd0 aM H ac a2;generalize wr=bR at*;go_wp2_with (go_at_call 132;refine(nS y.out.m _ _ (ax ar.out Qd)).mono ?_;rintro e aw ⟨rfl,aA,am,o⟩;have aW:=G (y.out.nx am o);clear am o y);exact bodyPost_end (results_none rfl _ _ _) rfl ⟨rfl,by rw[bM.out];exact aW.out.cp⟩
end
section
open Go.RowKit
theorem wL: ∀{ls:List UInt8} {xs:List Ex} (i:Nat) (d:i<xs.length) (a:i<ls.length),G9 ls xs=true->(if ls[i]=105 then G8 xs[i]else decide (xs[i].nm.length<=1000000000/\xs[i].tx.length<=1000000000))=true
 |l::ls,x::r,0,d,a,hc=>by rw[G9,an]at hc;exact hc.1
 |l::ls,x::r,i+1,d,a,hc=>by rw[G9,an]at hc;exact wL (ls:=ls) i (by simpa using d) (by simpa using a) hc.2
theorem mT {ls:List UInt8} {j:Nat} (a:j<ls.length):(ls.drop j).headD 0=ls[j]:=by rw[ap a,List.headD_cons]
theorem BQ {sz:Nm->Int} {ls:List UInt8} {xs:List Ex} {j r:Nat} {s:CS} (d:j<xs.length) (a:j<ls.length):qA sz (ls.drop j) (xs.drop j) r s=if ls[j]=105 then qA sz (ls.drop (j+1)) (xs.drop (j+1)) (r+1) (fA sz xs[j] r s)else qA sz (ls.drop (j+1)) (xs.drop (j+1)) r s:=by
 rw[ap d,qA,mT a,lu]
theorem Co {ls:List UInt8} {xs:List Ex} {j:Nat} (d:j<xs.length) (a:j<ls.length):vC (ls.drop j) (xs.drop j)=if ls[j]=105 then vC (ls.drop (j+1)) (xs.drop (j+1))+1 else vC (ls.drop (j+1)) (xs.drop (j+1)):=by
 rw[ap d,vC,mT a,lu]
theorem Cn {sz:Nm->Int} {ls:List UInt8} {xs:List Ex} {j:Nat} {a:Int} {s:CS} (h:j<xs.length) (d:j<ls.length):oP sz (ls.drop j) (xs.drop j) a s=if ls[j]=105 then oP sz (ls.drop (j+1)) (xs.drop (j+1)) a s else if xs[j].k=2 then oP sz (ls.drop (j+1)) (xs.drop (j+1)) xs[j].tx.length ((s.text 5 xs[j].tx).st 6 xs[j].tx.length)else oP sz (ls.drop (j+1)) (xs.drop (j+1)) (sz xs[j].nm) (s.dat 5 xs[j].nm):=by
 rw[ap h,oP,mT d,lu]
theorem EP {sz:Nm->Int} (ls:List UInt8) (a:Int) (s:CS):oP sz ls [] a s=(a,s):=by cases ls<;>rfl
theorem D5 {sz:Nm->Int} (ls:List UInt8) (r:Nat) (s:CS):qA sz ls [] r s=s:=by cases ls<;>rfl
theorem ER (ls:List UInt8):vC ls []=0:=by cases ls<;>rfl
def xQ (c:Int) (n r:Nat):Nat->CS->CS
 |0,s=>s
 |j+1,s=>zG c n r j (xQ c n r j s)
theorem nV (c:Int) (n r:Nat): ∀(j:Nat) (s:CS),(xQ c n r j s).big=s.big+j
 |0,s=>rfl
 |j+1,s=>by rw[xQ,eM,nV c n r j];omega
def IS (c:Int):Bool:=decide (c=9\/c=10)
theorem Cp (sz:Nm->Int) (c:Int) (ls:List UInt8) (u:List Ex) (r:Nat) (s:CS) (N:Nat) (z:vC ls u=N) (o:Int) (a:CS) (A:oP sz ls u 0 s=(o,a)) (d:Bool) (y:IS c=d):
  jB sz c ls u r s=((((if d=true then(xQ c N r 3 (if d=true then a.chk ((r:Int)+N-1) (min o 128)else a)).op 3 6 ((r:Int)+N-1) 0 else xQ c N r 3 (if d=true then a.chk ((r:Int)+N-1) (min o 128)else a))).vl 1 1 c).op 22 0 0 0).op 3 r 1 0:=by
 subst z y;unfold jB IS;rw[A];by_cases h:c=9\/c=10
 ·simp only[h,if_true,decide_true,xQ]
 ·simp only[h,if_false,decide_false,xQ];rfl
theorem EK (k:CC) (at_:List (Nm×Int)) (op nm tx:List UInt8) (v:Int) (xs:List Ex) (bL: ∀y∈xs,CE k at_ y) (O:Nat->Prop) (w:World) (s:CS) (r:Nat) (aL:Option Addr) (c:Nat) (o:Int) (ls:List UInt8) (m:CX k at_ O w s) (e:ko k w) (bN:dL w (λb=>b<k.base) (.slice aL xs.length c) xs)
  (bJ:xs.length<=ls.length) (bH:ls.length<=10) (ci:0<=o/\o<=100) (bK:G9 ls xs=true) (bC:7<=r) (bD:r+qh xs+1<=1000000000) (be:(jB (aR k.sz) o ls xs r (qA (aR k.sz) ls xs r s)).big<=900000000):
  Calls prog 181 #[.pointer (some ⟨k.c,0,none⟩), .agg #[.int .i64 5, .string (ak op), .string (ak nm), .string (ak tx), .int .i64 v, .slice aL xs.length c], .int .i64 (r:Int), .int .i64 o, .string (ak ls)] w λe w'=>e= .returned (.tuple #[])/\CP k at_ O w (jB (aR k.sz) o ls xs r (qA (aR k.sz) ls xs r s)) w':=by
 have bp:=G m;have bl:=G bN;have bt:=G bK;have bS:=G bL;have bF:=qg xs;have bR:=G bJ;have cV:=G bH;obtain⟨N,a4⟩: ∃N,xs.length=N:=⟨_,rfl⟩
 have aW:=G a4;obtain⟨ac,a2⟩: ∃ac,qA (aR k.sz) ls xs r s=ac:=⟨_,rfl⟩
 have bO:=G a2;obtain⟨u,bh⟩: ∃u,vC ls xs=u:=⟨_,rfl⟩
 have bP:=G (show 0+vC (ls.drop 0) (xs.drop 0)=u by rw[aE];exact bh);obtain⟨aH,au,az⟩: ∃aH au,oP (aR k.sz) ls xs 0 ac=(aH,au):=⟨_,_,rfl⟩
 have bW:=G az;obtain⟨ab,bg⟩: ∃ab,IS o=ab:=⟨_,rfl⟩
 have bk:=G bg;rw[a2]at be;rw[a4]at bF;rw[a2,a4];have bq:=G (Cp (aR k.sz) o ls xs r ac u bh aH au az ab bg);have cw:=G (show(jB (aR k.sz) o ls xs r ac).big<=900000000 from be);have bV:=G (show au.big+6<=900000000 by have:=oO (aR k.sz) o ls xs r ac;rw[az]at this;simp only at this;omega);have cv:=G (show ac.big<=900000000 by have bi:=mi (aR k.sz) ls xs 0 ac;have:=oO (aR k.sz) o ls xs r ac;omega);have ct:=G bC;have cr:=G bD;have cK:(r:Int)<=1000000000:=Qa
 have cR:(N:Int)<=10:=Qa
 obtain⟨cQ,cP⟩:=ci;have bn:=G (CQ.new m e 206 #[.int .i64 5, .string (ak op), .string (ak nm), .string (ak tx), .int .i64 v, .slice aL N c]);clear m e bN bK bL be a2 a4 bC bD bF bJ bH az bh bg;go_enter func181,ntmps181
 go_upto_region 1 with fail
 have aa:=bn.out.x.1.cell;generalize World.alloc w _=cT at*
 go_upto_region 3 with fail
 clear aa
 go_loopw [10,21] (λb5 af wr=> ∃(j q:Nat) (aM:Nat->Prop) (H:CS),af= .int .i64 (j:Int)/\b5= .int .i64 (q:Int)/\j<=N/\q<=j/\Hid (CQ k at_ O w w.heap.size 206 #[.int .i64 5, .string (ak op), .string (ak nm), .string (ak tx), .int .i64 v, .slice aL N c] aM H wr)/\Hid (qA (aR k.sz) (ls.drop j) (xs.drop j) (r+q) H=ac)/\Hid (q+vC (ls.drop j) (xs.drop j)=u)) (λ_ af _=>N-(intOf af).toNat)
 case atStart=>exact⟨0,0,_,_,rfl,rfl,aD _,ah _,bn,bO,bP⟩
 case round=>
  obtain⟨j,q,aM,H,rfl,rfl,aT,cL,K,aq,a8⟩:=hrel;clear bn bO bP;by_cases hlt:j<N
  ·have aS:(j:Int)<(N:Int):=Qa
   have X:j<xs.length:=by rw[aW.out];exact hlt
   have av:j<ls.length:=by have:=bR.out;omega
   obtain⟨b,b7,B,ck,rfl,M,R,bf,a3⟩:=bl.out.ec j X;have I:=K.out.kp bp.out;obtain⟨e0,ap,ao,an,am,al⟩:=bf;replace e0:=(I.cell _ R M).trans e0;replace ap:=(I.cell _ R M).trans ap;replace ao:=(I.cell _ R M).trans ao;replace an:=(I.cell _ R M).trans an;replace am:=(I.cell _ R M).trans am;replace al:=(I.cell _ R M).trans al;have a5:=G (a3.keep I (Q:=λb=>b<k.base) (λ_ aU _=>aU));have a9:=G (bS.out _ (ay X));have aX:=G (wL j X av bt.out);have bG:=iy j X;have J:=G ((BQ X av).symm.trans aq.out);have a6:=G (show q+_=u from(by rw[<-Co X av];exact a8.out:q+(if ls[j]=105 then vC (ls.drop (j+1)) (xs.drop (j+1))+1 else vC (ls.drop (j+1)) (xs.drop (j+1)))=u));have aP:=G (sO (aR k.sz) (ls.drop (j+1)) (xs.drop (j+1)) (r+q+1) (fA (aR k.sz) xs[j] (r+q) H));have aI:=λw=>lX ls j av w;generalize wr=aG at*;unfold CE at a9;generalize xs[j]=y at*;have cu:=G bG;clear a3 I bG X aq a8;by_cases h105:ls[j]=105
   ·rw[if_pos h105]at aX J a6;rw[h105]at aI;replace aI: ∀w,(Instr.index 9 (.string (ak ls)) (.int .i64 (j:Int))).run prog w= .ok (.int .u8 105) w:=aI;clear h105
    go_upto_region 5 with fail
    generalize ai:World.alloc aG _=W1;obtain⟨Z,z,_⟩:=kZ ai;replace K:=G (K.out.ext Z);replace a5:=G (a5.out.keep (.of_ext Z) (Q:=λb=>b<k.base) (λ_ aU _=>aU));clear ai Z e0 ap ao an am al;have aa:=z.out.cell;go_wp2_with (go_at_call 130;refine(a9.out _ _ _ (r+q) _ _ _ K.out.m K.out.e a5.out aX.out (by have:=ct.out;omega) (by have:=cu.out;have:=cr.out;omega) Qa (by have:=aP.out;rw[J.out]at this;have:=cv.out;omega)).mono ?_;rintro e ar ⟨rfl,aC,d,a⟩;have V:=G (K.out.nx d a);clear d a a9 K a5 aa);go_roundw
    case rel=>exact⟨j+1,q+1,_,_,by go_num,by go_num,by omega,by omega,V,J,G (by have:=a6.out;omega)⟩
    case measure=>simp[intOf];omega
   ·rw[if_neg h105]at J a6;have cd:((ls[j].toNat:Int)==105)=false:=Qn.2 λe=>h105 (UInt8.toNat_inj.1 (by show _=105;omega));generalize ls[j]=b9 at*;clear h105
    go_upto_region 5 with fail
    generalize ai:World.alloc aG _=W1;obtain⟨Z,z,_⟩:=kZ ai;replace K:=G (K.out.ext Z);clear ai Z e0 ap ao an am al z a9;go_wp2_with fail;go_roundw
    case rel=>exact⟨j+1,q,_,_,by go_num,rfl,by omega,by omega,K,J,a6⟩
    case measure=>simp[intOf];omega
  ·have bd:N=j:=Qa
   obtain rfl:=bd;have aS: ¬(N:Int)<(N:Int):=Qa
   have aV:=G (show H=ac by have:=aq.out;rw[bQ (show xs.length<=N from fC aW.out),D5]at this;exact this);have cc:u=q:=by have:=a8.out;rw[bQ (show xs.length<=N from fC aW.out),ER]at this;omega
   obtain rfl:=cc;rw[aV.out]at K;clear aq aV hlt aT bS a8;generalize wr=bX at*
   go_upto_region 9 with fail
   clear aS
   go_cut [14]from 39 to 44 (λb6 bc=>b6= .bool ab/\bc=bX)
   case first=>
    by_cases h9:o=9
    ·subst h9;have a:ab=true:=bk.out.symm.trans rfl;subst a;go_wp2_with fail
     go_meet
     case rel=>exact⟨rfl,rfl⟩
    ·have cC:(o==9)=false:=Qn.2 h9;by_cases h10:o=10
     ·subst h10;have a:ab=true:=bk.out.symm.trans rfl;subst a;go_wp2_with fail
      go_meet
      case rel=>exact⟨rfl,rfl⟩
     ·have b8:(o==10)=false:=Qn.2 h10;have a:ab=false:=bk.out.symm.trans (decide_eq_false Qa);subst a;go_wp2_with fail
      go_meet
      case rel=>exact⟨rfl,rfl⟩
   case rest=>
   obtain⟨rfl,rfl⟩:=hcut;have aa:=K.out.x.1.cell
   go_upto_region 11 with fail
   clear aa;have bU:=G (show(oP (aR k.sz) (ls.drop 0) (xs.drop 0) 0 ac)=(aH,au)from bW.out)
   go_loopw [11,48] (λb4 af wr=> ∃(j:Nat) (ag:Int) (aM:Nat->Prop) (H:CS),af= .int .i64 (j:Int)/\b4= .int .i64 ag/\j<=N/\(0<=ag/\ag<=1000000000)/\Hid (CQ k at_ O w w.heap.size 206 #[.int .i64 5, .string (ak op), .string (ak nm), .string (ak tx), .int .i64 v, .slice aL N c] aM H wr)/\Hid (oP (aR k.sz) (ls.drop j) (xs.drop j) ag H=(aH,au))) (λ_ af _=>N-(intOf af).toNat)
   case atStart=>exact⟨0,0,_,_,rfl,rfl,aD _,⟨by decide,by decide⟩,K,bU⟩
   case round=>
    obtain⟨j,ag,cq,H,rfl,rfl,aT,⟨cf,ce⟩,F,aq⟩:=hrel;clear K bU;by_cases hlt:j<N
    ·have aS:(j:Int)<(N:Int):=Qa
     have X:j<xs.length:=by rw[aW.out];exact hlt
     have av:j<ls.length:=by have:=bR.out;omega
     obtain⟨b,b7,B,ck,rfl,M,R,bf,a3⟩:=bl.out.ec j X;have I:=F.out.kp bp.out;obtain⟨e0,ap,ao,an,am,al⟩:=bf;replace e0:=(I.cell _ R M).trans e0;replace ap:=(I.cell _ R M).trans ap;replace ao:=(I.cell _ R M).trans ao;replace an:=(I.cell _ R M).trans an;replace am:=(I.cell _ R M).trans am;replace al:=(I.cell _ R M).trans al;have aX:=G (wL j X av bt.out);have J:=G ((Cn X av).symm.trans aq.out);have aP:=G (fun(l:Int) (bb:CS) (aU:oP (aR k.sz) (ls.drop (j+1)) (xs.drop (j+1)) l bb=(aH,au))=>show bb.big+6<=900000000 by have:=mi (aR k.sz) (ls.drop (j+1)) (xs.drop (j+1)) l bb;rw[aU]at this;have:=bV.out;simp only at*;omega);have aI:=λw=>lX ls j av w;generalize wr=aG at*;generalize xs[j]=y at*;clear a3 I X aq;by_cases h105:ls[j]=105
     ·rw[if_pos h105]at J;rw[h105]at aI;replace aI: ∀w,(Instr.index 9 (.string (ak ls)) (.int .i64 (j:Int))).run prog w= .ok (.int .u8 105) w:=aI;clear h105
      go_upto_region 15 with fail
      generalize ai:World.alloc aG _=W1;obtain⟨Z,z,_⟩:=kZ ai;replace F:=G (F.out.ext Z);clear ai Z e0 ap ao an am al;go_wp2_with fail;go_roundw
      case rel=>exact⟨j+1,ag,_,_,by go_num,rfl,by omega,⟨cf,ce⟩,F,J⟩
      case measure=>simp[intOf];omega
     ·rw[if_neg h105]at J aX;obtain⟨bz,cE⟩:=of_decide_eq_true aX.out;have cd:((ls[j].toNat:Int)==105)=false:=Qn.2 λe=>h105 (UInt8.toNat_inj.1 (by show _=105;omega));generalize ls[j]=b9 at*;clear h105
      go_upto_region 15 with fail
      generalize ai:World.alloc aG _=W1;obtain⟨Z,z,_⟩:=kZ ai;replace z:=G (show LB cq W1 aG.heap.size 206 _ from⟨z.out,F.out.m.new (ah _)⟩);replace F:=G (F.out.ext Z);clear ai Z e0 ap ao an am al;have aa:=z.out.1.cell;by_cases hk2:y.k=2
      ·rw[if_pos hk2]at J;have cg:(y.k==2)=true:=beq_iff_eq.2 hk2;have aY:=aP.out _ _ J.out;have cJ:(ak y.tx).size=y.tx.length:=a7 _;have cb:=j5 (H.text 5 y.tx) 6 y.tx.length;have ba:=G (show(H.text 5 y.tx).big<=900000000 by omega);clear hk2 aY cb aP
       go_upto_region 18 with(go_at_call 219;refine(Jv F.out.m 5 y.tx (ax ba.out Qd)).mono ?_;rintro e ar ⟨rfl,aC,d,a⟩;have V:=G (F.out.nx d a);replace z:=G (z.out.st a);clear aa;have aa:=z.out.1.cell;clear d a F)
       go_upto_region 19 with(go_at_call 179;refine(Ge V.out.m 6 y.tx.length Qa (ax ba.out Qd)).mono ?_;rintro e bu ⟨rfl,bj,bv,a⟩;have aO:=G (V.out.nx bv a);replace z:=G (z.out.st a);clear aa;have aa:=z.out.1.cell;clear bv a V)
       go_wp2_with fail;go_roundw
       case rel=>exact⟨j+1,(y.tx.length:Int),_,_,by go_num,rfl,by omega,⟨by omega,by omega⟩,aO,J⟩
       case measure=>simp[intOf];omega
      ·rw[if_neg hk2]at J;have cg:(y.k==2)=false:=Qn.2 hk2;have aY:=aP.out _ _ J.out;rw[cO]at aY;have ba:=G (show H.big<=900000000 by omega);clear hk2 aY aP
       go_upto_region 14 with(go_at_call 185;refine(EJ F.out.m 5 y.nm (ax ba.out Qd)).mono ?_;rintro e ar ⟨rfl,aC,d,a⟩;have V:=G (F.out.nx d a);replace z:=G (z.out.st a);clear aa d a F)
       obtain⟨ca,cD⟩:=V.out.e.2.2 y.nm;refine aB 8 1 [] mixed Qb trivial ?_;repeat (refine sx ?_ (λcz a1=> ?_) ?_;rotate_left;(focus have cB:=(tg (V.out.m.ext a1.un) (nm:=y.nm) (ax bz Qd)).1;have cA:=(tg (V.out.m.ext a1.un) (nm:=y.nm) (ax bz Qd)).2;have aa:=(z.out.1.ext a1.un).cell;clear a1;go_simp<;>with_reducible rfl);simp only[bA,bx,bw,br,bo])
       intro cy bB _;have aO:=G (V.out.ext bB.un);clear bB V z;simp only[ae,aw];go_wp2_with fail;go_roundw
       case rel=>exact⟨j+1,aR k.sz y.nm,_,_,by go_num,rfl,by omega,⟨ca,by omega⟩,aO,J⟩
       case measure=>simp[intOf];omega
    ·have bd:N=j:=Qa
     obtain rfl:=bd;have aS: ¬(N:Int)<(N:Int):=Qa
     have aV:=G (show(ag,H)=(aH,au) by have:=aq.out;rw[bQ (show xs.length<=N from fC aW.out),EP]at this;exact this);obtain⟨rfl,rfl⟩:=jW .. ▸aV.out;clear aq aV hlt aT bW bt bl bp;generalize wr=cx at*
     go_upto_region 21 with fail
     have cI:IntKind.i64.wrap ((r:Int)+(u:Int))=(r:Int)+(u:Int):=Qc
     have cH:IntKind.i64.wrap ((r:Int)+(u:Int)-1)=(r:Int)+(u:Int)-1:=Qc
     have cN:min ag 128<=128:=Qa
     have cM:0<=min ag 128:=Qa
     go_upto_if 86 with fail
     go_cut []from 86 to 94 (λbc=> ∃bj,Hid (CQ k at_ O w w.heap.size 206 #[.int .i64 5, .string (ak op), .string (ak nm), .string (ak tx), .int .i64 v, .slice aL N c] bj (if ab=true then H.chk ((r:Int)+u-1) (min ag 128)else H) bc))
     case first=>
      cases ab with
      |true=>
       go_wp2_with (go_at_call 186;refine(Iq F.out.m _ _ ⟨by omega,by omega⟩ (ax (aN bV.out) Qd)).mono ?_;rintro e ar ⟨rfl,aC,d,a⟩;have V:=G (F.out.nx d a);clear d a F)
       go_meet
       case rel=>exact⟨_,V⟩
      |false=>
       go_wp2_with fail
       go_meet
       case rel=>exact⟨_,F⟩
     case rest=>
      obtain⟨bj,aO⟩:=hcut;clear F;generalize (if ab=true then H.chk ((r:Int)+u-1) (min ag 128)else H)=aA at*
      have bT:=G (show aA.big+7<=900000001 by
       have:=cw.out;rw[bq.out]at this
       cases ab
       ·simp only[bE,bI,nV,aQ,if_false]at this;omega
       ·simp only[bE,bI,nV,if_true]at this;omega)
      go_upto_region 24 with fail
      go_loopw [95] (λaf wr=> ∃(j:Nat) (aM:Nat->Prop),af= .int .i64 (j:Int)/\j<=3/\Hid (CQ k at_ O w w.heap.size 206 #[.int .i64 5, .string (ak op), .string (ak nm), .string (ak tx), .int .i64 v, .slice aL N c] aM (xQ o u r j aA) wr)) (λaf _=>3-(intOf af).toNat)
      case atStart=>exact⟨0,_,rfl,aD _,aO⟩
      case round=>
       obtain⟨j,cU,rfl,aT,A⟩:=hrel;clear aO;generalize wr=aG at*;by_cases hlt:j<3
       ·have aS:(j:Int)<3:=Qa
        have ad:=G (show(xQ o u r j aA).big<=900000000 by rw[nV];have:=bT.out;omega);have aF:=G (show xQ o u r (j+1) aA=zG o u r j (xQ o u r j aA)from rfl);unfold zG at aF;have cG:IntKind.i64.wrap ((r:Int)+(j:Int))=(r:Int)+(j:Int):=Qc
        have cF:IntKind.i64.wrap (2+(j:Int))=2+(j:Int):=Qc
        generalize xQ o u r j aA=cl at*;by_cases bi:u<=j
        ·rw[if_pos (.inl bi)]at aF;have cj:(u:Int)<=(j:Int):=Qa
         go_wp2_with (go_at_call 69;refine(iW A.out.m 1 _ _ _ rfl (aZ (ax ad.out Qd))).mono ?_;rintro e ar ⟨rfl,aC,d,a⟩;have aj:=G (A.out.nx d a);clear d a A);go_roundw
         case rel=>exact⟨j+1,_,by go_num,by omega,G (by rw[aF.out];exact aj.out)⟩
         case measure=>simp[intOf];omega
        ·have cj: ¬(u:Int)<=(j:Int):=Qa
         by_cases az:o=10/\0<j
         ·rw[if_pos (.inr az)]at aF;obtain⟨rfl,bM⟩:=az;have cS:(0:Int)<(j:Int):=Qa
          go_wp2_with (go_at_call 69;refine(iW A.out.m 1 _ _ _ rfl (aZ (ax ad.out Qd))).mono ?_;rintro e ar ⟨rfl,aC,d,a⟩;have aj:=G (A.out.nx d a);clear d a A);go_roundw
          case rel=>exact⟨j+1,_,by go_num,by omega,G (by rw[aF.out];exact aj.out)⟩
          case measure=>simp[intOf];omega
         ·rw[if_neg (λe=>e.elim bi az)]at aF;by_cases h10:o=10
          ·subst h10;have bM:j=0:=Qa
           subst bM;go_wp2_with (go_at_call 132;refine(nS A.out.m _ _ (ax ad.out Qd)).mono ?_;rintro e ar ⟨rfl,aC,d,a⟩;have aj:=G (A.out.nx d a);clear d a A);go_roundw
           case rel=>exact⟨0+1,_,by go_num,by omega,G (by rw[aF.out];exact aj.out)⟩
           case measure=>simp[intOf]
          ·have b8:(o==10)=false:=Qn.2 h10;go_wp2_with (go_at_call 132;refine(nS A.out.m _ _ (ax ad.out Qd)).mono ?_;rintro e ar ⟨rfl,aC,d,a⟩;have aj:=G (A.out.nx d a);clear d a A);go_roundw
           case rel=>exact⟨j+1,_,by go_num,by omega,G (by rw[aF.out];exact aj.out)⟩
           case measure=>simp[intOf];omega
       ·have ch:j=3:=Qa
        subst ch;have ad:=G (show(xQ o u r 3 aA).big+4<=900000001 by rw[nV];have:=bT.out;omega);generalize xQ o u r 3 aA=cl at*;clear hlt aT
        cases ab with
        |true=>
         go_wp2_with (first
          |(go_at_call 132;refine(nS A.out.m _ _ (by have:=ad.out;omega)).mono ?_;rintro e ar ⟨rfl,aC,d,a⟩;have aj:=G (A.out.nx d a);clear d a A)
          |(go_at_call 69;refine(iW aj.out.m 1 _ _ _ rfl (aZ (by rw[bE];have:=ad.out;omega))).mono ?_;rintro e bu ⟨rfl,co,d,a⟩;have aK:=G (aj.out.nx d a);clear d a aj)
          |(go_at_call 70;refine(f9 aK.out.m 22 _ _ _ _ rfl (aZ (by rw[bI,bE];have:=ad.out;omega))).mono ?_;rintro e bZ ⟨rfl,cn,d,a⟩;have aJ:=G (aK.out.nx d a);clear d a aK)
          |(go_at_call 132;refine(nS aJ.out.m _ _ (by rw[bE,bI,bE];have:=ad.out;omega)).mono ?_;rintro e bY ⟨rfl,cm,d,a⟩;have bm:=G (aJ.out.nx d a);clear d a aJ))
         exact bodyPost_end (results_none rfl _ _ _) rfl ⟨rfl,by rw[bq.out];exact bm.out.cp⟩
        |false=>
         go_wp2_with (first
          |(go_at_call 69;refine(iW A.out.m 1 _ _ _ rfl (aZ (by have:=ad.out;omega))).mono ?_;rintro e bu ⟨rfl,co,d,a⟩;have aK:=G (A.out.nx d a);clear d a A)
          |(go_at_call 70;refine(f9 aK.out.m 22 _ _ _ _ rfl (aZ (by rw[bI];have:=ad.out;omega))).mono ?_;rintro e bZ ⟨rfl,cn,d,a⟩;have aJ:=G (aK.out.nx d a);clear d a aK)
          |(go_at_call 132;refine(nS aJ.out.m _ _ (by rw[bE,bI];have:=ad.out;omega)).mono ?_;rintro e bY ⟨rfl,cm,d,a⟩;have bm:=G (aJ.out.nx d a);clear d a aJ))
         exact bodyPost_end (results_none rfl _ _ _) rfl ⟨rfl,by rw[bq.out];exact bm.out.cp⟩
theorem EC.kp {w w':World} {P:Nat->Prop} {b u:Nat} {k:Int} {op nm tx:List UInt8} {v:Int} {B:Option Addr} {n y:Nat} (o:EC w b u k op nm tx v B n y) (a:dE P w w') (h:P b) (d:b<w.heap.size):EC w' b u k op nm tx v B n y:=
 ⟨(a.cell _ h d).trans o.c0,(a.cell _ h d).trans o.c1,(a.cell _ h d).trans o.c2,(a.cell _ h d).trans o.c3,(a.cell _ h d).trans o.c4,(a.cell _ h d).trans o.c5⟩
theorem tj {sz:Nm->Int} {xs:List Ex} (a:0<xs.length) (r:Nat) (s:CS):io sz xs r s=fA sz xs[0] r s:=by
 cases xs with
 |nil=>simp at a
 |cons x l=>rfl
theorem BS {sz:Nm->Int} {xs:List Ex} (a:1<xs.length) (r:Nat) (s:CS):tJ sz xs r s=fA sz xs[1] r s:=by
 cases xs with
 |nil=>simp at a
 |cons x l=>
  cases l with
  |nil=>simp at a
  |cons y l=>rfl
theorem ij (s:CS) (a:Nat) (d v:Int):(s.vl a d v).code.length=s.code.length+1:=by simp[CS.vl,CS.add]
theorem jz (s:CS) (a:Nat) (d b n:Int):(s.op a d b n).code.length=s.code.length+1:=by simp[CS.op,CS.add]
theorem kN (s:CS) (i:Nat):(s.land i).code.length=s.code.length:=by simp[CS.land]
theorem kO (s:CS) (r:Int):(s.inv r).code.length=s.code.length+2:=by simp[CS.inv,jz,ij]
theorem BY (s:CS) (r n:Int):s.code.length+1<=(s.st r n).code.length:=by unfold CS.st;split<;>simp only[ij]<;>omega
theorem B5 (s:CS) (r m:Int):s.code.length<=(s.chk r m).code.length:=by have:=BY s 0 (m+1);unfold CS.chk;simp only[jz,ij];omega
theorem D8 (s:CS) (r:Int) (t:List UInt8):(s.text r t).code.length=s.code.length+1:=by simp[CS.text,CS.vl,CS.add]
theorem wM (s:CS) (r:Int) (nm:Nm):(s.dat r nm).code.length=s.code.length+1:=by simp[CS.dat,CS.vl,CS.add]
theorem D9 (s:CS) (nm:Nm):(s.call nm).code.length=s.code.length+1:=by simp[CS.call,CS.vl,CS.add]
theorem B4 (s:CS) (a:Nat) (r:Int) (nm:Nm):s.code.length+1<=(s.ld a r nm).code.length:=by unfold CS.ld;split<;>simp only[jz,wM]<;>omega
theorem xL (sz:Nm->Int) (s:CS) (r:Int) (nm:Nm):s.code.length<=(s.elem sz r nm).code.length:=by have:=B5 s r (sz nm-1);unfold CS.elem;simp only[jz,wM];omega
theorem D_ (op:Nm) (r:Int) (s:CS):s.code.length<=(rm op r s).code.length:=by unfold rm;simp only;split<;>split<;>simp only[jz,kO]<;>omega
theorem BX (a:Nat): ∀(k i:Nat) (s:CS),(pZ a k i s).code.length=s.code.length+k
 |0,i,s=>rfl
 |k+1,i,s=>by rw[pZ,BX a k,jz];omega
theorem BZ (r:Nat): ∀(k i:Nat) (s:CS),(uw r k i s).code.length=s.code.length+k
 |0,i,s=>rfl
 |k+1,i,s=>by rw[uw,BZ r k,jz];omega
theorem B6 (nm:Nm) (n r:Nat) (s:CS):s.code.length<=(kY nm n r s).code.length:=by unfold kY;simp only[jz,BX,D9,BZ];omega
theorem Gi (c:Int) (n r i:Nat) (s:CS):(zG c n r i s).code.length=s.code.length+1:=by unfold zG;split<;>simp only[jz,ij]
section
variable (sz:Nm->Int)
theorem tm: ∀(ls:List UInt8) (d:List Ex) (a:Int) (s:CS),s.code.length<=(oP sz ls d a s).2.code.length
 | _,[],a,s=>ah _
 |ls,x::l,a,s=>by
  rw[oP];split
  ·exact tm ls.tail l a s
  split
  ·refine ax ?_ (tm ls.tail l _ _);have:=BY (s.text 5 x.tx) 6 x.tx.length;rw[D8]at this;omega
  ·refine ax ?_ (tm ls.tail l _ _);rw[wM];omega
theorem B7 (c:Int) (ls:List UInt8) (a:List Ex) (r:Nat) (s:CS):s.code.length<=(jB sz c ls a r s).code.length:=by
 unfold jB;have d:=tm sz ls a 0 s;have:=B5 (oP sz ls a 0 s).2 ((r:Int)+vC ls a-1) (min (oP sz ls a 0 s).1 128);simp only[jz,ij];split<;>simp only[jz,Gi]<;>omega
mutual
theorem wN: ∀(x:Ex) (r:Nat) (s:CS),s.code.length<=(fA sz x r s).code.length
 | .mk k op nm tx v a,r,s=>by
  rw[fA];have h:=Gk a r s;split
  ·have:=BY s r v;omega
  split
  ·have:=B4 s 14 r nm;omega
  split
  ·have:=xL sz (io sz a r s) r nm;rw[jz];omega
  split
  ·split
   ·rename_i c ls _;have h:=Gj ls a r s;have:=B7 sz c ls a r (qA sz ls a r s);omega
   ·have h:=Ij a r s;have:=B6 nm a.length r (ti sz a r s);omega
  split
  ·split
   ·rw[kO];omega
   ·rw[jz,ij];omega
  split
  ·split
   ·rw[kN,kO,kO];have d:=D' a r ((io sz a r s).vl 19 r 0);rw[ij]at d;omega
   split
   ·rw[kO,kN,kO];have d:=D' a r (((io sz a r s).inv r).vl 19 r 0);rw[ij,kO]at d;omega
   ·have d:=D' a (r+1) (io sz a r s);have:=D_ op r (tJ sz a (r+1) (io sz a r s));omega
  ·exact ah _
theorem Gk: ∀(l:List Ex) (r:Nat) (s:CS),s.code.length<=(io sz l r s).code.length
 | [],r,s=>ah _
 |x::_,r,s=>by rw[io];exact wN x r s
theorem D': ∀(l:List Ex) (r:Nat) (s:CS),s.code.length<=(tJ sz l r s).code.length
 | [],r,s=>ah _
 | _::l,r,s=>by rw[tJ];exact Gk l r s
theorem Ij: ∀(l:List Ex) (r:Nat) (s:CS),s.code.length<=(ti sz l r s).code.length
 | [],r,s=>ah _
 |x::l,r,s=>by rw[ti];exact ax (wN x r s) (Ij l (r+1) _)
theorem Gj: ∀(ls:List UInt8) (l:List Ex) (r:Nat) (s:CS),s.code.length<=(qA sz ls l r s).code.length
 | _,[],r,s=>ah _
 |ls,x::l,r,s=>by
  rw[qA];split
  ·exact ax (wN x r s) (Gj ls.tail l (r+1) _)
  ·exact Gj ls.tail l r s
end
end
theorem Cf (k:CC) (at_:List (Nm×Int)) (op nm tx:List UInt8) (v:Int) (xs:List Ex) (aE: ∀y∈xs,CE k at_ y) (O:Nat->Prop) (w:World) (s:CS) (r:Nat) (a6:Option Addr) (c:Nat) (m:CX k at_ O w s) (e:ko k w) (aF:dL w (λb=>b<k.base) (.slice a6 xs.length c) xs)
  (bd:2<=xs.length) (aA:CJ xs=true) (aS:7<=r) (aT:r+qh xs+1<=1000000000) (X:(fA (aR k.sz) (.mk 7 op nm tx v xs) r s).big<=900000000):
  Calls prog 184 #[.pointer (some ⟨k.c,0,none⟩), .agg #[.int .i64 7, .string (ak op), .string (ak nm), .string (ak tx), .int .i64 v, .slice a6 xs.length c], .int .i64 (r:Int)] w λe w'=>e= .returned (.tuple #[])/\CP k at_ O w (fA (aR k.sz) (.mk 7 op nm tx v xs) r s) w':=by
 have R:=G m;have al:0<xs.length:=Qa
 have aj:1<xs.length:=Qa
 obtain⟨b,bc,bD,bw,rfl,ap,aq,aC,aX⟩:=aF.ec 0 al;obtain⟨bx,bo,bC,bv,az,_,_,aB,aW⟩:=aF.ec 1 aj;injection az with az;injection az with M K;subst M K;simp only[aY,bm,cP]at aC aB;have aV:=iy 0 al;have aU:=iy 1 aj;have bk:=G (kM 0 al aA);have aM:=G (kM 1 aj aA);have aL:=G (aE _ (ay al));have ag:=G (aE _ (ay aj))
 have F:=G (show fA (aR k.sz) (.mk 7 op nm tx v xs) r s=if op=[38,38]then((((fA (aR k.sz) xs[1] r ((fA (aR k.sz) xs[0] r s).vl 19 r 0)).inv r).inv r).land (fA (aR k.sz) xs[0] r s).code.length)
   else if op=[124,124]then(((fA (aR k.sz) xs[1] r (((fA (aR k.sz) xs[0] r s).inv r).vl 19 r 0)).inv r).land ((fA (aR k.sz) xs[0] r s).inv r).code.length).inv r
   else rm op r (fA (aR k.sz) xs[1] (r+1) (fA (aR k.sz) xs[0] r s)) by
  rw[fA,if_neg Qd,if_neg Qd,if_neg Qd,if_neg Qd,if_neg Qd,if_pos rfl]
  simp only[tj al,BS aj])
 unfold CE at aL ag;have av:=G (λq a7=>ox (aR k.sz) xs[1] q a7);generalize xs[0]=ah at*;generalize xs[1]=H at*;obtain⟨N,aD⟩: ∃N,xs.length=N:=⟨_,rfl⟩
 rw[aD]at al aj;rw[aD];have bu:(0:Int)<(N:Int):=Qa
 have bt:(1:Int)<(N:Int):=Qa
 have bg:=G aC;have aH:=G aB;have bh:=G aX;have aI:=G aW;have bj:=G aV;have aJ:=G aU;have au:=G aS;have ar:=G aT;have V:=G X
 have a5:=G (show(fA (aR k.sz) ah r s).big<=900000000 by
  rw[F.out]at X;split at X
  ·rw[bM,bL,bL]at X;have:=av.out r ((fA (aR k.sz) ah r s).vl 19 r 0);rw[bI]at this;omega
  ·split at X
   ·rw[bL,bM,bL]at X;have:=av.out r (((fA (aR k.sz) ah r s).inv r).vl 19 r 0);rw[bI,bL]at this;omega
   ·have:=av.out (r+1) (fA (aR k.sz) ah r s);have:=(qI op r (fA (aR k.sz) H (r+1) (fA (aR k.sz) ah r s))).1
    omega)
 rw[F.out]at V;have bp:(r:Int)<=1000000000:=Qa
 have af:=G (CQ.new m e 206 #[.int .i64 7, .string (ak op), .string (ak nm), .string (ak tx), .int .i64 v, .slice (some ⟨b,bc,none⟩) N c]);clear m e aF aA aE X aD aS aT aC aB aX aW aV aU bd;go_enter func184,ntmps184
 go_upto_region 1 with fail
 generalize World.alloc w _=bz at*;have I:=af.out.x.1.cell;obtain⟨e0,M,K,ac,ab,aa⟩:=bg.out.kp (af.out.kp R.out) aq ap
 go_upto_region 2 with(go_at_call 130;refine(aL.out _ _ _ r _ _ _ af.out.m af.out.e (bh.out.keep (af.out.kp R.out) (Q:=λb=>b<k.base) (λ_ Z _=>Z)) bk.out au.out (by have:=bj.out;have:=ar.out;omega) rfl a5.out).mono ?_;rintro e bn ⟨rfl,bB,aP,a⟩;have A:=G (af.out.nx aP a);clear aP a aL af I e0 M K ac ab aa)
 generalize fA (aR k.sz) ah r s=z at*;have I:=A.out.x.1.cell;by_cases ha:op=[38,38]
 ·subst ha;rw[if_pos rfl]at F V;have u:=G (show(fA (aR k.sz) H r (z.vl 19 r 0)).big+4<=900000000 by have:=V.out;rw[bM,bL,bL]at this;omega)
  have aK:=G (show z.code.length<(((fA (aR k.sz) H r (z.vl 19 r 0)).inv r).inv r).code.length by
   have:=wN (aR k.sz) H r (z.vl 19 r 0)
   simp only[kO,ij]at this⊢;omega)
  go_upto_region 5 with(go_at_call 69;refine(iW A.out.m 19 _ _ _ rfl (aZ (ax a5.out Qd))).mono ?_;rintro e aO ⟨rfl,a1,m,a⟩;have d:=G (A.out.nx m a);clear m a A)
  clear I;have I:=d.out.x.1.cell;obtain⟨e0,M,K,ac,ab,aa⟩:=aH.out.kp (d.out.kp R.out) aq ap
  go_upto_region 6 with(go_at_call 130;refine(ag.out _ _ _ r _ _ _ d.out.m d.out.e (aI.out.keep (d.out.kp R.out) (Q:=λb=>b<k.base) (λ_ Z _=>Z)) aM.out (by have:=au.out;omega) (by have:=aJ.out;have:=ar.out;omega) Qa (aN u.out)).mono ?_;rintro e ai ⟨rfl,am,m,a⟩;have o:=G (d.out.nx m a);clear m a ag d I e0 M K ac ab aa)
  generalize fA (aR k.sz) H r (z.vl 19 r 0)=ad at*
  go_upto_region 7 with(go_at_call 183;refine(uX o.out.m _ (ax (aN u.out) Qd)).mono ?_;rintro e aw ⟨rfl,aG,m,a⟩;have J:=G (o.out.nx m a);clear m a o)
  go_upto_region 8 with(go_at_call 183;refine(uX J.out.m _ (by rw[bL];have:=u.out;omega)).mono ?_;rintro e a9 ⟨rfl,bf,m,a⟩;have ae:=G (J.out.nx m a);clear m a J)
  go_wp2_with (go_at_call 178;refine(rR ae.out.m _ aK.out (by rw[bL,bL];have:=u.out;omega)).mono ?_;rintro e a8 ⟨rfl,be,m,a⟩;have an:=G (ae.out.nx m a);clear m a ae);exact bodyPost_ret (results_none rfl _ _ _) rfl ⟨rfl,by rw[F.out];exact an.out.cp⟩
 have br:(op==[38,38])=false:=Qn.2 ha;rw[if_neg ha]at F V;by_cases ho:op=[124,124]
 ·subst ho;rw[if_pos rfl]at F V;have u:=G (show(fA (aR k.sz) H r ((z.inv r).vl 19 r 0)).big+4<=900000000 by have:=V.out;rw[bL,bM,bL]at this;omega);have a3:=G (show z.big<=900000000 by have:=av.out r ((z.inv r).vl 19 r 0);rw[bI,bL]at this;have:=u.out;omega)
  have aK:=G (show(z.inv r).code.length<((fA (aR k.sz) H r ((z.inv r).vl 19 r 0)).inv r).code.length by
   have:=wN (aR k.sz) H r ((z.inv r).vl 19 r 0)
   simp only[kO,ij]at this⊢;omega)
  go_upto_region 11 with(go_at_call 183;refine(uX A.out.m _ (ax a3.out Qd)).mono ?_;rintro e aO ⟨rfl,a1,m,a⟩;have d:=G (A.out.nx m a);clear m a A)
  clear I
  go_upto_region 12 with(go_at_call 69;refine(iW d.out.m 19 _ _ _ rfl (aZ (by rw[bL];have:=a3.out;omega))).mono ?_;rintro e ai ⟨rfl,am,m,a⟩;have o:=G (d.out.nx m a);clear m a d)
  have I:=o.out.x.1.cell;obtain⟨e0,M,K,ac,ab,aa⟩:=aH.out.kp (o.out.kp R.out) aq ap
  go_upto_region 13 with(go_at_call 130;refine(ag.out _ _ _ r _ _ _ o.out.m o.out.e (aI.out.keep (o.out.kp R.out) (Q:=λb=>b<k.base) (λ_ Z _=>Z)) aM.out (by have:=au.out;omega) (by have:=aJ.out;have:=ar.out;omega) Qa (aN u.out)).mono ?_;rintro e aw ⟨rfl,aG,m,a⟩;have J:=G (o.out.nx m a);clear m a ag o I e0 M K ac ab aa)
  generalize fA (aR k.sz) H r ((z.inv r).vl 19 r 0)=ad at*
  go_upto_region 14 with(go_at_call 183;refine(uX J.out.m _ (ax (aN u.out) Qd)).mono ?_;rintro e a9 ⟨rfl,bf,m,a⟩;have ae:=G (J.out.nx m a);clear m a J)
  go_upto_region 15 with(go_at_call 178;refine(rR ae.out.m _ aK.out (by rw[bL];have:=u.out;omega)).mono ?_;rintro e a8 ⟨rfl,be,m,a⟩;have an:=G (ae.out.nx m a);clear m a ae)
  go_wp2_with (go_at_call 183;refine(uX an.out.m _ (by rw[bM,bL];have:=u.out;omega)).mono ?_;rintro e bl ⟨rfl,bA,m,a⟩;have bi:=G (an.out.nx m a);clear m a an);exact bodyPost_ret (results_none rfl _ _ _) rfl ⟨rfl,by rw[F.out];exact bi.out.cp⟩
 have bq:(op==[124,124])=false:=Qn.2 ho;rw[if_neg ho]at F V;have u:=G (show(fA (aR k.sz) H (r+1) z).big+1<=900000000 by have:=V.out;have:=(qI op r (fA (aR k.sz) H (r+1) z)).1;omega);have a2:=G (Jx op)
 go_upto_region 16 with fail
 obtain⟨e0,M,K,ac,ab,aa⟩:=aH.out.kp (A.out.kp R.out) aq ap
 go_upto_region 17 with(go_at_call 130;refine(ag.out _ _ _ (r+1) _ _ _ A.out.m A.out.e (aI.out.keep (A.out.kp R.out) (Q:=λb=>b<k.base) (λ_ Z _=>Z)) aM.out (by have:=au.out;omega) (by have:=aJ.out;have:=ar.out;omega) Qa (aN u.out)).mono ?_;rintro e aO ⟨rfl,a1,m,a⟩;have d:=G (A.out.nx m a);clear m a ag A I e0 M K ac ab aa)
 generalize fA (aR k.sz) H (r+1) z=ad at*;have I:=d.out.x.1.cell;have a4:=G (show rm op r ad=if(sJ op).2.2=true then(if(sJ op).2.1=true then ad.op (sJ op).1 r (r+1) r else ad.op (sJ op).1 r r (r+1)).inv r else(if(sJ op).2.1=true then ad.op (sJ op).1 r (r+1) r else ad.op (sJ op).1 r r (r+1))from rfl);rw[a4.out]at F;clear a4;generalize (sJ op).1=ao at*;generalize (sJ op).2.1=bb at*;generalize (sJ op).2.2=ba at*
 go_upto_region 18 with(go_at_call 220;refine(a2.out _).mono ?_;rintro e ai ⟨rfl,rfl⟩;clear a2 I)
 cases bb<;>cases ba
 ·go_wp2_with (go_at_call 70;refine(f9 d.out.m ao _ _ _ _ rfl (aZ (ax (aN u.out) Qd))).mono ?_;rintro e ai ⟨rfl,am,m,a⟩;have o:=G (d.out.nx m a);clear m a d);exact bodyPost_end (results_none rfl _ _ _) rfl ⟨rfl,by rw[F.out];exact o.out.cp⟩
 ·go_wp2_with (first|(go_at_call 70;refine(f9 d.out.m ao _ _ _ _ rfl (aZ (ax (aN u.out) Qd))).mono ?_;rintro e ai ⟨rfl,am,m,a⟩;have o:=G (d.out.nx m a);clear m a d)|(go_at_call 183;refine(uX o.out.m _ (by simp only[bE,aQ,if_false,if_true];have:=u.out;omega)).mono ?_;rintro e aw ⟨rfl,aG,m,a⟩;have J:=G (o.out.nx m a);clear m a o));exact bodyPost_end (results_none rfl _ _ _) rfl ⟨rfl,by rw[F.out];exact J.out.cp⟩
 ·go_wp2_with (go_at_call 70;refine(f9 d.out.m ao _ _ _ _ rfl (aZ (ax (aN u.out) Qd))).mono ?_;rintro e ai ⟨rfl,am,m,a⟩;have o:=G (d.out.nx m a);clear m a d);exact bodyPost_end (results_none rfl _ _ _) rfl ⟨rfl,by rw[F.out];exact o.out.cp⟩
 ·go_wp2_with (first|(go_at_call 70;refine(f9 d.out.m ao _ _ _ _ rfl (aZ (ax (aN u.out) Qd))).mono ?_;rintro e ai ⟨rfl,am,m,a⟩;have o:=G (d.out.nx m a);clear m a d)|(go_at_call 183;refine(uX o.out.m _ (by simp only[bE,aQ,if_false,if_true];have:=u.out;omega)).mono ?_;rintro e aw ⟨rfl,aG,m,a⟩;have J:=G (o.out.nx m a);clear m a o));exact bodyPost_end (results_none rfl _ _ _) rfl ⟨rfl,by rw[F.out];exact J.out.cp⟩
end
section
open Go.RowKit
theorem Cl: ∀x∈tw,x.2.2.length<=10/\0<=x.2.1/\x.2.1<=100:=Qd
theorem wS {s:List UInt8} {c:Int} {ls:List UInt8} (a:gh s=some (c,ls)):ls.length<=10/\0<=c/\c<=100:=by
 unfold gh at a;rw[gV]at a;obtain⟨x,d,a⟩:=a;have:=Cl x (eO d);rwa [a]at this
theorem wQ (k:CC) (at_:List (Nm×Int)) (x:Ex) (az: ∀y∈x.args,CE k at_ y):CE k at_ x:=by
 obtain⟨F,op,nm,tx,v,xs⟩:=x;intro O w s r bd am c m e ap u aL ar a4 aP;subst a4;simp only[Ex.k,Ex.op,Ex.nm,Ex.tx,Ex.v,Ex.args]at ap az⊢;rw[rh]at ar;rw[G8,an]at u;obtain⟨aK,u⟩:=u;obtain⟨a5,bn,a3,a2⟩:=of_decide_eq_true aK;have aM:nm.length<=maxLen:=ax a5 Qd;clear aK;have bx:=G m;have bz:=G e;have bw:=G ap;have aq:=G az;have Z:=G aP;have ag:=G aL;have af:=G ar;have bo:(r:Int)<=1000000000:=Qa
 obtain⟨N,aw⟩: ∃N,xs.length=N:=⟨_,rfl⟩
 have ah:=G aw;rw[aw];have d:=G (CQ.new m e 206 #[.int .i64 F, .string (ak op), .string (ak nm), .string (ak tx), .int .i64 v, .slice am N c]);have aQ:=aa w (.cells #[.int .i64 F, .string (ak op), .string (ak nm), .string (ak tx), .int .i64 v, .slice am N c] 206);have M:=G (ap.keep (.of_ext aQ) (Q:=λb=>b<k.base) (λ_ J _=>J));clear m e ap az aP aL ar aw aQ;by_cases h1:F=1
 ·subst h1;have A:=G (show fA (aR k.sz) (.mk 1 op nm tx v xs) r s=s.st r v by rw[fA,if_pos rfl]);have aI:=G (show s.big<=900000000 by have:=Z.out;rw[A.out]at this;have:=j5 s r v;omega);go_enter func130,ntmps130
  go_upto_region 1 with fail
  generalize World.alloc w _=X at*;have z:=d.out.x.1.cell;go_wp2_with (go_at_call 179;refine(Ge d.out.m _ _ ⟨a3,a2⟩ (ax aI.out Qd)).mono ?_;rintro e ac ⟨rfl,aG,m,a⟩;have o:=G (d.out.nx m a);clear m a d z);exact bodyPost_end (results_none rfl _ _ _) rfl ⟨rfl,by rw[A.out];exact o.out.cp⟩
 have bl:(F==1)=false:=Qn.2 h1;by_cases h3:F=3
 ·subst h3;have A:=G (show fA (aR k.sz) (.mk 3 op nm tx v xs) r s=s.ld 14 r nm by rw[fA,if_neg Qd,if_pos rfl]);have aI:=G (show s.big<=900000000 by have:=Z.out;rw[A.out]at this;have:=oN s 14 r nm;omega);go_enter func130,ntmps130
  go_upto_region 1 with fail
  generalize World.alloc w _=X at*;have z:=d.out.x.1.cell;go_wp2_with (go_at_call 180;refine(Ii d.out.m _ nm aM (ax aI.out Qd)).mono ?_;rintro e ac ⟨rfl,aG,m,a⟩;have o:=G (d.out.nx m a);clear m a d z);exact bodyPost_end (results_none rfl _ _ _) rfl ⟨rfl,by rw[A.out];exact o.out.cp⟩
 have bk:(F==3)=false:=Qn.2 h3;by_cases h46:F=4\/F=6
 ·rw[if_pos h46,an]at u;have ad:0<xs.length:=by have:=of_decide_eq_true u.1;omega
  have aX:=G (kM 0 ad u.2);have aO:=iy 0 ad;have aV:=G aO;obtain⟨b,be,bA,bu,rfl,br,bt,av,aS⟩:=M.out.ec 0 ad;simp only[aY,bm]at av;have aT:=G av;have aU:=G aS;have ai:=G (aq.out _ (ay ad));have aW:=G (λr s=>tj (sz:=aR k.sz) ad r s);unfold CE at ai;have bq:(0:Int)<(N:Int):=by have:=ah.out;omega
  have bp:0<N:=by have:=ah.out;omega
  generalize xs[0]=K at*;clear aO av aS;rcases h46 with rfl|rfl
  ·have A:=G (show fA (aR k.sz) (.mk 4 op nm tx v xs) r s=((fA (aR k.sz) K r s).elem (aR k.sz) r nm).op 16 r 0 0 by rw[fA,if_neg Qd,if_neg Qd,if_pos rfl,aW.out]);have R:=G (show(fA (aR k.sz) K r s).big+10<=900000000 by have:=Z.out;rw[A.out,bE]at this;have:=km (aR k.sz) (fA (aR k.sz) K r s) r nm;omega);go_enter func130,ntmps130
   go_upto_region 1 with fail
   generalize World.alloc w _=X at*;have z:=d.out.x.1.cell;obtain⟨e0,aE,aD,aC,aB,aA⟩:=aT.out
   go_upto_region 8 with(go_at_call 130;refine(ai.out _ _ _ r _ _ _ d.out.m d.out.e aU.out aX.out ag.out (by have:=aV.out;have:=af.out;omega) rfl (aN R.out)).mono ?_;rintro e ac ⟨rfl,aG,m,a⟩;have o:=G (d.out.nx m a);clear m a d ai z e0 aE aD aC aB aA)
   generalize fA (aR k.sz) K r s=aF at*;have z:=o.out.x.1.cell;have bc:=G (km (aR k.sz) aF r nm)
   go_upto_region 9 with(go_at_call 133;refine(Fm o.out.m _ nm aM (o.out.e.2.2 nm) (ax (aN R.out) Qd)).mono ?_;rintro e ab ⟨rfl,ae,m,a⟩;have H:=G (o.out.nx m a);clear m a o z)
   generalize aF.elem (aR k.sz) r nm=bv at*;go_wp2_with (go_at_call 70;refine(f9 H.out.m 16 _ _ _ _ rfl (aZ (by have:=bc.out;have:=R.out;omega))).mono ?_;rintro e a1 ⟨rfl,bb,m,a⟩;have aH:=G (H.out.nx m a);clear m a H);exact bodyPost_end (results_none rfl _ _ _) rfl ⟨rfl,by rw[A.out];exact aH.out.cp⟩
  ·have A:=G (show fA (aR k.sz) (.mk 6 op nm tx v xs) r s=if op=[33]then(fA (aR k.sz) K r s).inv r else((fA (aR k.sz) K r s).vl 1 0 0).op 5 r 0 r by rw[fA,if_neg Qd,if_neg Qd,if_neg Qd,if_neg Qd,if_pos rfl,aW.out])
   have R:=G (show(fA (aR k.sz) K r s).big+2<=900000000 by
    have:=Z.out;rw[A.out]at this;split at this
    ·rw[bL]at this;omega
    ·rw[bE,bI]at this;omega)
   go_enter func130,ntmps130
   go_upto_region 1 with fail
   generalize World.alloc w _=X at*;have z:=d.out.x.1.cell;obtain⟨e0,aE,aD,aC,aB,aA⟩:=aT.out
   go_upto_region 17 with(go_at_call 130;refine(ai.out _ _ _ r _ _ _ d.out.m d.out.e aU.out aX.out ag.out (by have:=aV.out;have:=af.out;omega) rfl (aN R.out)).mono ?_;rintro e ac ⟨rfl,aG,m,a⟩;have o:=G (d.out.nx m a);clear m a d ai z e0 aE aD aC aB aA)
   generalize fA (aR k.sz) K r s=aF at*;have z:=o.out.x.1.cell;by_cases hx:op=[33]
   ·subst hx;rw[if_pos rfl]at A;go_wp2_with (go_at_call 183;refine(uX o.out.m _ (ax (aN R.out) Qd)).mono ?_;rintro e ab ⟨rfl,ae,m,a⟩;have H:=G (o.out.nx m a);clear m a o z);exact bodyPost_ret (results_none rfl _ _ _) rfl ⟨rfl,by rw[A.out];exact H.out.cp⟩
   ·rw[if_neg hx]at A;have bf:(op==[33])=false:=Qn.2 hx
    go_wp2_with (first
     |(go_at_call 69;refine(iW o.out.m 1 _ _ _ rfl (aZ (ax (aN R.out) Qd))).mono ?_;rintro e ab ⟨rfl,ae,m,a⟩;have H:=G (o.out.nx m a);clear m a o z)
     |(go_at_call 70;refine(f9 H.out.m 5 _ _ _ _ rfl (aZ (by rw[bI];have:=R.out;omega))).mono ?_;rintro e a1 ⟨rfl,bb,m,a⟩;have aH:=G (H.out.nx m a);clear m a H))
    exact bodyPost_end (results_none rfl _ _ _) rfl ⟨rfl,by rw[A.out];exact aH.out.cp⟩
 rw[if_neg h46]at u;have bj:(F==4)=false:=Qn.2 λe=>h46 (.inl e);have bh:(F==6)=false:=Qn.2 λe=>h46 (.inr e);by_cases h5:F=5
 ·subst h5;rw[if_pos rfl]at u
  cases hbl:gh nm with
  |some p=>
   obtain⟨ao,ls⟩:=p;have al:=G (λW (J:BT W)=>show Calls prog 175 #[.string (ak nm)] W λe w'=>e= .returned (.tuple #[.int .i64 ao, .string (ak ls), .bool true])/\au W w' from by have:=mh nm W J;rw[hbl]at this;exact this);rw[hbl]at u;simp only[an]at u;obtain⟨a6,a8,a7⟩:=wS hbl;have a9:=of_decide_eq_true u.1;have A:=G (show fA (aR k.sz) (.mk 5 op nm tx v xs) r s=jB (aR k.sz) ao ls xs r (qA (aR k.sz) ls xs r s) by rw[fA,if_neg Qd,if_neg Qd,if_neg Qd,if_pos rfl,hbl]);have aJ:=G (show(jB (aR k.sz) ao ls xs r (qA (aR k.sz) ls xs r s)).big<=900000000 by rw[<-A.out];exact Z.out);have aj:=G u.2;clear hbl u h46;go_enter func130,ntmps130
   go_upto_region 1 with fail
   generalize World.alloc w _=X at*;have z:=d.out.x.1.cell
   go_upto_region 12 with(go_at_call 175;refine(al.out _ d.out.e.1).mono ?_;rintro e ac ⟨rfl,V⟩;have o:=G (d.out.ext V);replace M:=G (M.out.keep (.of_ext V) (Q:=λb=>b<k.base) (λ_ J _=>J));clear al z d V;have z:=o.out.x.1.cell)
   have I:=G (EK k at_ op nm tx v xs aq.out _ _ s r am c ao ls o.out.m o.out.e M.out a9 a6 ⟨a8,a7⟩ aj.out ag.out (by have:=af.out;omega) aJ.out);rw[ah.out]at I;go_wp2_with (go_at_call 181;refine I.out.mono ?_;rintro e ab ⟨rfl,ae,m,a⟩;have H:=G (o.out.nx m a);clear m a o z I);exact bodyPost_ret (results_none rfl _ _ _) rfl ⟨rfl,by rw[A.out];exact H.out.cp⟩
  |none=>
   have al:=G (λW (J:BT W)=>show Calls prog 175 #[.string (ak nm)] W λe w'=>e= .returned (.tuple #[.int .i64 0, .string ⟨#[]⟩, .bool false])/\au W w' from by have:=mh nm W J;rw[hbl]at this;exact this);rw[hbl]at u;simp only at u;have A:=G (show fA (aR k.sz) (.mk 5 op nm tx v xs) r s=kY nm xs.length r (ti (aR k.sz) xs r s) by rw[fA,if_neg Qd,if_neg Qd,if_neg Qd,if_pos rfl,hbl]);have aJ:=G (show(kY nm xs.length r (ti (aR k.sz) xs r s)).big<=900000000 by rw[<-A.out];exact Z.out);have aj:=G u;clear hbl u h46;go_enter func130,ntmps130
   go_upto_region 1 with fail
   generalize World.alloc w _=X at*;have z:=d.out.x.1.cell
   go_upto_region 12 with(go_at_call 175;refine(al.out _ d.out.e.1).mono ?_;rintro e ac ⟨rfl,V⟩;have o:=G (d.out.ext V);replace M:=G (M.out.keep (.of_ext V) (Q:=λb=>b<k.base) (λ_ J _=>J));clear al z d V;have z:=o.out.x.1.cell)
   have I:=G (zo k at_ op nm tx v xs aq.out _ _ s r am c o.out.m o.out.e M.out aj.out ag.out (by have:=af.out;omega) aJ.out);rw[ah.out]at I A;go_wp2_with (go_at_call 182;refine I.out.mono ?_;rintro e ab ⟨rfl,ae,m,a⟩;have H:=G (o.out.nx m a);clear m a o z I);exact bodyPost_end (results_none rfl _ _ _) rfl ⟨rfl,by rw[A.out];exact H.out.cp⟩
 have bi:(F==5)=false:=Qn.2 h5;rw[if_neg h5]at u;by_cases h7:F=7
 ·subst h7;rw[if_pos rfl,an]at u;have ba:=of_decide_eq_true u.1;have aj:=G u.2;clear u h46;go_enter func130,ntmps130
  go_upto_region 1 with fail
  generalize World.alloc w _=X at*;have z:=d.out.x.1.cell;have I:=G (Cf k at_ op nm tx v xs aq.out _ _ s r am c d.out.m d.out.e M.out ba aj.out ag.out (by have:=af.out;omega) Z.out);rw[ah.out]at I;go_wp2_with (go_at_call 184;refine I.out.mono ?_;rintro e ab ⟨rfl,ae,m,a⟩;have H:=G (d.out.nx m a);clear m a d z I);exact bodyPost_end (results_none rfl _ _ _) rfl ⟨rfl,H.out.cp⟩
 ·have bg:(F==7)=false:=Qn.2 h7;have A:=G (show fA (aR k.sz) (.mk F op nm tx v xs) r s=s by rw[fA,if_neg h1,if_neg h3,if_neg (λe=>h46 (.inl e)),if_neg h5,if_neg (λe=>h46 (.inr e)),if_neg h7]);clear u h46;go_enter func130,ntmps130
  go_upto_region 1 with fail
  generalize World.alloc w _=X at*;have z:=d.out.x.1.cell;go_wp2_with fail;exact bodyPost_end (results_none rfl _ _ _) rfl ⟨rfl,by rw[A.out];exact d.out.cp⟩
mutual
theorem nU (k:CC) (at_:List (Nm×Int)): ∀x:Ex,CE k at_ x
 | .mk kd op nm tx v a=>wQ k at_ _ (uY k at_ a)
theorem uY (k:CC) (at_:List (Nm×Int)): ∀l:List Ex,∀y∈l,CE k at_ y
 | [],y,h=>absurd h Qe
 |x::l,y,h=>by
  rcases List.mem_cons.1 h with e|e
  ·rw[e];exact nU k at_ x
  ·exact uY k at_ l y e
end
end
section
open Go.RowKit
def CS.sf (s:CS):List (Nm×Int)×Int:=(s.slots,s.frame)
theorem j_ (s:CS) (a:Nat) (d b n:Int):(s.op a d b n).sf=s.sf:=rfl
theorem mx (s:CS) (a:Nat) (d v:Int):(s.vl a d v).sf=s.sf:=rfl
theorem l6 (s:CS) (i:Nat):(s.land i).sf=s.sf:=rfl
theorem oe (s:CS) (r:Int):(s.inv r).sf=s.sf:=rfl
theorem Dc (s:CS) (r:Int) (t:List UInt8):(s.text r t).sf=s.sf:=rfl
theorem AA (s:CS) (r:Int) (nm:Nm):(s.dat r nm).sf=s.sf:=rfl
theorem Dd (s:CS) (nm:Nm):(s.call nm).sf=s.sf:=rfl
theorem Ax (s:CS) (r n:Int):(s.st r n).sf=s.sf:=by unfold CS.st;split<;>rfl
theorem AB (s:CS) (r m:Int):(s.chk r m).sf=s.sf:=by unfold CS.chk;simp only[j_,mx,Ax]
theorem Az (s:CS) (a:Nat) (r:Int) (nm:Nm):(s.ld a r nm).sf=s.sf:=by unfold CS.ld;split<;>rfl
theorem De (op:Nm) (r:Int) (s:CS):(rm op r s).sf=s.sf:=by unfold rm;simp only;split<;>split<;>rfl
theorem Aw (a:Nat): ∀(k i:Nat) (s:CS),(pZ a k i s).sf=s.sf
 |0,i,s=>rfl
 |k+1,i,s=>by rw[pZ,Aw a k,j_]
theorem Ay (r:Nat): ∀(k i:Nat) (s:CS),(uw r k i s).sf=s.sf
 |0,i,s=>rfl
 |k+1,i,s=>by rw[uw,Ay r k,j_]
theorem AC (nm:Nm) (n r:Nat) (s:CS):(kY nm n r s).sf=s.sf:=by unfold kY;simp only[j_,Aw,Dd,Ay]
theorem FG (c:Int) (n r i:Nat) (s:CS):(zG c n r i s).sf=s.sf:=by unfold zG;split<;>rfl
section
variable (sz:Nm->Int)
theorem xp (s:CS) (r:Int) (nm:Nm):(s.elem sz r nm).sf=s.sf:=by unfold CS.elem;simp only[j_,AA,AB]
theorem sy: ∀(ls:List UInt8) (d:List Ex) (a:Int) (s:CS),(oP sz ls d a s).2.sf=s.sf
 | _,[],a,s=>rfl
 |ls,x::l,a,s=>by
  rw[oP];split
  ·exact sy ls.tail l a s
  split
  ·rw[sy ls.tail l,Ax,Dc]
  ·rw[sy ls.tail l,AA]
theorem AD (c:Int) (ls:List UInt8) (a:List Ex) (r:Nat) (s:CS):(jB sz c ls a r s).sf=s.sf:=by
 unfold jB;simp only[j_,mx];split<;>simp only[j_,FG,AB,sy]
mutual
theorem yp: ∀(x:Ex) (r:Nat) (s:CS),(fA sz x r s).sf=s.sf
 | .mk k op nm tx v a,r,s=>by
  rw[fA];split
  ·rw[Ax]
  split
  ·rw[Az]
  split
  ·rw[j_,xp,ub a]
  split
  ·split
   ·rw[AD,FH _ a]
   ·rw[AC,Hq a]
  split
  ·split
   ·rw[oe,ub a]
   ·rw[j_,mx,ub a]
  split
  ·split
   ·rw[l6,oe,oe,Df a,mx,ub a]
   split
   ·rw[oe,l6,oe,Df a,mx,oe,ub a]
   ·rw[De,Df a,ub a]
  ·rfl
theorem ub: ∀(l:List Ex) (r:Nat) (s:CS),(io sz l r s).sf=s.sf
 | [],r,s=>rfl
 |x::_,r,s=>by rw[io];exact yp x r s
theorem Df: ∀(l:List Ex) (r:Nat) (s:CS),(tJ sz l r s).sf=s.sf
 | [],r,s=>rfl
 | _::l,r,s=>by rw[tJ];exact ub l r s
theorem Hq: ∀(l:List Ex) (r:Nat) (s:CS),(ti sz l r s).sf=s.sf
 | [],r,s=>rfl
 |x::l,r,s=>by rw[ti,Hq l,yp x]
theorem FH: ∀(ls:List UInt8) (l:List Ex) (r:Nat) (s:CS),(qA sz ls l r s).sf=s.sf
 | _,[],r,s=>rfl
 |ls,x::l,r,s=>by
  rw[qA];split
  ·rw[FH _ l,yp x]
  ·rw[FH _ l]
end
theorem Hp: ∀(l:List Ex) (s:CS),(jk sz l s).sf=s.sf
 | [],s=>rfl
 |x::_,s=>by rw[jk];exact yp sz x 7 s
mutual
theorem If: ∀(x:St) (s:CS),(pP sz x s).frame=s.frame/\(pP sz x s).slots.length<=s.slots.length+oI x
 | .mk k nm ex b e,s=>by
  have q: ∀{u y:CS},u.sf=y.sf->u.frame=y.frame/\u.slots.length=y.slots.length:=λF=>by unfold CS.sf at F;injection F with h a;exact⟨a,by rw[h]⟩
  have A:=q (ub sz ex 7 s);have d:=q (Hp sz ex s);have h:=uM b ((io sz ex 7 s).vl 19 7 0);have z:=q (mx (io sz ex 7 s) 19 7 0);rw[pP,oI];split
  ·split
   ·have:=q (l6 (ee sz b ((io sz ex 7 s).vl 19 7 0)) (io sz ex 7 s).code.length);exact⟨by rw[this.1,h.1,z.1,A.1],by omega⟩
   ·have a:=uM e (((ee sz b ((io sz ex 7 s).vl 19 7 0)).vl 18 0 0).land (io sz ex 7 s).code.length);have o:=q (l6 ((ee sz b ((io sz ex 7 s).vl 19 7 0)).vl 18 0 0) (io sz ex 7 s).code.length);have H:=q (mx (ee sz b ((io sz ex 7 s).vl 19 7 0)) 18 0 0);have G:=q (l6 (ee sz e (((ee sz b ((io sz ex 7 s).vl 19 7 0)).vl 18 0 0).land (io sz ex 7 s).code.length)) (ee sz b ((io sz ex 7 s).vl 19 7 0)).code.length);exact⟨by rw[G.1,a.1,o.1,H.1,h.1,z.1,A.1],by omega⟩
  split
  ·have a:=q (l6 ((ee sz b ((io sz ex 7 s).vl 19 7 0)).vl 18 0 ((s.code.length:Int)-(ee sz b ((io sz ex 7 s).vl 19 7 0)).code.length-1)) (io sz ex 7 s).code.length);have o:=q (mx (ee sz b ((io sz ex 7 s).vl 19 7 0)) 18 0 ((s.code.length:Int)-(ee sz b ((io sz ex 7 s).vl 19 7 0)).code.length-1));exact⟨by rw[a.1,o.1,h.1,z.1,A.1],by omega⟩
  split
  ·rename_i I;have a:=q (Az ((jk sz ex s).decl nm) 15 7 nm);have o:((jk sz ex s).decl nm).slots.length<=(jk sz ex s).slots.length+1:=by
    show(iq _ _ _).length<=_;unfold iq;split<;>simp
   exact⟨by rw[a.1];exact d.1,by omega⟩
  split
  ·have a:=q (Az (jk sz ex s) 15 7 nm);exact⟨by rw[a.1,d.1],by omega⟩
  split
  ·have a:=q (show(((((tJ sz ex 7 ((jk sz ex s).op 15 7 15 28)).op 3 8 7 0).op 14 7 15 28).elem sz 7 nm).op 17 8 0 0).sf=(jk sz ex s).sf by rw[j_,xp,j_,j_,Df,j_]);exact⟨by rw[a.1,d.1],by omega⟩
  split
  ·have a:=q (show((jk sz ex s).op 3 1 7 0).back.sf=(jk sz ex s).sf from rfl);exact⟨by rw[a.1,d.1],by omega⟩
  ·exact⟨d.1,by omega⟩
theorem uM: ∀(l:List St) (s:CS),(ee sz l s).frame=s.frame/\(ee sz l s).slots.length<=s.slots.length+cN l
 | [],s=>⟨rfl,ah _⟩
 |x::l,s=>by
  have d:=If x s;have a:=uM l (pP sz x s);rw[ee,cN];exact⟨by rw[a.1,d.1],by omega⟩
end
mutual
theorem JA: ∀(x:St) (s:CS),s.code.length<=(pP sz x s).code.length
 | .mk k nm ex b e,s=>by
  rw[pP];have o:=Gk sz ex 7 s;have h:=rS b ((io sz ex 7 s).vl 19 7 0);rw[ij]at h;have d:=Jz ex s;split
  ·split
   ·rw[kN];omega
   ·rw[kN];have a:=rS e (((ee sz b ((io sz ex 7 s).vl 19 7 0)).vl 18 0 0).land (io sz ex 7 s).code.length);rw[kN,ij]at a;omega
  split
  ·rw[kN,ij];omega
  split
  ·have:=B4 ((jk sz ex s).decl nm) 15 7 nm;have a:((jk sz ex s).decl nm).code.length=(jk sz ex s).code.length:=rfl;omega
  split
  ·have:=B4 (jk sz ex s) 15 7 nm;omega
  split
  ·have a:=D' sz ex 7 ((jk sz ex s).op 15 7 15 28);have:=xL sz (((tJ sz ex 7 ((jk sz ex s).op 15 7 15 28)).op 3 8 7 0).op 14 7 15 28) 7 nm;simp only[jz]at this a⊢;omega
  split
  ·simp only[CS.back,jz];omega
  ·exact d
theorem rS: ∀(l:List St) (s:CS),s.code.length<=(ee sz l s).code.length
 | [],s=>ah _
 |x::l,s=>by rw[ee];exact ax (JA x s) (rS l _)
theorem Jz: ∀(l:List Ex) (s:CS),s.code.length<=(jk sz l s).code.length
 | [],s=>by rw[jk,ij];omega
 |x::_,s=>by rw[jk];exact wN sz x 7 s
end
end
mutual
def uU:St->Bool
 | .mk k nm ex b e=>decide (nm.length<=1000000000/\qh ex<=900000000)&&(if k=4\/k=5 then decide (1<=ex.length)else if k=3 then decide (2<=ex.length)else true)&&CJ ex&&(qC b&&qC e)
def qC:List St->Bool
 | []=>true
 |x::l=>uU x&&qC l
end
structure SC (w:World) (b o:Nat) (k:Int) (nm:List UInt8) (u1 u2 u3:Value):Prop where
 c0:w.cell? ⟨b,o,none⟩=some (.int .i64 k)
 c1:w.cell? ⟨b,o+1,none⟩=some (.string (ak nm))
 c2:w.cell? ⟨b,o+2,none⟩=some u1
 c3:w.cell? ⟨b,o+3,none⟩=some u2
 c4:w.cell? ⟨b,o+4,none⟩=some u3
theorem SC.kp {w w':World} {P:Nat->Prop} {b u:Nat} {k:Int} {nm:List UInt8} {u1 u2 u3:Value} (o:SC w b u k nm u1 u2 u3) (a:dE P w w') (h:P b) (d:b<w.heap.size):SC w' b u k nm u1 u2 u3:=
 ⟨(a.cell _ h d).trans o.c0,(a.cell _ h d).trans o.c1,(a.cell _ h d).trans o.c2,(a.cell _ h d).trans o.c3,(a.cell _ h d).trans o.c4⟩
theorem ed.sc {w:World} {P:Nat->Prop} {G:Option Addr} {n c:Nat} {xs:List St} (R:ed w P (.slice G n c) xs) (i:Nat) (a:i<xs.length):
  ∃b d E c1 B c2 L h,G=some ⟨b,d,none⟩/\b<w.heap.size/\P b/\SC w b (d+i*5) xs[i].k xs[i].nm (.slice E xs[i].ex.length c1) (.slice B xs[i].body.length c2) (.slice L xs[i].els.length h)/\dL w P (.slice E xs[i].ex.length c1) xs[i].ex/\ed w P (.slice B xs[i].body.length c2) xs[i].body/\ed w P (.slice L xs[i].els.length h) xs[i].els:=by
 cases R with
 |nil=>simp at a
 |row b d n c xs es bs ls hP hb hn hnc hm hc he hs hl=>
  obtain⟨M,K,F,A,z⟩:=hc i a;have y:=he i a;have u:=hs i a;have o:=hl i a;obtain⟨E,c1,J,_⟩:=y.form;obtain⟨B,c2,I,_⟩:=u.form;obtain⟨L,h,H,_⟩:=o.form;rw[J]at y F;rw[I]at u A;rw[H]at o z;exact⟨b,d,E,c1,B,c2,L,h,rfl,hb,hP,⟨M,K,F,A,z⟩,y,u,o⟩
def xV (k:CC) (at_:List (Nm×Int)) (l:List St):Prop:= ∀(O:Nat->Prop) (w:World) (s:CS) (A:Option Addr) (c:Nat),CX k at_ O w s->ko k w->ed w (λb=>b<k.base) (.slice A l.length c) l->
 qC l=true->s.frame≠0->s.slots.length+cN l<=1000->(ee (aR k.sz) l s).big<=900000000->
 Calls prog 72 #[.pointer (some ⟨k.c,0,none⟩), .slice A l.length c] w λe w'=>e= .returned (.tuple #[])/\CP k at_ O w (ee (aR k.sz) l s) w'
theorem CQ.box {k:CC} {at_:List (Nm×Int)} {O0 O:Nat->Prop} {w0 w:World} {s:CS} (m:CX k at_ O w s) (T:eb O0 w0 O w) (e:ko k w) (t:TypeId) (cs:Array Value):CQ k at_ O0 w0 w.heap.size t cs O s (w.alloc (.cells cs t)):=⟨m.ext (aa w _),T.ex (aa w _), .new m t cs,e.ext (aa w _)⟩
theorem qt {a d:CS} (h:a.sf=d.sf):a.frame=d.frame/\a.slots.length=d.slots.length:=by unfold CS.sf at h;injection h with u o;exact⟨o,by rw[u]⟩
end
section
open Go.RowKit
theorem BL {k:CC} {at_:List (Nm×Int)} {O:Nat->Prop} {w:World} {s:CS} (m:CX k at_ O w s): ∃C a,w.cell? ⟨k.c,1+1,none⟩=some (.slice C s.code.length a):=by
 obtain⟨z,h,u,y,o,d,A⟩:=m;obtain⟨C,a,rfl⟩:=ka d.code;exact⟨C,a,(d.blk.cell 2).trans rfl⟩
theorem EH (k:CC) (at_:List (Nm×Int)) (nm:List UInt8) (o:List Ex) (b e:List St) (ai:xV k at_ b) (ah:xV k at_ e) (O:Nat->Prop) (w:World) (s:CS) (E:Option Addr) (c1:Nat) (B:Option Addr) (c2:Nat) (L:Option Addr) (ao:Nat) (m:CX k at_ O w s) (aT:ko k w)
  (aW:dL w (λb=>b<k.base) (.slice E o.length c1) o) (aV:ed w (λb=>b<k.base) (.slice B b.length c2) b) (aU:ed w (λb=>b<k.base) (.slice L e.length ao) e)
  (aF:uU (.mk 4 nm o b e)=true) (ag:s.frame≠0) (aA:s.slots.length+oI (.mk 4 nm o b e)<=1000) (J:(pP (aR k.sz) (.mk 4 nm o b e) s).big<=900000000):
  Calls prog 128 #[.pointer (some ⟨k.c,0,none⟩), .agg #[.int .i64 4, .string (ak nm), .slice E o.length c1, .slice B b.length c2, .slice L e.length ao]] w λA w'=>A= .returned (.tuple #[])/\CP k at_ O w (pP (aR k.sz) (.mk 4 nm o b e) s) w':=by
 have ae:=G m;rw[uU,an,an,an,an,if_pos (.inl rfl)]at aF;obtain⟨⟨⟨aB,aS⟩,aK⟩,aJ,aI⟩:=aF;have V:0<o.length:=by have:=of_decide_eq_true aS;omega
 have bb:=(of_decide_eq_true aB).2;have bc:=iy 0 V;obtain⟨a8,ba,bQ,bF,rfl,be,bf,aj,aP⟩:=aW.ec 0 V;simp only[aY,bm]at aj;have bw:=G (kM 0 V aK)
 have aa:=G (show pP (aR k.sz) (.mk 4 nm o b e) s=if e.isEmpty=true then(ee (aR k.sz) b ((fA (aR k.sz) o[0] 7 s).vl 19 7 0)).land (fA (aR k.sz) o[0] 7 s).code.length
   else(ee (aR k.sz) e (((ee (aR k.sz) b ((fA (aR k.sz) o[0] 7 s).vl 19 7 0)).vl 18 0 0).land (fA (aR k.sz) o[0] 7 s).code.length)).land (ee (aR k.sz) b ((fA (aR k.sz) o[0] 7 s).vl 19 7 0)).code.length by
  rw[pP,if_pos rfl];simp only[tj V])
 have af:=qt (yp (aR k.sz) o[0] 7 s);have av:=G (nU k at_ o[0]);unfold CE at av;unfold xV at ai ah;have a1:=G ai;have aX:=G ah;rw[oI,if_neg Qd]at aA;generalize o[0]=aw at*;generalize aO:fA (aR k.sz) aw 7 s=u at*;have aE:=uM (aR k.sz) b (u.vl 19 7 0);have aH:=rS (aR k.sz) b (u.vl 19 7 0);have aD:=jM (aR k.sz) b (u.vl 19 7 0);rw[ij]at aH;rw[bI]at aD;have az:=qt (mx u 19 7 0);generalize aM:ee (aR k.sz) b (u.vl 19 7 0)=y at*;have bd:=qt (show((y.vl 18 0 0).land u.code.length).sf=y.sf from rfl);have aC:=jM (aR k.sz) e ((y.vl 18 0 0).land u.code.length);have aG:=rS (aR k.sz) e ((y.vl 18 0 0).land u.code.length);rw[bM,bI]at aC;rw[kN,ij]at aG;have am:y.big<=900000000/\(e.isEmpty=false->(ee (aR k.sz) e ((y.vl 18 0 0).land u.code.length)).big<=900000000):=by
  rw[aa.out]at J
  cases he:e.isEmpty with
  |true=>rw[he,if_pos rfl,bM]at J;exact⟨J,λF=>by cases F⟩
  |false=>rw[he,if_neg Qe,bM]at J;exact⟨by omega,λ_=>J⟩
 have ab:=G am;have a7:=G (show u.big+1<=900000000 by have:=am.1;omega)
 have ad:=G (show u.frame≠0/\u.slots.length+cN b<=1000/\y.frame≠0/\y.slots.length+cN e<=1000 by
  refine⟨by rw[af.1];exact ag,by omega,by rw[aE.1,az.1,af.1];exact ag,by omega⟩)
 have au:=G (show u.code.length<y.code.length/\y.code.length<(ee (aR k.sz) e ((y.vl 18 0 0).land u.code.length)).code.length by omega);generalize aL:ee (aR k.sz) e ((y.vl 18 0 0).land u.code.length)=bH at*;obtain⟨N,al⟩: ∃N,o.length=N:=⟨_,rfl⟩
 rw[al]at V;rw[al];obtain⟨X,aQ⟩: ∃X,e.length=X:=⟨_,rfl⟩
 have R:=G aQ;have bE:(0:Int)<(N:Int):=Qa
 have I:=G (CQ.new m aT 147 #[.int .i64 4, .string (ak nm), .slice (some ⟨a8,ba,none⟩) N c1, .slice B b.length c2, .slice L e.length ao]);have bq:=G aj;have bt:=G aP;have br:=G aV;have a5:=G aU;have bv:=G (show 7+rh aw<=1000000000 by omega);have bp:=G aJ;have bo:=G aI;have a4:=G aO;have a3:=G aM;have a2:=G aL;clear m aT aW aV aU aJ aI ai ah aA ag J aE aH aD az bd aC aG am al aQ aj aP bc bb aB aS aK af aO aM aL;go_enter func128,ntmps128
 go_upto_region 1 with fail
 generalize World.alloc w _=bG at*;have z:=I.out.x.1.cell;obtain⟨e0,bl,bk,bj,bi,bh⟩:=bq.out.kp (I.out.kp ae.out) bf be
 go_upto_region 2 with(go_at_call 130;refine(av.out _ _ s 7 _ _ _ I.out.m I.out.e (bt.out.keep (I.out.kp ae.out) (Q:=λb=>b<k.base) (λ_ F _=>F)) bw.out Qd bv.out rfl (by rw[a4.out];exact aN a7.out)).mono ?_;rw[a4.out];rintro A bD ⟨rfl,bP,ay,d⟩;have ar:=G (I.out.nx ay d);clear ay d av I z e0 bl bk bj bi bh)
 go_upto_region 3 with(go_at_call 69;refine(iW ar.out.m 19 _ _ _ rfl (aZ (ax (aN a7.out) Qd))).mono ?_;rintro A bC ⟨rfl,bO,m,d⟩;have M:=G (ar.out.nx m d);clear m d ar)
 have z:=M.out.x.1.cell
 go_upto_region 4 with(go_at_call 72;refine(a1.out _ _ _ _ _ M.out.m M.out.e (br.out.keep (M.out.kp ae.out) (Q:=λb=>b<k.base) (λ_ F _=>F)) bp.out ad.out.1 ad.out.2.1 (by rw[a3.out];exact ab.out.1)).mono ?_;rw[a3.out];rintro A bB ⟨rfl,bN,m,d⟩;have H:=G (M.out.nx m d);clear m d a1 M z)
 have z:=H.out.x.1.cell;by_cases hM0:0<X
 ·have bg:(0:Int)<(X:Int):=Qa
  have ac:e.isEmpty=false:=by cases e with|nil=>have:=R.out;simp at this;omega|cons a l=>rfl
  rw[ac,if_neg Qe]at aa;have a6:=G (ab.out.2 ac);rw[R.out]at z a5;have ap:=aX;rw[R.out]at ap
  go_upto_region 6 with(go_at_call 69;refine(iW H.out.m 18 _ _ _ rfl (aZ (ax ab.out.1 Qd))).mono ?_;rintro A a9 ⟨rfl,bn,m,d⟩;have Z:=G (H.out.nx m d);clear m d H z)
  go_upto_region 7 with(go_at_call 178;refine(rR Z.out.m _ (by rw[ij];have:=au.out.1;omega) (by rw[bI];have:=ab.out.1;omega)).mono ?_;rintro A bA ⟨rfl,bL,m,d⟩;have K:=G (Z.out.nx m d);clear m d Z)
  have z:=K.out.x.1.cell;rw[R.out]at z
  go_upto_region 8 with(go_at_call 72;refine(ap.out _ _ _ _ _ K.out.m K.out.e (a5.out.keep (K.out.kp ae.out) (Q:=λb=>b<k.base) (λ_ F _=>F)) bo.out ad.out.2.2.1 ad.out.2.2.2 (by rw[a2.out];exact a6.out)).mono ?_;rw[a2.out];rintro A bz ⟨rfl,bK,m,d⟩;have aq:=G (K.out.nx m d);clear m d aX ap K z)
  go_wp2_with (go_at_call 178;refine(rR aq.out.m _ au.out.2 (ax a6.out Qd)).mono ?_;rintro A bx ⟨rfl,bJ,m,d⟩;have bu:=G (aq.out.nx m d);clear m d aq);exact bodyPost_end (results_none rfl _ _ _) rfl ⟨rfl,by rw[aa.out];exact bu.out.cp⟩
 ·have bg: ¬(0:Int)<(X:Int):=Qa
  have ac:e.isEmpty=true:=by cases e with|nil=>rfl|cons a l=>have:=R.out;simp at this;omega
  rw[ac,if_pos rfl]at aa;rw[R.out]at z;go_wp2_with (go_at_call 178;refine(rR H.out.m _ au.out.1 (ax ab.out.1 Qd)).mono ?_;rintro A a9 ⟨rfl,bn,m,d⟩;have Z:=G (H.out.nx m d);clear m d H z);exact bodyPost_end (results_none rfl _ _ _) rfl ⟨rfl,by rw[aa.out];exact Z.out.cp⟩
theorem D4 (k:CC) (at_:List (Nm×Int)) (nm:List UInt8) (a:List Ex) (b e:List St) (J:xV k at_ b) (O:Nat->Prop) (w:World) (s:CS) (E:Option Addr) (c1:Nat) (B:Option Addr) (c2:Nat) (L:Value) (m:CX k at_ O w s) (aw:ko k w)
  (az:dL w (λb=>b<k.base) (.slice E a.length c1) a) (ay:ed w (λb=>b<k.base) (.slice B b.length c2) b)
  (al:uU (.mk 5 nm a b e)=true) (aj:s.frame≠0) (ag:s.slots.length+oI (.mk 5 nm a b e)<=1000) (K:(pP (aR k.sz) (.mk 5 nm a b e) s).big<=900000000):
  Calls prog 129 #[.pointer (some ⟨k.c,0,none⟩), .agg #[.int .i64 5, .string (ak nm), .slice E a.length c1, .slice B b.length c2,L]] w λz w'=>z= .returned (.tuple #[])/\CP k at_ O w (pP (aR k.sz) (.mk 5 nm a b e) s) w':=by
 have ab:=G m;rw[uU,an,an,an,an,if_pos (.inr rfl)]at al;obtain⟨⟨⟨ah,av⟩,ap⟩,ao,aO⟩:=al;have F:0<a.length:=by have:=of_decide_eq_true av;omega
 have aK:=(of_decide_eq_true ah).2;have aL:=iy 0 F;obtain⟨aG,aH,bw,bj,rfl,aQ,aS,M,au⟩:=az.ec 0 F;simp only[aY,bm]at M;have ba:=G (kM 0 F ap)
 have aE:=G (show pP (aR k.sz) (.mk 5 nm a b e) s=((ee (aR k.sz) b ((fA (aR k.sz) a[0] 7 s).vl 19 7 0)).vl 18 0 ((s.code.length:Int)-(ee (aR k.sz) b ((fA (aR k.sz) a[0] 7 s).vl 19 7 0)).code.length-1)).land (fA (aR k.sz) a[0] 7 s).code.length by
  rw[pP,if_neg Qd,if_pos rfl];simp only[tj F])
 have af:=qt (yp (aR k.sz) a[0] 7 s);have ac:=G (nU k at_ a[0]);unfold CE at ac;unfold xV at J;have aB:=G J;rw[oI,if_neg Qd]at ag;have aJ:=wN (aR k.sz) a[0] 7 s;generalize a[0]=ad at*;generalize ar:fA (aR k.sz) ad 7 s=o at*;have aM:=uM (aR k.sz) b (o.vl 19 7 0);have am:=rS (aR k.sz) b (o.vl 19 7 0);have ai:=jM (aR k.sz) b (o.vl 19 7 0);rw[ij]at am;rw[bI]at ai;have aI:=qt (mx o 19 7 0);generalize aq:ee (aR k.sz) b (o.vl 19 7 0)=y at*;have H:=G (show y.big+1<=900000000 by rw[aE.out,bM,bI]at K;exact K);have aF:=G (show o.big+1<=900000000 by have:=H.out;omega);have aA:=G (show o.frame≠0/\o.slots.length+cN b<=1000 from⟨by rw[af.1];exact aj,by omega⟩);have a9:=G (show o.code.length<y.code.length by omega);have aP:=aZ (show y.big<=900000000 by have:=H.out;omega);have bh:IntKind.i64.wrap ((s.code.length:Int)-y.code.length)=(s.code.length:Int)-y.code.length:=Qc
 have bg:IntKind.i64.wrap ((s.code.length:Int)-y.code.length-1)=(s.code.length:Int)-y.code.length-1:=Qc
 obtain⟨N,R⟩: ∃N,a.length=N:=⟨_,rfl⟩
 rw[R]at F;rw[R];have bi:(0:Int)<(N:Int):=Qa
 have u:=G (CQ.new m aw 147 #[.int .i64 5, .string (ak nm), .slice (some ⟨aG,aH,none⟩) N c1, .slice B b.length c2,L]);have a4:=G M;have a6:=G au;have a5:=G ay;have a8:=G (show 7+rh ad<=1000000000 by omega);have a3:=G ao;have aD:=G ar;have aC:=G aq;clear m aw az ay ao aO J ag aj K aM am ai aI R M au aL aK ah av ap af ar aq aJ aP;go_enter func129,ntmps129
 go_upto_region 1 with fail
 generalize World.alloc w _=bn at*;obtain⟨bv,bl,aU⟩:=BL u.out.m;have X:=u.out.x.1.cell;obtain⟨e0,a2,a1,aX,aW,aV⟩:=a4.out.kp (u.out.kp ab.out) aS aQ
 go_upto_region 2 with fail
 clear aU
 go_upto_region 3 with(go_at_call 130;refine(ac.out _ _ s 7 _ _ _ u.out.m u.out.e (a6.out.keep (u.out.kp ab.out) (Q:=λb=>b<k.base) (λ_ V _=>V)) ba.out Qd a8.out rfl (by rw[aD.out];exact aN aF.out)).mono ?_;rw[aD.out];rintro z bf ⟨rfl,bt,ae,d⟩;have aa:=G (u.out.nx ae d);clear ae d ac u X e0 a2 a1 aX aW aV)
 go_upto_region 4 with(go_at_call 69;refine(iW aa.out.m 19 _ _ _ rfl (aZ (ax (aN aF.out) Qd))).mono ?_;rintro z be ⟨rfl,br,m,d⟩;have A:=G (aa.out.nx m d);clear m d aa)
 have X:=A.out.x.1.cell
 go_upto_region 5 with(go_at_call 72;refine(aB.out _ _ _ _ _ A.out.m A.out.e (a5.out.keep (A.out.kp ab.out) (Q:=λb=>b<k.base) (λ_ V _=>V)) a3.out aA.out.1 aA.out.2 (by rw[aC.out];exact aN H.out)).mono ?_;rw[aC.out];rintro z bd ⟨rfl,bq,m,d⟩;have I:=G (A.out.nx m d);clear m d aB A X)
 obtain⟨bu,bk,aT⟩:=BL I.out.m
 go_upto_region 6 with(go_at_call 69;refine(iW I.out.m 18 _ _ _ rfl (aZ (ax (aN H.out) Qd))).mono ?_;rintro z bc ⟨rfl,bp,m,d⟩;have Z:=G (I.out.nx m d);clear m d I aT)
 go_wp2_with (go_at_call 178;refine(rR Z.out.m _ (by rw[ij];have:=a9.out;omega) (by rw[bI];have:=H.out;omega)).mono ?_;rintro z bb ⟨rfl,bo,m,d⟩;have a7:=G (Z.out.nx m d);clear m d Z);exact bodyPost_end (results_none rfl _ _ _) rfl ⟨rfl,by rw[aE.out];exact a7.out.cp⟩
theorem xJ: ∀{xs:List St} (i:Nat) (a:i<xs.length),qC xs=true->uU xs[i]=true
 |x::r,0,a,hc=>by rw[qC,an]at hc;exact hc.1
 |x::r,i+1,a,hc=>by rw[qC,an]at hc;exact xJ i (by simpa using a) hc.2
theorem zc {sz:Nm->Int} {xs:List St} {j:Nat} {s:CS} (a:j<xs.length):ee sz (xs.drop j) s=ee sz (xs.drop (j+1)) (pP sz xs[j] s):=by rw[ap a,ee]
theorem BJ {xs:List St} {j:Nat} (a:j<xs.length):cN (xs.drop j)=oI xs[j]+cN (xs.drop (j+1)):=by rw[ap a,cN]
theorem oJ (k:CC) (at_:List (Nm×Int)) (xs:List St) (bz: ∀az∈xs,xV k at_ az.body/\xV k at_ az.els):xV k at_ xs:=by
 intro O w s cT c m bA a2 bp bl bj aU;have bb:=G m;have cc:=G a2;have cj:=G bp;have bM:=G bz;obtain⟨N,aH⟩: ∃N,xs.length=N:=⟨_,rfl⟩
 have bG:=G aH;have cF:(N:Int)<=9223372036854775807:=by
  obtain⟨cS,c',q,bV⟩:=a2.form;rcases bV with rfl|⟨h1,ac,_⟩
  ·simp at aH;omega
  ·simp only[maxLen]at ac;omega
 obtain⟨ar,aG⟩: ∃ar,ee (aR k.sz) xs s=ar:=⟨_,rfl⟩
 have bN:=G (show ee (aR k.sz) (xs.drop 0) s=ar from aG);have bK:=G (show s.frame≠0/\s.slots.length+cN (xs.drop 0)<=1000 from⟨bl,bj⟩);rw[aG]at aU;rw[aG,aH];have cm:=G aU;have bh:=G m;have bB:=G (kt O w);have bR:=G bA;clear m bA a2 bp bz aU bl bj aG aH;go_enter func72,ntmps72
 go_upto_region 1 with fail
 go_loopw [8] (λaT wr=> ∃(j:Nat) (a5:Nat->Prop) (o:CS),aT= .int .i64 (j:Int)/\j<=N/\Hid (CX k at_ a5 wr o)/\Hid (eb O w a5 wr)/\Hid (ko k wr)/\Hid (ee (aR k.sz) (xs.drop j) o=ar)/\Hid (o.frame≠0/\o.slots.length+cN (xs.drop j)<=1000)) (λaT _=>N-(intOf aT).toNat)
 case atStart=>exact⟨0,_,_,rfl,aD _,bh,bB,bR,bN,bK⟩
 case round=>
  obtain⟨j,a5,o,rfl,cC,aA,aJ,bS,be,bJ⟩:=hrel;clear bh bB bR bN bK;by_cases hlt:j<N
  ·have bX:(j:Int)<(N:Int):=Qa
   have ab:j<xs.length:=by rw[bG.out];exact hlt
   obtain⟨b,cu,E,c1,B,c2,L,ad,rfl,b4,b5,bt,ai,bw,bv⟩:=cc.out.sc j ab;have ah:=aJ.out.keepP bb.out;obtain⟨e0,aq,ap,ao,am⟩:=bt.kp ah b5 b4;have b9:=G ai;have au:=G (ai.keep ah (Q:=λb=>b<k.base) (λ_ z _=>z));have aL:=G (bw.keep ah (Q:=λb=>b<k.base) (λ_ z _=>z));have a6:=G (bv.keep ah (Q:=λb=>b<k.base) (λ_ z _=>z));have aO:=G (xJ j ab cj.out);have bL:=G (bM.out _ (ay ab)).1;have cg:=G (bM.out _ (ay ab)).2;have Z:=G ((zc ab).symm.trans be.out);have aM:=bJ.out;rw[BJ ab]at aM;have bk:=jM (aR k.sz) (xs.drop (j+1)) (pP (aR k.sz) xs[j] o);have bo:=If (aR k.sz) xs[j] o;rw[Z.out]at bk;have aw:=G (show(pP (aR k.sz) xs[j] o).big<=900000000 by have:=cm.out;omega);have ae:=G (show(pP (aR k.sz) xs[j] o).frame≠0/\(pP (aR k.sz) xs[j] o).slots.length+cN (xs.drop (j+1))<=1000 from⟨by rw[bo.1];exact aM.1,by omega⟩);have aj:=G (show o.frame≠0/\o.slots.length+oI xs[j]<=1000 from⟨aM.1,by omega⟩);generalize wr=X at*;generalize xs[j]=az at*;have cR:=G ah;clear ah bt ai bw bv ab bk bo aM be bJ;obtain⟨u,nm,d,R,M⟩:=az;simp only[St.k,St.nm,St.ex,St.body,St.els]at*
   go_upto_region 3 with fail
   have A:=G (CQ.box aA.out aJ.out bS.out 147 #[.int .i64 u, .string (ak nm), .slice E d.length c1, .slice B R.length c2, .slice L M.length ad]);replace au:=G (au.out.keep (.of_ext (aa X (.cells #[.int .i64 u, .string (ak nm), .slice E d.length c1, .slice B R.length c2, .slice L M.length ad] 147))) (Q:=λb=>b<k.base) (λ_ z _=>z));replace aL:=G (aL.out.keep (.of_ext (aa X (.cells #[.int .i64 u, .string (ak nm), .slice E d.length c1, .slice B R.length c2, .slice L M.length ad] 147))) (Q:=λb=>b<k.base) (λ_ z _=>z));replace a6:=G (a6.out.keep (.of_ext (aa X (.cells #[.int .i64 u, .string (ak nm), .slice E d.length c1, .slice B R.length c2, .slice L M.length ad] 147))) (Q:=λb=>b<k.base) (λ_ z _=>z));have ce:=G (show dE (λb=>b<k.base) X (X.alloc (.cells #[.int .i64 u, .string (ak nm), .slice E d.length c1, .slice B R.length c2, .slice L M.length ad] 147))from .of_ext (aa X _));generalize World.alloc X _=cI at*;have H:=A.out.x.1.cell;clear aA aJ bS e0 aq ap ao am ce;have aB:nm.length<=maxLen:=by
    have:=aO.out;rw[uU,an,an,an]at this;exact ax (of_decide_eq_true this.1.1.1).1 Qd
   by_cases h4:u=4
   ·subst h4;go_wp2_with (go_at_call 128;refine(EH k at_ nm d R M bL.out cg.out _ _ o E c1 B c2 L ad A.out.m A.out.e au.out aL.out a6.out aO.out aj.out.1 aj.out.2 aw.out).mono ?_;rintro e aS ⟨rfl,a4,m,a⟩;have K:=G (A.out.nx m a);clear m a A H);go_roundw
    case rel=>exact⟨j+1,_,_,by go_num,by omega,G K.out.m,G K.out.T,G K.out.e,Z,ae⟩
    case measure=>simp[intOf];omega
   have cx:(u==4)=false:=Qn.2 h4;by_cases h5:u=5
   ·subst h5;go_wp2_with (go_at_call 129;refine(D4 k at_ nm d R M bL.out _ _ o E c1 B c2 _ A.out.m A.out.e au.out aL.out aO.out aj.out.1 aj.out.2 aw.out).mono ?_;rintro e aS ⟨rfl,a4,m,a⟩;have K:=G (A.out.nx m a);clear m a A H);go_roundw
    case rel=>exact⟨j+1,_,_,by go_num,by omega,G K.out.m,G K.out.T,G K.out.e,Z,ae⟩
    case measure=>simp[intOf];omega
   have cw:(u==5)=false:=Qn.2 h5
   have F:=G (show pP (aR k.sz) (.mk u nm d R M) o=if u=1 then((jk (aR k.sz) d o).decl nm).ld 15 7 nm else if u=2 then(jk (aR k.sz) d o).ld 15 7 nm
     else if u=3 then((((tJ (aR k.sz) d 7 ((jk (aR k.sz) d o).op 15 7 15 28)).op 3 8 7 0).op 14 7 15 28).elem (aR k.sz) 7 nm).op 17 8 0 0 else if u=6 then((jk (aR k.sz) d o).op 3 1 7 0).back else jk (aR k.sz) d o by rw[pP,if_neg h4,if_neg h5])
   have al:=aO.out;rw[uU,an,an,an]at al;have cB:=(of_decide_eq_true al.1.1.1).2;have bO:=G al.1.2
   have cn:=G (show u=3->2<=d.length from λe=>by
    have:=al.1.1.2;rw[if_neg Qa,if_pos e]at this
    exact of_decide_eq_true this)
   have af:=G (show(jk (aR k.sz) d o).big<=900000000 by
    have:=aw.out;rw[F.out]at this;split at this
    ·have z:=(oN ((jk (aR k.sz) d o).decl nm) 15 7 nm).1;rw[cf]at z;omega
    split at this
    ·have z:=(oN (jk (aR k.sz) d o) 15 7 nm).1;omega
    split at this
    ·have z:=ql (aR k.sz) d 7 ((jk (aR k.sz) d o).op 15 7 15 28);have ac:=(km (aR k.sz) (((tJ (aR k.sz) d 7 ((jk (aR k.sz) d o).op 15 7 15 28)).op 3 8 7 0).op 14 7 15 28) 7 nm).1;simp only[bE]at z ac this;omega
    split at this
    ·rw[dK,bE]at this;omega
    ·exact this)
   have bi:=qt (Hp (aR k.sz) d o);have bH:=G (show(jk (aR k.sz) d o).frame≠0/\(jk (aR k.sz) d o).slots.length<=1000 from⟨by rw[bi.1];exact aj.out.1,by have:=aj.out.2;omega⟩);have cQ:=G A.out;clear al bi
   go_upto_if 27 with fail
   go_cut []from 9 to 80 (λbT=> ∃bD,Hid (CQ k at_ O w X.heap.size 147 #[.int .i64 u, .string (ak nm), .slice E d.length c1, .slice B R.length c2, .slice L M.length ad] bD (jk (aR k.sz) d o) bT))
   case first=>
    cases d with
    |nil=>
     have cH:((0:Nat):Int)=0:=rfl;go_wp2_with (go_at_call 69;refine(iW A.out.m 1 _ _ _ rfl (aZ (by have:=af.out;rw[jk,bI]at this;omega))).mono ?_;rintro e aS ⟨rfl,a4,m,a⟩;have K:=G (A.out.nx m a);clear m a A H)
     go_meet
     case rel=>exact⟨_,K⟩
    |cons V d=>
     have bZ:((V::d).length:Int)≠0:=by simp only[ag];omega
     have cE:(((V::d).length:Int)==0)=false:=Qn.2 bZ;have cD:(0:Int)<((V::d).length:Int):=by simp only[ag];omega
     have aE:0<(V::d).length:=Qe
     obtain⟨b1,bU,co,b6,rfl,bq,bx,br,aW⟩:=au.out.ec 0 aE;simp only[aY,bm,aF]at br aW;have aC:=iy 0 aE;have bP:=G (kM 0 aE bO.out);simp only[aF]at aC bP;have bd:=G (nU k at_ V);unfold CE at bd;have ba:=G (show 7+rh V<=1000000000 by omega);obtain⟨e0,aq,ap,ao,am,aX⟩:=br;have cb:=G aW;have cl:=G (show(fA (aR k.sz) V 7 o).big<=900000000 from af.out);clear aW aC;generalize (V::d).length=cO at*;go_wp2_with (go_at_call 130;refine(bd.out _ _ _ 7 _ _ _ A.out.m A.out.e cb.out bP.out Qd ba.out rfl cl.out).mono ?_;rintro e aS ⟨rfl,a4,m,a⟩;have K:=G (A.out.nx m a);clear m a A bd H e0 aq ap ao am aX)
     go_meet
     case rel=>exact⟨_,K⟩
   case rest=>
   obtain⟨bD,I⟩:=hcut;have cd:=G (show jk (aR k.sz) d o=jk (aR k.sz) d o from rfl);generalize jk (aR k.sz) d o=aK at*;clear H cd;have H:=I.out.x.1.cell;by_cases h1:u=1
   ·subst h1;rw[if_pos rfl]at F
    go_upto_region 14 with(go_at_call 71;refine(Fo I.out.m nm aB bH.out.1 (ax bH.out.2 Qd)).mono ?_;rintro e aQ ⟨rfl,a3,m,a⟩;have y:=G (I.out.nx m a);clear m a I H)
    have H:=y.out.x.1.cell;go_wp2_with (go_at_call 131;refine(BO y.out.m _ nm aB (by rw[cf];have:=af.out;omega)).mono ?_;rintro e bg ⟨rfl,bC,m,a⟩;have J:=G (y.out.nx m a);clear m a y H);go_roundw
    case rel=>exact⟨j+1,_,_,by go_num,by omega,G (F.out▸J.out.m),G J.out.T,G J.out.e,Z,ae⟩
    case measure=>simp[intOf];omega
   have cA:(u==1)=false:=Qn.2 h1;rw[if_neg h1]at F;by_cases ac:u=2
   ·subst ac;rw[if_pos rfl]at F;go_wp2_with (go_at_call 131;refine(BO I.out.m _ nm aB (ax af.out Qd)).mono ?_;rintro e aQ ⟨rfl,a3,m,a⟩;have y:=G (I.out.nx m a);clear m a I H);go_roundw
    case rel=>exact⟨j+1,_,_,by go_num,by omega,G (F.out▸y.out.m),G y.out.T,G y.out.e,Z,ae⟩
    case measure=>simp[intOf];omega
   have cz:(u==2)=false:=Qn.2 ac;rw[if_neg ac]at F;by_cases h3:u=3
   ·subst h3;rw[if_pos rfl]at F;have cG:=cn.out rfl;have aI:1<d.length:=Qa
    have aE:(1:Int)<(d.length:Int):=Qa
    obtain⟨b1,bU,co,b6,rfl,bq,bx,aV,ai⟩:=b9.out.ec 1 aI;simp only[cP]at aV;have aC:=iy 1 aI;have ck:=G (kM 1 aI bO.out);have bc:=G (nU k at_ d[1]);have ch:=G (BS (sz:=aR k.sz) aI 7 (aK.op 15 7 15 28));rw[ch.out]at F;unfold CE at bc;have bW:=ox (aR k.sz) d[1] 7 (aK.op 15 7 15 28);generalize d[1]=bf at*;have ba:=G (show 7+rh bf<=1000000000 by omega);generalize bu:fA (aR k.sz) bf 7 (aK.op 15 7 15 28)=a1 at*;have bF:=G bu;have bn:=km (aR k.sz) ((a1.op 3 8 7 0).op 14 7 15 28) 7 nm
    have aP:=G (show a1.big+12<=900000000 by
     have:=aw.out;rw[F.out,bE]at this;simp only[bE]at bn
     omega)
    have ci:=G (show(((a1.op 3 8 7 0).op 14 7 15 28).elem (aR k.sz) 7 nm).big<=900000000 by have:=aw.out;rw[F.out,bE]at this;omega);have b7:=G aV;have ca:=G ai;clear aV ai aC bW bn bu
    go_upto_region 19 with(go_at_call 70;refine(f9 I.out.m 15 _ _ _ _ rfl (aZ (ax af.out Qd))).mono ?_;rintro e aQ ⟨rfl,a3,m,a⟩;have y:=G (I.out.nx m a);clear m a I H)
    have H:=y.out.x.1.cell;obtain⟨e0,aq,ap,ao,am,aX⟩:=b7.out.kp (y.out.T.keepP bb.out) bx bq
    go_upto_region 20 with(go_at_call 130;refine(bc.out _ _ (aK.op 15 7 15 28) 7 _ _ _ y.out.m y.out.e (ca.out.keep (y.out.T.keepP bb.out) (Q:=λb=>b<k.base) (λ_ z _=>z)) ck.out Qd ba.out rfl (by rw[bF.out];exact aN aP.out)).mono ?_;rw[bF.out];rintro e bg ⟨rfl,bC,m,a⟩;have J:=G (y.out.nx m a);clear m a bc y H e0 aq ap ao am aX)
    go_upto_region 21 with(go_at_call 132;refine(nS J.out.m _ _ (ax (aN aP.out) Qd)).mono ?_;rintro e ct ⟨rfl,cM,m,a⟩;have a9:=G (J.out.nx m a);clear m a J)
    go_upto_region 22 with(go_at_call 70;refine(f9 a9.out.m 14 _ _ _ _ rfl (aZ (by rw[bE];have:=aP.out;omega))).mono ?_;rintro e cr ⟨rfl,cL,m,a⟩;have av:=G (a9.out.nx m a);clear m a a9)
    have H:=av.out.x.1.cell
    go_upto_region 23 with(go_at_call 133;refine(Fm av.out.m _ nm aB (av.out.e.2.2 nm) (by simp only[bE];have:=aP.out;omega)).mono ?_;rintro e cq ⟨rfl,cK,m,a⟩;have a8:=G (av.out.nx m a);clear m a av H)
    go_wp2_with (go_at_call 70;refine(f9 a8.out.m 17 _ _ _ _ rfl (aZ (ax ci.out Qd))).mono ?_;rintro e cp ⟨rfl,cJ,m,a⟩;have a7:=G (a8.out.nx m a);clear m a a8);go_roundw
    case rel=>exact⟨j+1,_,_,by go_num,by omega,G (F.out▸a7.out.m),G a7.out.T,G a7.out.e,Z,ae⟩
    case measure=>simp[intOf];omega
   have cy:(u==3)=false:=Qn.2 h3;rw[if_neg h3]at F;by_cases h6:u=6
   ·subst h6;rw[if_pos rfl]at F
    go_wp2_with (first
     |(go_at_call 132;refine(nS I.out.m _ _ (ax af.out Qd)).mono ?_;rintro e aQ ⟨rfl,a3,m,a⟩;have y:=G (I.out.nx m a);clear m a I H)
     |(go_at_call 73;refine(Fp y.out.m (by rw[bE];have:=af.out;omega)).mono ?_;rintro e bg ⟨rfl,bC,m,a⟩;have J:=G (y.out.nx m a);clear m a y))
    go_roundw
    case rel=>exact⟨j+1,_,_,by go_num,by omega,G (F.out▸J.out.m),G J.out.T,G J.out.e,Z,ae⟩
    case measure=>simp[intOf];omega
   have cv:(u==6)=false:=Qn.2 h6;rw[if_neg h6]at F
   ·go_wp2_with fail;go_roundw
    case rel=>exact⟨j+1,_,_,by go_num,by omega,G (F.out▸I.out.m),G I.out.T,G I.out.e,Z,ae⟩
    case measure=>simp[intOf];omega
  ·have bY:N=j:=Qa
   obtain rfl:=bY;have bX: ¬(N:Int)<(N:Int):=Qa
   have b8:=G (show o=ar by have:=be.out;rw[bQ (show xs.length<=N from fC bG.out),ee]at this;exact this);rw[b8.out]at aA;go_wp2_with fail;exact bodyPost_end (results_none rfl _ _ _) rfl ⟨rfl,_,aA.out,aJ.out⟩
mutual
theorem BM (k:CC) (at_:List (Nm×Int)): ∀a:St,xV k at_ a.body/\xV k at_ a.els
 | .mk kd nm ex b e=>⟨oJ k at_ b (mg k at_ b),oJ k at_ e (mg k at_ e)⟩
theorem mg (k:CC) (at_:List (Nm×Int)): ∀l:List St,∀y∈l,xV k at_ y.body/\xV k at_ y.els
 | [],y,h=>absurd h Qe
 |x::l,y,h=>by
  rcases List.mem_cons.1 h with e|e
  ·rw[e];exact BM k at_ x
  ·exact mg k at_ l y e
end
theorem BN (k:CC) (at_:List (Nm×Int)) (l:List St):xV k at_ l:=oJ k at_ l (mg k at_ l)
end
end Go.Proofs.YtoedmpgicdekmaaGreatDoor
