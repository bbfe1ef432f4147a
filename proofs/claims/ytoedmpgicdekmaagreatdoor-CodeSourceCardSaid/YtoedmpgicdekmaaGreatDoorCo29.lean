/- Parts of the proof. -/
import Derived.Test.YtoedmpgicdekmaaGreatDoorCo28
set_option maxRecDepth 100000
set_option maxHeartbeats 8000000
set_option linter.all false
namespace Go.Proofs.YtoedmpgicdekmaaGreatDoor
open IntKind(i64)
open Go.Proofs.Tryz
section
open Go.RowKit
mutual
def F1:Ex->Bool
 | .mk k op nm tx v a=>
  decide (nm.length<=1000000000/\tx.length<=1000000000/\ -1099511627776<=v/\v<=1099511627776)&&
  (if k=4\/k=6 then decide (1<=a.length)&&wj a
   else if k=5 then(match fX nm with
    |some (c,ls)=>decide (a.length<=ls.length)&&E5 ls a
    |none=>wj a)
   else if k=7 then decide (2<=a.length)&&wj a else true)
def wj:List Ex->Bool
 | []=>true
 |y::r=>F1 y&&wj r
def E5:List UInt8->List Ex->Bool
 | _,[]=>true
 |ls,y::r=>(if ls.headD 0=105 then F1 y else decide (y.nm.length<=1000000000/\y.tx.length<=1000000000))&&E5 ls.tail r
end
mutual
def p4:Ex->Nat
 | .mk k op nm tx v a=>1+ot a
def ot:List Ex->Nat
 | []=>0
 |y::r=>p4 y+ot r
end
def kK (k:CC) (w:World):Prop:=BT w/\1<k.base/\ ∀nm,0<=aQ k.sz nm/\aQ k.sz nm<=1000000
theorem kK.ext {k:CC} {a w':World} (d:kK k a) (h:au a w'):kK k w':=⟨d.1.ext h,d.2⟩
theorem kK.st {k:CC} {w:List (Nm×Int)} {O y:Nat->Prop} {a w':World} {s:CS} (u:kK k a) (m:CX k w O a s) (o:eo O a y w'):kK k w':=by
 obtain⟨⟨t,fr,h⟩,d⟩:=u;exact⟨⟨t,fr,(o.1.block _ (Array.getElem?_eq_some_iff.1 h).1 (m.low d.1)).trans h⟩,d⟩
structure CQ (k:CC) (at_:List (Nm×Int)) (O0:Nat->Prop) (w0:World) (pb:Nat) (t:TypeId) (cs:Array Value) (O:Nat->Prop) (s:CS) (w:World):Prop where
 m:CX k at_ O w s
 T:eo O0 w0 O w
 x:LB O w pb t cs
 e:kK k w
section
variable {k:CC} {at_:List (Nm×Int)} {O0 O O':Nat->Prop} {w0 w w':World} {pb:Nat} {t:TypeId} {cs:Array Value} {s s':CS}
theorem CQ.nx (a:CQ k at_ O0 w0 pb t cs O s w) (m:CX k at_ O' w' s') (d:eo O w O' w'):CQ k at_ O0 w0 pb t cs O' s' w':=⟨m,a.T.trans d,a.x.st d,a.e.st a.m d⟩
theorem CQ.ext (d:CQ k at_ O0 w0 pb t cs O s w) (a:au w w'):CQ k at_ O0 w0 pb t cs O s w':=d.nx (d.m.ext a) (.of_ext a)
theorem CQ.new (m:CX k at_ O w s) (e:kK k w) (t:TypeId) (cs:Array Value):CQ k at_ O w w.heap.size t cs O s (w.alloc (.cells cs t)):=⟨m.ext (aa w _),.of_ext (aa w _),.new m t cs,e.ext (aa w _)⟩
theorem CQ.kp (d:CQ k at_ O0 w0 pb t cs O s w) (a:CX k at_ O0 w0 s'):dM (λb=>b<k.base) w0 w:=d.T.keepP a
theorem CQ.cp (a:CQ k at_ O0 w0 pb t cs O s w):CP k at_ O0 w0 s w:=⟨O,a.m,a.T⟩
end
structure EC (w:World) (b o:Nat) (k:Int) (op nm tx:List UInt8) (v:Int) (B:Option Addr) (n d:Nat):Prop where
 c0:w.cell? ⟨b,o,none⟩=some (.int i64 k)
 c1:w.cell? ⟨b,o+1,none⟩=some (.string (Z op))
 c2:w.cell? ⟨b,o+2,none⟩=some (.string (Z nm))
 c3:w.cell? ⟨b,o+3,none⟩=some (.string (Z tx))
 c4:w.cell? ⟨b,o+4,none⟩=some (.int i64 v)
 c5:w.cell? ⟨b,o+5,none⟩=some (.slice B n d)
theorem dS.ec {a:World} {P:Nat->Prop} {u:Option Addr} {n c:Nat} {xs:List Ex} (X:dS a P (.slice u n c) xs) (i:Nat) (hi:i<xs.length):
  ∃b d B h,u=some ⟨b,d,none⟩/\b<a.heap.size/\P b/\EC a b (d+i*6) xs[i].k xs[i].op xs[i].nm xs[i].tx xs[i].v B xs[i].args.length h/\dS a P (.slice B xs[i].args.length h) xs[i].args:=by
 obtain⟨b,d,aa,rfl,w,y,V,R,G,F,A,z,o⟩:=X.at_ i hi;obtain⟨B,h,rfl,_⟩:=o.form;exact⟨b,d,B,h,rfl,w,y,⟨V,R,G,F,A,z⟩,o⟩
def CE (k:CC) (at_:List (Nm×Int)) (x:Ex):Prop:= ∀(O:Nat->Prop) (w:World) (s:CS) (r:Nat) (ri:Int) (A:Option Addr) (c:Nat),CX k at_ O w s->kK k w->dS w (λb=>b<k.base) (.slice A x.args.length c) x.args->
 F1 x=true->7<=r->r+p4 x<=1000000000->ri=(r:Int)->(fu (aQ k.sz) x r s).big<=900000000->
 Calls prog 130 #[.pointer (some ⟨k.c,0,none⟩),.agg #[.int i64 x.k,.string (Z x.op),.string (Z x.nm),.string (Z x.tx),.int i64 x.v,.slice A x.args.length c],.int i64 ri] w λe w'=>e=.returned (.tuple #[])/\CP k at_ O w (fu (aQ k.sz) x r s) w'
theorem lh: ∀{xs:List Ex} (i:Nat) (a:i<xs.length),wj xs=true->F1 xs[i]=true
 |x::r,0,a,hc=>by rw[wj,am]at hc;exact hc.1
 |x::r,i+1,a,hc=>by rw[wj,am]at hc;exact lh i (by simpa using a) hc.2
theorem uT (x:Ex):1<=p4 x:=by cases x;rw[p4];omega
theorem i6: ∀{xs:List Ex} (i:Nat) (a:i<xs.length),i+p4 xs[i]<=ot xs
 |x::r,0,a=>by rw[ot];simp
 |x::r,i+1,a=>by rw[ot];have:=i6 (xs:=r) i (by simpa using a);have:=uT x;simp only[aP];omega
theorem qK: ∀(xs:List Ex),xs.length<=ot xs
 | []=>aD _
 |x::r=>by rw[ot,ag];have:=qK r;have:=uT x;omega
theorem CY {sz:Nm->Int} {xs:List Ex} {j r:Nat} {s:CS} (a:j<xs.length):p6 sz (xs.drop j) r s=p6 sz (xs.drop (j+1)) (r+1) (fu sz xs[j] r s):=by rw[ap a,p6]
theorem uz {a d i:Nat} {s:CS} (h:0<d):svL a d i s=svL a (d-1) (i+1) (s.op a i 15 (4+4*((i:Int)-7))):=by
 obtain⟨e,rfl⟩:=ee (Nat.pos_iff_ne_zero.1 h);rfl
theorem B4 {r a i:Nat} {s:CS} (d:0<a):mvL r a i s=mvL r (a-1) (i+1) (s.op 3 (1+i) (r+i) 0):=by
 obtain⟨e,rfl⟩:=ee (Nat.pos_iff_ne_zero.1 d);rfl
theorem Ae (k:CC) (ai:List (Nm×Int)) (op nm tx:List UInt8) (v:Int) (xs:List Ex) (bo: ∀ba∈xs,CE k ai ba) (O:Nat->Prop) (u:World) (s:CS) (r:Nat) (ae:Option Addr) (c:Nat) (m:CX k ai O u s) (e:kK k u) (bt:dS u (λb=>b<k.base) (.slice ae xs.length c) xs)
  (bk:wj xs=true) (bd:7<=r) (be:r+ot xs+1<=1000000000) (aA:(caFin nm xs.length r (p6 (aQ k.sz) xs r s)).big<=900000000):
  Calls prog 182 #[.pointer (some ⟨k.c,0,none⟩),.agg #[.int i64 5,.string (Z op),.string (Z nm),.string (Z tx),.int i64 v,.slice ae xs.length c],.int i64 (r:Int)] u λe w'=>e=.returned (.tuple #[])/\CP k ai O u (caFin nm xs.length r (p6 (aQ k.sz) xs r s)) w':=by
 have bT:=G m;have bP:=G bt;have bB:=G bk;have bA:=G bo;have bg:=qK xs;obtain⟨N,aB⟩: ∃N,xs.length=N:=⟨_,rfl⟩
 have bz:=G aB;obtain⟨X,aH⟩: ∃X,p6 (aQ k.sz) xs r s=X:=⟨_,rfl⟩
 have bv:=G aH;rw[aH,aB]at aA;rw[aB]at bg;have bX:=G aA;have aN:=G (show X.big+(2*(r-7)+N+3)<=900000000 by rw[dl]at aA;exact aA);have aC:=G bd;have bO:=G be;have cc:(r:Int)<=1000000000:=J
 have cf:(N:Int)<=1000000000:=J
 rw[aH,aB];have a6:=G (CQ.new m e 206 #[.int i64 5,.string (Z op),.string (Z nm),.string (Z tx),.int i64 v,.slice ae N c]);clear m e bt bk bo aA aH aB bd be bg;go_enter func182,ntmps182
 go_upto_region 1 with fail
 have A:=a6.out.x.1.cell;generalize World.alloc u _=ch at*
 go_upto_region 2 with fail
 clear A
 go_loopw [14] (λw wr=> ∃(j:Nat) (aj:Nat->Prop) (z:CS),w=.int i64 (j:Int)/\j<=N/\Hid (CQ k ai O u u.heap.size 206 #[.int i64 5,.string (Z op),.string (Z nm),.string (Z tx),.int i64 v,.slice ae N c] aj z wr)/\Hid (p6 (aQ k.sz) (xs.drop j) (r+j) z=X)) (λw _=>N-(intOf w).toNat)
 case atStart=>exact⟨0,_,_,rfl,aD _,a6,bv⟩
 case round=>
  obtain⟨j,aj,z,rfl,aT,H,a8⟩:=hrel;clear a6;by_cases hlt:j<N
  ·have I:(j:Int)<(N:Int):=J
   have ao:j<xs.length:=by rw[bz.out];exact hlt
   obtain⟨b,cb,B,a,rfl,ap,ar,bJ,bn⟩:=bP.out.ec j ao;have ag:=H.out.kp bT.out;obtain⟨e0,a3,a2,a1,aZ,aY⟩:=bJ;replace e0:=(ag.cell _ ar ap).trans e0;replace a3:=(ag.cell _ ar ap).trans a3;replace a2:=(ag.cell _ ar ap).trans a2;replace a1:=(ag.cell _ ar ap).trans a1;replace aZ:=(ag.cell _ ar ap).trans aZ;replace aY:=(ag.cell _ ar ap).trans aY;have aK:=G (bn.keep ag (Q:=λb=>b<k.base) (λ_ an _=>an));have a7:=G (bA.out _ (ax ao));have bW:=G (lh j ao bB.out);have bh:=i6 j ao;have R:=G ((CY ao).symm.trans a8.out);have bR:=G (tG (aQ k.sz) (xs.drop (j+1)) (r+j+1) (fu (aQ k.sz) xs[j] (r+j) z));generalize wr=av at*;unfold CE at a7;generalize xs[j]=ba at*;have bQ:=G bh;clear bn ag bh ao
   go_upto_region 4 with fail
   generalize bl:World.alloc av _=W1;obtain⟨aX,bC,_⟩:=lC bl;replace H:=G (H.out.ext aX);replace aK:=G (aK.out.keep (.of_ext aX) (Q:=λb=>b<k.base) (λ_ an _=>an));clear bl aX e0 a3 a2 a1 aZ aY;have A:=bC.out.cell
   go_upto_region 5 with(go_at_call 130;refine(a7.out _ _ _ (r+j) _ _ _ H.out.m H.out.e aK.out bW.out (by have:=aC.out;omega) (by have:=bQ.out;have:=bO.out;omega) J (by have:=bR.out;rw[R.out]at this;have:=aN.out;omega)).mono ?_;rintro e aG ⟨rfl,a4,af,o⟩;have d:=G (H.out.nx af o);clear af o a7 H aK A)
   go_wp2_with fail;go_roundw
   case rel=>exact⟨j+1,_,_,by go_num,by omega,d,R⟩
   case measure=>simp[intOf];omega
  ·have aS:N=j:=J
   obtain rfl:=aS;have I: ¬(N:Int)<(N:Int):=J
   have bw:=G (show z=X by have:=a8.out;rw[bS (by rw[bz.out];exact ah _),p6]at this;exact this);rw[bw.out]at H;clear a8 bw hlt aT bB bA bv;generalize wr=b4 at*
   go_upto_region 7 with fail
   clear I
   go_loopw [8] (λw wr=> ∃(a:Nat) (aj:Nat->Prop) (z:CS),w=.int i64 ((r:Int)-(a:Int))/\a<=r-7/\Hid (CQ k ai O u u.heap.size 206 #[.int i64 5,.string (Z op),.string (Z nm),.string (Z tx),.int i64 v,.slice ae N c] aj z wr)/\Hid (svL 15 a (r-a) z=svL 15 (r-7) 7 X)) (λw _=>r-(intOf w).toNat)
   case atStart=>exact⟨r-7,_,_,by have:=aC.out;rw[show((r:Int)-((r-7:Nat):Int))=7 by omega],ah _,H,G (by have:=aC.out;rw[show r-(r-7)=7 by omega])⟩
   case round=>
    obtain⟨a,bN,aw,rfl,aV,y,R⟩:=hrel;clear H;by_cases hd0:0<a
    ·have I:(r:Int)-(a:Int)<(r:Int):=J
     have bI:IntKind.i64.wrap ((r:Int)-(a:Int)-7)=(r:Int)-(a:Int)-7:=Qc
     have bH:IntKind.i64.wrap (4*((r:Int)-(a:Int)-7))=4*((r:Int)-(a:Int)-7):=Qc
     have bG:IntKind.i64.wrap (4+4*((r:Int)-(a:Int)-7))=4+4*((r:Int)-(a:Int)-7):=Qc
     have bF:IntKind.i64.wrap ((r:Int)-(a:Int)+1)=(r:Int)-(a:Int)+1:=Qc
     have aF:=G (show aw.big<=900000000 by have V:=congrArg CS.big R.out;rw[dN,dN]at V;have:=aN.out;omega);have am:=G ((uz hd0).symm.trans R.out);generalize wr=av at*;go_wp2_with (go_at_call 70;refine(gB y.out.m 15 _ _ _ _ rfl (aU (ay aF.out Qd))).mono ?_;rintro e aG ⟨rfl,a4,af,o⟩;have d:=G (y.out.nx af o);clear af o y);go_roundw
     case rel=>exact⟨a-1,_,_,by rw[show((r:Int)-((a-1:Nat):Int))=(r:Int)-(a:Int)+1 by omega],by omega,d,G (by have:=am.out;rw[show((r-a:Nat):Int)=(r:Int)-(a:Int) by omega]at this;rw[show r-(a-1)=r-a+1 by omega];exact this)⟩
     case measure=>simp[intOf];omega
    ·obtain rfl:a=0:=J
     have al:=G (show aw=svL 15 (r-7) 7 X from R.out);rw[al.out]at y;have aE:=G (show(svL 15 (r-7) 7 X).big+((r-7)+N+3)<=900000000 by have:=aN.out;rw[dN];omega);have bU:=G (show caFin nm N r X=(svL 14 (r-7) 7 ((mvL r N 0 (svL 15 (r-7) 7 X)).call nm)).op 3 r 1 0 from rfl);generalize svL 15 (r-7) 7 X=SV at*;have I: ¬(r:Int)-((0:Nat):Int)<(r:Int):=J
     clear hd0 aV R al bX aN;generalize wr=bZ at*;have A:=y.out.x.1.cell
     go_upto_region 11 with fail
     clear I A
     go_loopw [41] (λw wr=> ∃(j:Nat) (aj:Nat->Prop) (z:CS),w=.int i64 (j:Int)/\j<=N/\Hid (CQ k ai O u u.heap.size 206 #[.int i64 5,.string (Z op),.string (Z nm),.string (Z tx),.int i64 v,.slice ae N c] aj z wr)/\Hid (mvL r (N-j) j z=mvL r N 0 SV)) (λw _=>N-(intOf w).toNat)
     case atStart=>exact⟨0,_,_,rfl,aD _,y,G rfl⟩
     case round=>
      obtain⟨j,a4,bb,rfl,aT,d,am⟩:=hrel;clear y;by_cases hlt:j<N
      ·have I:(j:Int)<(N:Int):=J
       have aF:=G (show bb.big<=900000000 by have V:=congrArg CS.big am.out;rw[eb,eb]at V;have:=aE.out;omega);have bV:=G ((B4 (show 0<N-j by omega)).symm.trans am.out);generalize wr=av at*;go_wp2_with (go_at_call 132;refine(oL d.out.m _ _ (ay aF.out Qd)).mono ?_;rintro e aG ⟨rfl,aJ,az,o⟩;have ad:=G (d.out.nx az o);clear az o d);go_roundw
       case rel=>exact⟨j+1,_,_,by go_num,by omega,ad,G (by rw[show N-(j+1)=N-j-1 by omega];exact bV.out)⟩
       case measure=>simp[intOf];omega
      ·have aS:N=j:=J
       obtain rfl:=aS;have I: ¬(N:Int)<(N:Int):=J
       have al:=G (show bb=mvL r N 0 SV by have:=am.out;rw[nQ,mvL]at this;exact this);rw[al.out]at d;have aM:=G (show(mvL r N 0 SV).big+((r-7)+3)<=900000000 by have:=aE.out;rw[eb];omega);generalize mvL r N 0 SV=F at*;clear hlt aT am al aE;generalize wr=aP at*;have A:=d.out.x.1.cell
       go_upto_region 15 with fail
       clear I A
       go_cut []from 52 to 65 (λbE=> ∃aJ,Hid (CQ k ai O u u.heap.size 206 #[.int i64 5,.string (Z op),.string (Z nm),.string (Z tx),.int i64 v,.slice ae N c] aJ (F.call nm) bE))
       case first=>
        have bp:au aP aP.drew:=eR (aI aP);replace d:=G (d.out.ext bp);obtain⟨ca,b5,b7,b8,b6,an,bK⟩:=d.out.m;have cd:=aU (show F.big<=900000000 by have:=aM.out;omega);have ce:=qP (show F.big<=900000000 by have:=aM.out;omega);have bu:=G (vK an 20 20 14 0 rfl J);have A:=an.blk.cell;have aO:=d.out.x.1.cell;clear an bp
        go_region_law (first
         |(refine mu IW rfl _ _ rfl k.base _ F.calls.length (f9 F.calls) rfl (aL.out.calls.alloc _) aR.heap.size (oo (F.code.length,nm)) rfl (aq aR _ _) rfl (om _) J Qd (by rw[World.size_alloc];have:=(fL aL.out).1;omega) ?_;intro ae cg av bi bj bq;obtain⟨aW,bf⟩:=aL.out.callm (n:=F.calls.length) (λb=>ip) (aa aR _) (F.code.length,nm) rfl bi bj bq;clear A bM aO bD;have A:=aW.cell;have bL:=aW.frozen;have bx:=G bf;clear bi bj bq aW bf aL)
         |(go_simp;go_at_call 69;refine bu.out.mono ?_;rintro e aR ⟨rfl,bc⟩;obtain⟨b9,V,o⟩:=bc.own bK;have ad:=G (d.out.nx ⟨_,_,_,_,_,V,λb=>ip⟩ o);have aL:=G V;clear A aO;have A:=V.blk.cell;have bM:=(V.blk.alloc (.cells #[.int i64 (F.code.length:Int),.string (Z nm)] 155)).cell;have aO:=ad.out.x.1.cell;have bD:=(ad.out.x.1.alloc (.cells #[.int i64 (F.code.length:Int),.string (Z nm)] 155)).cell;clear V bu o bc d))
        all_goals
         clear A bL;go_wp2_with fail;obtain⟨cj,br,bm⟩:=bx.out;have a5:=G (ad.out.nx br bm);clear bx br bm ad
         go_meet
         case rel=>exact⟨_,a5⟩
       case rest=>
        obtain⟨aJ,ad⟩:=hcut;clear d;have a9:=G (show(F.call nm).big+((r-7)+1)<=900000000 by have:=aM.out;rw[cG];omega);generalize F.call nm=SC at*;clear aM
        go_upto_region 17 with fail
        go_loopw [10] (λw wr=> ∃(a:Nat) (aj:Nat->Prop) (z:CS),w=.int i64 ((r:Int)-(a:Int))/\a<=r-7/\Hid (CQ k ai O u u.heap.size 206 #[.int i64 5,.string (Z op),.string (Z nm),.string (Z tx),.int i64 v,.slice ae N c] aj z wr)/\Hid (svL 14 a (r-a) z=svL 14 (r-7) 7 SC)) (λw _=>r-(intOf w).toNat)
        case atStart=>exact⟨r-7,_,_,by have:=aC.out;rw[show((r:Int)-((r-7:Nat):Int))=7 by omega],ah _,ad,G (by have:=aC.out;rw[show r-(r-7)=7 by omega])⟩
        case round=>
         obtain⟨a,bN,aw,rfl,aV,y,R⟩:=hrel;clear ad;by_cases hd0:0<a
         ·have I:(r:Int)-(a:Int)<(r:Int):=J
          have bI:IntKind.i64.wrap ((r:Int)-(a:Int)-7)=(r:Int)-(a:Int)-7:=Qc
          have bH:IntKind.i64.wrap (4*((r:Int)-(a:Int)-7))=4*((r:Int)-(a:Int)-7):=Qc
          have bG:IntKind.i64.wrap (4+4*((r:Int)-(a:Int)-7))=4+4*((r:Int)-(a:Int)-7):=Qc
          have bF:IntKind.i64.wrap ((r:Int)-(a:Int)+1)=(r:Int)-(a:Int)+1:=Qc
          have aF:=G (show aw.big<=900000000 by have V:=congrArg CS.big R.out;rw[dN,dN]at V;have:=a9.out;omega);have am:=G ((uz hd0).symm.trans R.out);generalize wr=av at*;go_wp2_with (go_at_call 70;refine(gB y.out.m 14 _ _ _ _ rfl (aU (ay aF.out Qd))).mono ?_;rintro e aG ⟨rfl,a4,af,o⟩;have d:=G (y.out.nx af o);clear af o y);go_roundw
          case rel=>exact⟨a-1,_,_,by rw[show((r:Int)-((a-1:Nat):Int))=(r:Int)-(a:Int)+1 by omega],by omega,d,G (by have:=am.out;rw[show((r-a:Nat):Int)=(r:Int)-(a:Int) by omega]at this;rw[show r-(a-1)=r-a+1 by omega];exact this)⟩
          case measure=>simp[intOf];omega
         ·obtain rfl:a=0:=J
          have al:=G (show aw=svL 14 (r-7) 7 SC from R.out);rw[al.out]at y;have aE:=G (show(svL 14 (r-7) 7 SC).big<=900000000 by have:=a9.out;rw[dN];omega);generalize svL 14 (r-7) 7 SC=ci at*;have I: ¬(r:Int)-((0:Nat):Int)<(r:Int):=J
          clear hd0 aV R al a9;generalize wr=bY at*;go_wp2_with (go_at_call 132;refine(oL y.out.m _ _ (ay aE.out Qd)).mono ?_;rintro e aG ⟨rfl,aJ,az,o⟩;have a5:=G (y.out.nx az o);clear az o y);exact bodyPost_end (results_none rfl _ _ _) rfl ⟨rfl,by rw[bU.out];exact a5.out.cp⟩
end
section
open Go.RowKit
theorem xD: ∀{ls:List UInt8} {xs:List Ex} (i:Nat) (d:i<xs.length) (a:i<ls.length),E5 ls xs=true->(if ls[i]=105 then F1 xs[i]else decide (xs[i].nm.length<=1000000000/\xs[i].tx.length<=1000000000))=true
 |l::ls,x::r,0,d,a,hc=>by rw[E5,am]at hc;exact hc.1
 |l::ls,x::r,i+1,d,a,hc=>by rw[E5,am]at hc;exact xD (ls:=ls) i (by simpa using d) (by simpa using a) hc.2
theorem nF {ls:List UInt8} {j:Nat} (a:j<ls.length):(ls.drop j).headD 0=ls[j]:=by rw[ap a,List.headD_cons]
theorem CU {sz:Nm->Int} {ls:List UInt8} {xs:List Ex} {j r:Nat} {s:CS} (d:j<xs.length) (a:j<ls.length):mP sz (ls.drop j) (xs.drop j) r s=if ls[j]=105 then mP sz (ls.drop (j+1)) (xs.drop (j+1)) (r+1) (fu sz xs[j] r s)else mP sz (ls.drop (j+1)) (xs.drop (j+1)) r s:=by
 rw[ap d,mP,nF a,jD]
theorem Ds {ls:List UInt8} {xs:List Ex} {j:Nat} (d:j<xs.length) (a:j<ls.length):ua (ls.drop j) (xs.drop j)=if ls[j]=105 then ua (ls.drop (j+1)) (xs.drop (j+1))+1 else ua (ls.drop (j+1)) (xs.drop (j+1)):=by
 rw[ap d,ua,nF a,jD]
theorem Dr {sz:Nm->Int} {ls:List UInt8} {xs:List Ex} {j:Nat} {a:Int} {s:CS} (h:j<xs.length) (d:j<ls.length):mQ sz (ls.drop j) (xs.drop j) a s=if ls[j]=105 then mQ sz (ls.drop (j+1)) (xs.drop (j+1)) a s else if xs[j].k=2 then mQ sz (ls.drop (j+1)) (xs.drop (j+1)) xs[j].tx.length ((s.text 5 xs[j].tx).st 6 xs[j].tx.length)else mQ sz (ls.drop (j+1)) (xs.drop (j+1)) (sz xs[j].nm) (s.dat 5 xs[j].nm):=by
 rw[ap h,mQ,nF d,jD]
theorem Fl {sz:Nm->Int} (ls:List UInt8) (a:Int) (s:CS):mQ sz ls [] a s=(a,s):=by cases ls<;>rfl
theorem E4 {sz:Nm->Int} (ls:List UInt8) (r:Nat) (s:CS):mP sz ls [] r s=s:=by cases ls<;>rfl
theorem Fo (ls:List UInt8):ua ls []=0:=by cases ls<;>rfl
def yC (c:Int) (n r:Nat):Nat->CS->CS
 |0,s=>s
 |j+1,s=>biM c n r j (yC c n r j s)
theorem oO (c:Int) (n r:Nat): ∀(j:Nat) (s:CS),(yC c n r j s).big=s.big+j
 |0,s=>rfl
 |j+1,s=>by rw[yC,eV,oO c n r j];omega
def I9 (c:Int):Bool:=decide (c=9\/c=10)
theorem Du (sz:Nm->Int) (c:Int) (ls:List UInt8) (u:List Ex) (r:Nat) (s:CS) (N:Nat) (y:ua ls u=N) (o:Int) (a:CS) (z:mQ sz ls u 0 s=(o,a)) (d:Bool) (w:I9 c=d):
  iT sz c ls u r s=((((if d=true then(yC c N r 3 (if d=true then a.chk ((r:Int)+N-1) (min o 128)else a)).op 3 6 ((r:Int)+N-1) 0 else yC c N r 3 (if d=true then a.chk ((r:Int)+N-1) (min o 128)else a))).vl 1 1 c).op 22 0 0 0).op 3 r 1 0:=by
 subst y w;unfold iT I9;rw[z];by_cases h:c=9\/c=10
 ·simp only[h,if_true,decide_true,yC]
 ·simp only[h,if_false,decide_false,yC];rfl
theorem Fh (k:CC) (aS:List (Nm×Int)) (op nm tx:List UInt8) (v:Int) (xs:List Ex) (bT: ∀y∈xs,CE k aS y) (O:Nat->Prop) (w:World) (s:CS) (r:Nat) (aW:Option Addr) (c:Nat) (o:Int) (ls:List UInt8) (m:CX k aS O w s) (e:kK k w) (bV:dS w (λb=>b<k.base) (.slice aW xs.length c) xs)
  (bQ:xs.length<=ls.length) (bP:ls.length<=10) (cq:0<=o/\o<=100) (bR:E5 ls xs=true) (bL:7<=r) (bM:r+ot xs+1<=1000000000) (bn:(iT (aQ k.sz) o ls xs r (mP (aQ k.sz) ls xs r s)).big<=900000000):
  Calls prog 181 #[.pointer (some ⟨k.c,0,none⟩),.agg #[.int i64 5,.string (Z op),.string (Z nm),.string (Z tx),.int i64 v,.slice aW xs.length c],.int i64 (r:Int),.int i64 o,.string (Z ls)] w λe w'=>e=.returned (.tuple #[])/\CP k aS O w (iT (aQ k.sz) o ls xs r (mP (aQ k.sz) ls xs r s)) w':=by
 have bz:=G m;have bv:=G bV;have bG:=G bR;have bZ:=G bT;have bN:=qK xs;have bY:=G bQ;have c3:=G bP;obtain⟨N,bd⟩: ∃N,xs.length=N:=⟨_,rfl⟩
 have a6:=G bd;obtain⟨al,bb⟩: ∃al,mP (aQ k.sz) ls xs r s=al:=⟨_,rfl⟩
 have bW:=G bb;obtain⟨u,bq⟩: ∃u,ua ls xs=u:=⟨_,rfl⟩
 have bX:=G (show 0+ua (ls.drop 0) (xs.drop 0)=u by rw[aE];exact bq);obtain⟨aO,aG,aI⟩: ∃aO aG,mQ (aQ k.sz) ls xs 0 al=(aO,aG):=⟨_,_,rfl⟩
 have b7:=G aI;obtain⟨aj,bp⟩: ∃aj,I9 o=aj:=⟨_,rfl⟩
 have bu:=G bp;rw[bb]at bn;rw[bd]at bN;rw[bb,bd];have bF:=G (Du (aQ k.sz) o ls xs r al u bq aO aG aI aj bp);have cC:=G (show(iT (aQ k.sz) o ls xs r al).big<=900000000 from bn);have b6:=G (show aG.big+6<=900000000 by have:=jC (aQ k.sz) o ls xs r al;rw[aI]at this;simp only at this;omega);have cB:=G (show al.big<=900000000 by have br:=kh (aQ k.sz) ls xs 0 al;have:=jC (aQ k.sz) o ls xs r al;omega);have cz:=G bL;have cy:=G bM;have cR:(r:Int)<=1000000000:=J
 have cX:(N:Int)<=10:=J
 obtain⟨cW,cV⟩:=cq;have bx:=G (CQ.new m e 206 #[.int i64 5,.string (Z op),.string (Z nm),.string (Z tx),.int i64 v,.slice aW N c]);clear m e bV bR bT bn bb bd bL bM bN bQ bP aI bq bp;go_enter func181,ntmps181
 go_upto_region 1 with fail
 have ai:=bx.out.x.1.cell;generalize World.alloc w _=cZ at*
 go_upto_region 3 with fail
 clear ai
 go_loopw [10,21] (λcc an wr=> ∃(j q:Nat) (aX:Nat->Prop) (R:CS),an=.int i64 (j:Int)/\cc=.int i64 (q:Int)/\j<=N/\q<=j/\Hid (CQ k aS O w w.heap.size 206 #[.int i64 5,.string (Z op),.string (Z nm),.string (Z tx),.int i64 v,.slice aW N c] aX R wr)/\Hid (mP (aQ k.sz) (ls.drop j) (xs.drop j) (r+q) R=al)/\Hid (q+ua (ls.drop j) (xs.drop j)=u)) (λ_ an _=>N-(intOf an).toNat)
 case atStart=>exact⟨0,0,_,_,rfl,rfl,aD _,ah _,bx,bW,bX⟩
 case round=>
  obtain⟨j,q,aX,R,rfl,rfl,a3,cS,aa,aC,bg⟩:=hrel;clear bx bW bX;by_cases hlt:j<N
  ·have a2:(j:Int)<(N:Int):=J
   have af:j<xs.length:=by rw[a6.out];exact hlt
   have aH:j<ls.length:=by have:=bY.out;omega
   obtain⟨b,ce,B,cs,rfl,I,H,bo,bc⟩:=bv.out.ec j af;have V:=aa.out.kp bz.out;obtain⟨e0,aA,az,av,au,ar⟩:=bo;replace e0:=(V.cell _ H I).trans e0;replace aA:=(V.cell _ H I).trans aA;replace az:=(V.cell _ H I).trans az;replace av:=(V.cell _ H I).trans av;replace au:=(V.cell _ H I).trans au;replace ar:=(V.cell _ H I).trans ar;have be:=G (bc.keep V (Q:=λb=>b<k.base) (λ_ a4 _=>a4));have bi:=G (bZ.out _ (ax af));have a8:=G (xD j af aH bG.out);have bO:=i6 j af;have X:=G ((CU af aH).symm.trans aC.out);have bf:=G (show q+_=u from(by rw[<-Ds af aH];exact bg.out:q+(if ls[j]=105 then ua (ls.drop (j+1)) (xs.drop (j+1))+1 else ua (ls.drop (j+1)) (xs.drop (j+1)))=u));have a1:=G (qO (aQ k.sz) (ls.drop (j+1)) (xs.drop (j+1)) (r+q+1) (fu (aQ k.sz) xs[j] (r+q) R));have aP:=λw=>mt ls j aH w;generalize wr=aN at*;unfold CE at bi;generalize xs[j]=y at*;have cA:=G bO;clear bc V bO af aC bg;by_cases h105:ls[j]=105
   ·rw[if_pos h105]at a8 X bf;rw[h105]at aP;replace aP: ∀w,(Instr.index 9 (.string (Z ls)) (.int i64 (j:Int))).run prog w=.ok (.int .u8 105) w:=aP;clear h105
    go_upto_region 5 with fail
    generalize ap:World.alloc aN _=W1;obtain⟨ag,z,_⟩:=lC ap;replace aa:=G (aa.out.ext ag);replace be:=G (be.out.keep (.of_ext ag) (Q:=λb=>b<k.base) (λ_ a4 _=>a4));clear ap ag e0 aA az av au ar;have ai:=z.out.cell;go_wp2_with (go_at_call 130;refine(bi.out _ _ _ (r+q) _ _ _ aa.out.m aa.out.e be.out a8.out (by have:=cz.out;omega) (by have:=cA.out;have:=cy.out;omega) J (by have:=a1.out;rw[X.out]at this;have:=cB.out;omega)).mono ?_;rintro e aF ⟨rfl,aK,d,a⟩;have ad:=G (aa.out.nx d a);clear d a bi aa be ai);go_roundw
    case rel=>exact⟨j+1,q+1,_,_,by go_num,by go_num,by omega,by omega,ad,X,G (by have:=bf.out;omega)⟩
    case measure=>simp[intOf];omega
   ·rw[if_neg h105]at X bf;have ck:((ls[j].toNat:Int)==105)=false:=Qn.2 λe=>h105 (UInt8.toNat_inj.1 (by show _=105;omega));generalize ls[j]=cg at*;clear h105
    go_upto_region 5 with fail
    generalize ap:World.alloc aN _=W1;obtain⟨ag,z,_⟩:=lC ap;replace aa:=G (aa.out.ext ag);clear ap ag e0 aA az av au ar z bi;go_wp2_with fail;go_roundw
    case rel=>exact⟨j+1,q,_,_,by go_num,rfl,by omega,by omega,aa,X,bf⟩
    case measure=>simp[intOf];omega
  ·have bm:N=j:=J
   obtain rfl:=bm;have a2: ¬(N:Int)<(N:Int):=J
   have a5:=G (show R=al by have:=aC.out;rw[bS (show xs.length<=N from fQ a6.out),E4]at this;exact this);have cj:u=q:=by have:=bg.out;rw[bS (show xs.length<=N from fQ a6.out),Fo]at this;omega
   obtain rfl:=cj;rw[a5.out]at aa;clear aC a5 hlt a3 bZ bg;generalize wr=b8 at*
   go_upto_region 9 with fail
   clear a2
   go_cut [14]from 39 to 44 (λcd bl=>cd=.bool aj/\bl=b8)
   case first=>
    by_cases h9:o=9
    ·subst h9;have a:aj=true:=bu.out.symm.trans rfl;subst a;go_wp2_with fail
     go_meet
     case rel=>exact⟨rfl,rfl⟩
    ·have cI:(o==9)=false:=Qn.2 h9;by_cases h10:o=10
     ·subst h10;have a:aj=true:=bu.out.symm.trans rfl;subst a;go_wp2_with fail
      go_meet
      case rel=>exact⟨rfl,rfl⟩
     ·have cf:(o==10)=false:=Qn.2 h10;have a:aj=false:=bu.out.symm.trans (decide_eq_false J);subst a;go_wp2_with fail
      go_meet
      case rel=>exact⟨rfl,rfl⟩
   case rest=>
   obtain⟨rfl,rfl⟩:=hcut;have ai:=aa.out.x.1.cell
   go_upto_region 11 with fail
   clear ai;have b5:=G (show(mQ (aQ k.sz) (ls.drop 0) (xs.drop 0) 0 al)=(aO,aG)from b7.out)
   go_loopw [11,48] (λcb an wr=> ∃(j:Nat) (ao:Int) (aX:Nat->Prop) (R:CS),an=.int i64 (j:Int)/\cb=.int i64 ao/\j<=N/\(0<=ao/\ao<=1000000000)/\Hid (CQ k aS O w w.heap.size 206 #[.int i64 5,.string (Z op),.string (Z nm),.string (Z tx),.int i64 v,.slice aW N c] aX R wr)/\Hid (mQ (aQ k.sz) (ls.drop j) (xs.drop j) ao R=(aO,aG))) (λ_ an _=>N-(intOf an).toNat)
   case atStart=>exact⟨0,0,_,_,rfl,rfl,aD _,⟨by decide,by decide⟩,aa,b5⟩
   case round=>
    obtain⟨j,ao,cx,R,rfl,rfl,a3,⟨cm,cl⟩,F,aC⟩:=hrel;clear aa b5;by_cases hlt:j<N
    ·have a2:(j:Int)<(N:Int):=J
     have af:j<xs.length:=by rw[a6.out];exact hlt
     have aH:j<ls.length:=by have:=bY.out;omega
     obtain⟨b,ce,B,cs,rfl,I,H,bo,bc⟩:=bv.out.ec j af;have V:=F.out.kp bz.out;obtain⟨e0,aA,az,av,au,ar⟩:=bo;replace e0:=(V.cell _ H I).trans e0;replace aA:=(V.cell _ H I).trans aA;replace az:=(V.cell _ H I).trans az;replace av:=(V.cell _ H I).trans av;replace au:=(V.cell _ H I).trans au;replace ar:=(V.cell _ H I).trans ar;have a8:=G (xD j af aH bG.out);have X:=G ((Dr af aH).symm.trans aC.out);have a1:=G (fun(l:Int) (bk:CS) (a4:mQ (aQ k.sz) (ls.drop (j+1)) (xs.drop (j+1)) l bk=(aO,aG))=>show bk.big+6<=900000000 by have:=kh (aQ k.sz) (ls.drop (j+1)) (xs.drop (j+1)) l bk;rw[a4]at this;have:=b6.out;simp only at*;omega);have aP:=λw=>mt ls j aH w;generalize wr=aN at*;generalize xs[j]=y at*;clear bc V af aC;by_cases h105:ls[j]=105
     ·rw[if_pos h105]at X;rw[h105]at aP;replace aP: ∀w,(Instr.index 9 (.string (Z ls)) (.int i64 (j:Int))).run prog w=.ok (.int .u8 105) w:=aP;clear h105
      go_upto_region 15 with fail
      generalize ap:World.alloc aN _=W1;obtain⟨ag,z,_⟩:=lC ap;replace F:=G (F.out.ext ag);clear ap ag e0 aA az av au ar;go_wp2_with fail;go_roundw
      case rel=>exact⟨j+1,ao,_,_,by go_num,rfl,by omega,⟨cm,cl⟩,F,X⟩
      case measure=>simp[intOf];omega
     ·rw[if_neg h105]at X a8;obtain⟨bJ,cK⟩:=of_decide_eq_true a8.out;have ck:((ls[j].toNat:Int)==105)=false:=Qn.2 λe=>h105 (UInt8.toNat_inj.1 (by show _=105;omega));generalize ls[j]=cg at*;clear h105
      go_upto_region 15 with fail
      generalize ap:World.alloc aN _=W1;obtain⟨ag,z,_⟩:=lC ap;replace z:=G (show LB cx W1 aN.heap.size 206 _ from⟨z.out,F.out.m.new (ah _)⟩);replace F:=G (F.out.ext ag);clear ap ag e0 aA az av au ar;have ai:=z.out.1.cell;by_cases hk2:y.k=2
      ·rw[if_pos hk2]at X;have cn:(y.k==2)=true:=beq_iff_eq.2 hk2;have a9:=a1.out _ _ X.out;have cQ:(Z y.tx).size=y.tx.length:=aZ _;have ci:=iX (R.text 5 y.tx) 6 y.tx.length;have bj:=G (show(R.text 5 y.tx).big<=900000000 by omega);clear hk2 a9 ci a1
       go_upto_region 18 with(go_at_call 219;refine(JN F.out.m 5 y.tx (ay bj.out Qd)).mono ?_;rintro e aF ⟨rfl,aK,d,a⟩;have ad:=G (F.out.nx d a);replace z:=G (z.out.st a);clear ai;have ai:=z.out.1.cell;clear d a F)
       go_upto_region 19 with(go_at_call 179;refine(GW ad.out.m 6 y.tx.length J (ay bj.out Qd)).mono ?_;rintro e bH ⟨rfl,bt,bI,a⟩;have aY:=G (ad.out.nx bI a);replace z:=G (z.out.st a);clear ai;have ai:=z.out.1.cell;clear bI a ad)
       go_wp2_with fail;go_roundw
       case rel=>exact⟨j+1,(y.tx.length:Int),_,_,by go_num,rfl,by omega,⟨by omega,by omega⟩,aY,X⟩
       case measure=>simp[intOf];omega
      ·rw[if_neg hk2]at X;have cn:(y.k==2)=false:=Qn.2 hk2;have a9:=a1.out _ _ X.out;rw[cO]at a9;have bj:=G (show R.big<=900000000 by omega);clear hk2 a9 a1
       go_upto_region 14 with(go_at_call 185;refine(Fg F.out.m 5 y.nm (ay bj.out Qd)).mono ?_;rintro e aF ⟨rfl,aK,d,a⟩;have ad:=G (F.out.nx d a);replace z:=G (z.out.st a);clear ai d a F)
       obtain⟨ch,cJ⟩:=ad.out.e.2.2 y.nm;refine aB 8 1 [] mixed Qb trivial ?_;repeat (refine sx ?_ (λcF ba=> ?_) ?_;rotate_left;(focus have cH:=(tW (ad.out.m.ext ba.un) (nm:=y.nm) (ay bJ Qd)).1;have cG:=(tW (ad.out.m.ext ba.un) (nm:=y.nm) (ay bJ Qd)).2;have ai:=(z.out.1.ext ba.un).cell;clear ba;go_simp<;>with_reducible rfl);simp only[bE,bD,bC,bB,bA])
       intro cE bK _;have aY:=G (ad.out.ext bK.un);clear bK ad z;simp only[ae,aw];go_wp2_with fail;go_roundw
       case rel=>exact⟨j+1,aQ k.sz y.nm,_,_,by go_num,rfl,by omega,⟨ch,by omega⟩,aY,X⟩
       case measure=>simp[intOf];omega
    ·have bm:N=j:=J
     obtain rfl:=bm;have a2: ¬(N:Int)<(N:Int):=J
     have a5:=G (show(ao,R)=(aO,aG) by have:=aC.out;rw[bS (show xs.length<=N from fQ a6.out),Fl]at this;exact this);obtain⟨rfl,rfl⟩:=kk .. ▸a5.out;clear aC a5 hlt a3 b7 bG bv bz;generalize wr=cD at*
     go_upto_region 21 with fail
     have cP:IntKind.i64.wrap ((r:Int)+(u:Int))=(r:Int)+(u:Int):=Qc
     have cN:IntKind.i64.wrap ((r:Int)+(u:Int)-1)=(r:Int)+(u:Int)-1:=Qc
     have cU:min ao 128<=128:=J
     have cT:0<=min ao 128:=J
     go_upto_if 86 with fail
     go_cut []from 86 to 94 (λbl=> ∃bt,Hid (CQ k aS O w w.heap.size 206 #[.int i64 5,.string (Z op),.string (Z nm),.string (Z tx),.int i64 v,.slice aW N c] bt (if aj=true then R.chk ((r:Int)+u-1) (min ao 128)else R) bl))
     case first=>
      cases aj with
      |true=>
       go_wp2_with (go_at_call 186;refine(IC F.out.m _ _ ⟨by omega,by omega⟩ (ay (aM b6.out) Qd)).mono ?_;rintro e aF ⟨rfl,aK,d,a⟩;have ad:=G (F.out.nx d a);clear d a F)
       go_meet
       case rel=>exact⟨_,ad⟩
      |false=>
       go_wp2_with fail
       go_meet
       case rel=>exact⟨_,F⟩
     case rest=>
      obtain⟨bt,aY⟩:=hcut;clear F;generalize (if aj=true then R.chk ((r:Int)+u-1) (min ao 128)else R)=aJ at*
      have b4:=G (show aJ.big+7<=900000001 by
       have:=cC.out;rw[bF.out]at this
       cases aj
       ·simp only[bh,a7,oO,aR,if_false]at this;omega
       ·simp only[bh,a7,oO,if_true]at this;omega)
      go_upto_region 24 with fail
      go_loopw [95] (λan wr=> ∃(j:Nat) (aX:Nat->Prop),an=.int i64 (j:Int)/\j<=3/\Hid (CQ k aS O w w.heap.size 206 #[.int i64 5,.string (Z op),.string (Z nm),.string (Z tx),.int i64 v,.slice aW N c] aX (yC o u r j aJ) wr)) (λan _=>3-(intOf an).toNat)
      case atStart=>exact⟨0,_,rfl,aD _,aY⟩
      case round=>
       obtain⟨j,c0,rfl,a3,A⟩:=hrel;clear aY;generalize wr=aN at*;by_cases hlt:j<3
       ·have a2:(j:Int)<3:=J
        have am:=G (show(yC o u r j aJ).big<=900000000 by rw[oO];have:=b4.out;omega);have aL:=G (show yC o u r (j+1) aJ=biM o u r j (yC o u r j aJ)from rfl);unfold biM at aL;have cM:IntKind.i64.wrap ((r:Int)+(j:Int))=(r:Int)+(j:Int):=Qc
        have cL:IntKind.i64.wrap (2+(j:Int))=2+(j:Int):=Qc
        generalize yC o u r j aJ=ct at*;by_cases br:u<=j
        ·rw[if_pos (.inl br)]at aL;have cr:(u:Int)<=(j:Int):=J
         go_wp2_with (go_at_call 69;refine(jn A.out.m 1 _ _ _ rfl (aU (ay am.out Qd))).mono ?_;rintro e aF ⟨rfl,aK,d,a⟩;have aq:=G (A.out.nx d a);clear d a A);go_roundw
         case rel=>exact⟨j+1,_,by go_num,by omega,G (by rw[aL.out];exact aq.out)⟩
         case measure=>simp[intOf];omega
        ·have cr: ¬(u:Int)<=(j:Int):=J
         by_cases aI:o=10/\0<j
         ·rw[if_pos (.inr aI)]at aL;obtain⟨rfl,bU⟩:=aI;have cY:(0:Int)<(j:Int):=J
          go_wp2_with (go_at_call 69;refine(jn A.out.m 1 _ _ _ rfl (aU (ay am.out Qd))).mono ?_;rintro e aF ⟨rfl,aK,d,a⟩;have aq:=G (A.out.nx d a);clear d a A);go_roundw
          case rel=>exact⟨j+1,_,by go_num,by omega,G (by rw[aL.out];exact aq.out)⟩
          case measure=>simp[intOf];omega
         ·rw[if_neg (λe=>e.elim br aI)]at aL;by_cases h10:o=10
          ·subst h10;have bU:j=0:=J
           subst bU;go_wp2_with (go_at_call 132;refine(oL A.out.m _ _ (ay am.out Qd)).mono ?_;rintro e aF ⟨rfl,aK,d,a⟩;have aq:=G (A.out.nx d a);clear d a A);go_roundw
           case rel=>exact⟨0+1,_,by go_num,by omega,G (by rw[aL.out];exact aq.out)⟩
           case measure=>simp[intOf]
          ·have cf:(o==10)=false:=Qn.2 h10;go_wp2_with (go_at_call 132;refine(oL A.out.m _ _ (ay am.out Qd)).mono ?_;rintro e aF ⟨rfl,aK,d,a⟩;have aq:=G (A.out.nx d a);clear d a A);go_roundw
           case rel=>exact⟨j+1,_,by go_num,by omega,G (by rw[aL.out];exact aq.out)⟩
           case measure=>simp[intOf];omega
       ·have co:j=3:=J
        subst co;have am:=G (show(yC o u r 3 aJ).big+4<=900000001 by rw[oO];have:=b4.out;omega);generalize yC o u r 3 aJ=ct at*;clear hlt a3
        cases aj with
        |true=>
         go_wp2_with (first
          |(go_at_call 132;refine(oL A.out.m _ _ (by have:=am.out;omega)).mono ?_;rintro e aF ⟨rfl,aK,d,a⟩;have aq:=G (A.out.nx d a);clear d a A)
          |(go_at_call 69;refine(jn aq.out.m 1 _ _ _ rfl (aU (by rw[bh];have:=am.out;omega))).mono ?_;rintro e bH ⟨rfl,cw,d,a⟩;have aV:=G (aq.out.nx d a);clear d a aq)
          |(go_at_call 70;refine(gB aV.out.m 22 _ _ _ _ rfl (aU (by rw[a7,bh];have:=am.out;omega))).mono ?_;rintro e ca ⟨rfl,cv,d,a⟩;have aT:=G (aV.out.nx d a);clear d a aV)
          |(go_at_call 132;refine(oL aT.out.m _ _ (by rw[bh,a7,bh];have:=am.out;omega)).mono ?_;rintro e b9 ⟨rfl,cu,d,a⟩;have bw:=G (aT.out.nx d a);clear d a aT))
         exact bodyPost_end (results_none rfl _ _ _) rfl ⟨rfl,by rw[bF.out];exact bw.out.cp⟩
        |false=>
         go_wp2_with (first
          |(go_at_call 69;refine(jn A.out.m 1 _ _ _ rfl (aU (by have:=am.out;omega))).mono ?_;rintro e bH ⟨rfl,cw,d,a⟩;have aV:=G (A.out.nx d a);clear d a A)
          |(go_at_call 70;refine(gB aV.out.m 22 _ _ _ _ rfl (aU (by rw[a7];have:=am.out;omega))).mono ?_;rintro e ca ⟨rfl,cv,d,a⟩;have aT:=G (aV.out.nx d a);clear d a aV)
          |(go_at_call 132;refine(oL aT.out.m _ _ (by rw[bh,a7];have:=am.out;omega)).mono ?_;rintro e b9 ⟨rfl,cu,d,a⟩;have bw:=G (aT.out.nx d a);clear d a aT))
         exact bodyPost_end (results_none rfl _ _ _) rfl ⟨rfl,by rw[bF.out];exact bw.out.cp⟩
theorem EC.kp {u w':World} {P:Nat->Prop} {b w:Nat} {k:Int} {op nm tx:List UInt8} {v:Int} {B:Option Addr} {n y:Nat} (o:EC u b w k op nm tx v B n y) (a:dM P u w') (h:P b) (d:b<u.heap.size):EC w' b w k op nm tx v B n y:=
 ⟨(a.cell _ h d).trans o.c0,(a.cell _ h d).trans o.c1,(a.cell _ h d).trans o.c2,(a.cell _ h d).trans o.c3,(a.cell _ h d).trans o.c4,(a.cell _ h d).trans o.c5⟩
theorem tY {sz:Nm->Int} {xs:List Ex} (a:0<xs.length) (r:Nat) (s:CS):eW sz xs r s=fu sz xs[0] r s:=by
 cases xs with
 |nil=>simp at a
 |cons x l=>rfl
theorem CZ {sz:Nm->Int} {xs:List Ex} (a:1<xs.length) (r:Nat) (s:CS):nI sz xs r s=fu sz xs[1] r s:=by
 cases xs with
 |nil=>simp at a
 |cons x l=>
  cases l with
  |nil=>simp at a
  |cons y l=>rfl
theorem iH (s:CS) (a:Nat) (d v:Int):(s.vl a d v).code.length=s.code.length+1:=by simp[CS.vl,CS.add]
theorem jS (s:CS) (a:Nat) (d b n:Int):(s.op a d b n).code.length=s.code.length+1:=by simp[CS.op,CS.add]
theorem li (s:CS) (i:Nat):(s.land i).code.length=s.code.length:=by simp[CS.land]
theorem lk (s:CS) (r:Int):(s.inv r).code.length=s.code.length+2:=by simp[CS.inv,jS,iH]
theorem C9 (s:CS) (r n:Int):s.code.length+1<=(s.st r n).code.length:=by unfold CS.st;split<;>simp only[iH]<;>omega
theorem Db (s:CS) (r m:Int):s.code.length<=(s.chk r m).code.length:=by have:=C9 s 0 (m+1);unfold CS.chk;simp only[jS,iH];omega
theorem E8 (s:CS) (r:Int) (t:List UInt8):(s.text r t).code.length=s.code.length+1:=by simp[CS.text,CS.vl,CS.add]
theorem xE (s:CS) (r:Int) (nm:Nm):(s.dat r nm).code.length=s.code.length+1:=by simp[CS.dat,CS.vl,CS.add]
theorem E9 (s:CS) (nm:Nm):(s.call nm).code.length=s.code.length+1:=by simp[CS.call,CS.vl,CS.add]
theorem Da (s:CS) (a:Nat) (r:Int) (nm:Nm):s.code.length+1<=(s.ld a r nm).code.length:=by unfold CS.ld;split<;>simp only[jS,xE]<;>omega
theorem yx (sz:Nm->Int) (s:CS) (r:Int) (nm:Nm):s.code.length<=(s.elem sz r nm).code.length:=by have:=Db s r (sz nm-1);unfold CS.elem;simp only[jS,xE];omega
theorem E_ (op:Nm) (r:Int) (s:CS):s.code.length<=(biop op r s).code.length:=by unfold biop;simp only;split<;>split<;>simp only[jS,lk]<;>omega
theorem C8 (a:Nat): ∀(k i:Nat) (s:CS),(svL a k i s).code.length=s.code.length+k
 |0,i,s=>rfl
 |k+1,i,s=>by rw[svL,C8 a k,jS];omega
theorem C_ (r:Nat): ∀(k i:Nat) (s:CS),(mvL r k i s).code.length=s.code.length+k
 |0,i,s=>rfl
 |k+1,i,s=>by rw[mvL,C_ r k,jS];omega
theorem Dc (nm:Nm) (n r:Nat) (s:CS):s.code.length<=(caFin nm n r s).code.length:=by unfold caFin;simp only[jS,C8,E9,C_];omega
theorem G0 (c:Int) (n r i:Nat) (s:CS):(biM c n r i s).code.length=s.code.length+1:=by unfold biM;split<;>simp only[jS,iH]
section
variable (sz:Nm->Int)
theorem tZ: ∀(ls:List UInt8) (d:List Ex) (a:Int) (s:CS),s.code.length<=(mQ sz ls d a s).2.code.length
 | _,[],a,s=>ah _
 |ls,x::l,a,s=>by
  rw[mQ];split
  ·exact tZ ls.tail l a s
  split
  ·refine ay ?_ (tZ ls.tail l _ _);have:=C9 (s.text 5 x.tx) 6 x.tx.length;rw[E8]at this;omega
  ·refine ay ?_ (tZ ls.tail l _ _);rw[xE];omega
theorem Dd (c:Int) (ls:List UInt8) (a:List Ex) (r:Nat) (s:CS):s.code.length<=(iT sz c ls a r s).code.length:=by
 unfold iT;have d:=tZ sz ls a 0 s;have:=Db (mQ sz ls a 0 s).2 ((r:Int)+ua ls a-1) (min (mQ sz ls a 0 s).1 128);simp only[jS,iH];split<;>simp only[jS,G0]<;>omega
mutual
theorem xF: ∀(x:Ex) (r:Nat) (s:CS),s.code.length<=(fu sz x r s).code.length
 | .mk k op nm tx v a,r,s=>by
  rw[fu];have h:=G2 a r s;split
  ·have:=C9 s r v;omega
  split
  ·have:=Da s 14 r nm;omega
  split
  ·have:=yx sz (eW sz a r s) r nm;rw[jS];omega
  split
  ·split
   ·rename_i c ls _;have h:=G1 ls a r s;have:=Dd sz c ls a r (mP sz ls a r s);omega
   ·have h:=Iz a r s;have:=Dc nm a.length r (p6 sz a r s);omega
  split
  ·split
   ·rw[lk];omega
   ·rw[jS,iH];omega
  split
  ·split
   ·rw[li,lk,lk];have d:=E' a r ((eW sz a r s).vl 19 r 0);rw[iH]at d;omega
   split
   ·rw[lk,li,lk];have d:=E' a r (((eW sz a r s).inv r).vl 19 r 0);rw[iH,lk]at d;omega
   ·have d:=E' a (r+1) (eW sz a r s);have:=E_ op r (nI sz a (r+1) (eW sz a r s));omega
  ·exact ah _
theorem G2: ∀(l:List Ex) (r:Nat) (s:CS),s.code.length<=(eW sz l r s).code.length
 | [],r,s=>ah _
 |x::_,r,s=>by rw[eW];exact xF x r s
theorem E': ∀(l:List Ex) (r:Nat) (s:CS),s.code.length<=(nI sz l r s).code.length
 | [],r,s=>ah _
 | _::l,r,s=>by rw[nI];exact G2 l r s
theorem Iz: ∀(l:List Ex) (r:Nat) (s:CS),s.code.length<=(p6 sz l r s).code.length
 | [],r,s=>ah _
 |x::l,r,s=>by rw[p6];exact ay (xF x r s) (Iz l (r+1) _)
theorem G1: ∀(ls:List UInt8) (l:List Ex) (r:Nat) (s:CS),s.code.length<=(mP sz ls l r s).code.length
 | _,[],r,s=>ah _
 |ls,x::l,r,s=>by
  rw[mP];split
  ·exact ay (xF x r s) (G1 ls.tail l (r+1) _)
  ·exact G1 ls.tail l r s
end
end
theorem Dj (k:CC) (aL:List (Nm×Int)) (op nm tx:List UInt8) (v:Int) (xs:List Ex) (aK: ∀y∈xs,CE k aL y) (O:Nat->Prop) (ap:World) (s:CS) (r:Nat) (be:Option Addr) (c:Nat) (m:CX k aL O ap s) (e:kK k ap) (aN:dS ap (λb=>b<k.base) (.slice be xs.length c) xs)
  (bn:2<=xs.length) (aG:wj xs=true) (a2:7<=r) (a3:r+ot xs+1<=1000000000) (ad:(fu (aQ k.sz) (.mk 7 op nm tx v xs) r s).big<=900000000):
  Calls prog 184 #[.pointer (some ⟨k.c,0,none⟩),.agg #[.int i64 7,.string (Z op),.string (Z nm),.string (Z tx),.int i64 v,.slice be xs.length c],.int i64 (r:Int)] ap λe w'=>e=.returned (.tuple #[])/\CP k aL O ap (fu (aQ k.sz) (.mk 7 op nm tx v xs) r s) w':=by
 have I:=G m;have ar:0<xs.length:=J
 have aq:1<xs.length:=J
 obtain⟨b,bl,bO,bI,rfl,az,aA,aI,a8⟩:=aN.ec 0 ar;obtain⟨bJ,bB,bN,bH,aF,_,_,aH,a6⟩:=aN.ec 1 aq;injection aF with aF;injection aF with aa X;subst aa X;simp only[aY,bx,cE]at aI aH;have a5:=i6 0 ar;have a4:=i6 1 aq;have bw:=G (lh 0 ar aG);have aX:=G (lh 1 aq aG);have aW:=G (aK _ (ax ar));have am:=G (aK _ (ax aq))
 have A:=G (show fu (aQ k.sz) (.mk 7 op nm tx v xs) r s=if op=[38,38]then((((fu (aQ k.sz) xs[1] r ((fu (aQ k.sz) xs[0] r s).vl 19 r 0)).inv r).inv r).land (fu (aQ k.sz) xs[0] r s).code.length)
   else if op=[124,124]then(((fu (aQ k.sz) xs[1] r (((fu (aQ k.sz) xs[0] r s).inv r).vl 19 r 0)).inv r).land ((fu (aQ k.sz) xs[0] r s).inv r).code.length).inv r
   else biop op r (fu (aQ k.sz) xs[1] (r+1) (fu (aQ k.sz) xs[0] r s)) by
  rw[fu,if_neg Qd,if_neg Qd,if_neg Qd,if_neg Qd,if_neg Qd,if_pos rfl]
  simp only[tY ar,CZ aq])
 unfold CE at aW am;have aD:=G (λq bf=>pd (aQ k.sz) xs[1] q bf);generalize xs[0]=an at*;generalize xs[1]=F at*;obtain⟨N,aJ⟩: ∃N,xs.length=N:=⟨_,rfl⟩
 rw[aJ]at ar aq;rw[aJ];have bG:(0:Int)<(N:Int):=J
 have bF:(1:Int)<(N:Int):=J
 have br:=G aI;have aP:=G aH;have bt:=G a8;have aS:=G a6;have bv:=G a5;have aT:=G a4;have aC:=G a2;have aB:=G a3;have H:=G ad
 have bd:=G (show(fu (aQ k.sz) an r s).big<=900000000 by
  rw[A.out]at ad;split at ad
  ·rw[bo,bm,bm]at ad;have:=aD.out r ((fu (aQ k.sz) an r s).vl 19 r 0);rw[a7]at this;omega
  ·split at ad
   ·rw[bm,bo,bm]at ad;have:=aD.out r (((fu (aQ k.sz) an r s).inv r).vl 19 r 0);rw[a7,bm]at this;omega
   ·have:=aD.out (r+1) (fu (aQ k.sz) an r s);have:=(mh op r (fu (aQ k.sz) F (r+1) (fu (aQ k.sz) an r s))).1
    omega)
 rw[A.out]at H;have bC:(r:Int)<=1000000000:=J
 have al:=G (CQ.new m e 206 #[.int i64 7,.string (Z op),.string (Z nm),.string (Z tx),.int i64 v,.slice (some ⟨b,bl,none⟩) N c]);clear m e aN aG aK ad aJ a2 a3 aI aH a8 a6 a5 a4 bn;go_enter func184,ntmps184
 go_upto_region 1 with fail
 generalize World.alloc ap _=bK at*;have R:=al.out.x.1.cell;obtain⟨e0,aa,X,ah,ag,af⟩:=br.out.kp (al.out.kp I.out) aA az
 go_upto_region 2 with(go_at_call 130;refine(aW.out _ _ _ r _ _ _ al.out.m al.out.e (bt.out.keep (al.out.kp I.out) (Q:=λb=>b<k.base) (λ_ ae _=>ae)) bw.out aC.out (by have:=bv.out;have:=aB.out;omega) rfl bd.out).mono ?_;rintro e bA ⟨rfl,bM,a1,a⟩;have z:=G (al.out.nx a1 a);clear a1 a aW al R e0 aa X ah ag af)
 generalize fu (aQ k.sz) an r s=w at*;have R:=z.out.x.1.cell;by_cases ha:op=[38,38]
 ·subst ha;rw[if_pos rfl]at A H;have u:=G (show(fu (aQ k.sz) F r (w.vl 19 r 0)).big+4<=900000000 by have:=H.out;rw[bo,bm,bm]at this;omega)
  have aV:=G (show w.code.length<(((fu (aQ k.sz) F r (w.vl 19 r 0)).inv r).inv r).code.length by
   have:=xF (aQ k.sz) F r (w.vl 19 r 0)
   simp only[lk,iH]at this⊢;omega)
  go_upto_region 5 with(go_at_call 69;refine(jn z.out.m 19 _ _ _ rfl (aU (ay bd.out Qd))).mono ?_;rintro e aZ ⟨rfl,a9,m,a⟩;have d:=G (z.out.nx m a);clear m a z)
  clear R;have R:=d.out.x.1.cell;obtain⟨e0,aa,X,ah,ag,af⟩:=aP.out.kp (d.out.kp I.out) aA az
  go_upto_region 6 with(go_at_call 130;refine(am.out _ _ _ r _ _ _ d.out.m d.out.e (aS.out.keep (d.out.kp I.out) (Q:=λb=>b<k.base) (λ_ ae _=>ae)) aX.out (by have:=aC.out;omega) (by have:=aT.out;have:=aB.out;omega) J (aM u.out)).mono ?_;rintro e ao ⟨rfl,au,m,a⟩;have o:=G (d.out.nx m a);clear m a am d R e0 aa X ah ag af)
  generalize fu (aQ k.sz) F r (w.vl 19 r 0)=ai at*
  go_upto_region 7 with(go_at_call 183;refine(vQ o.out.m _ (ay (aM u.out) Qd)).mono ?_;rintro e aE ⟨rfl,aO,m,a⟩;have V:=G (o.out.nx m a);clear m a o)
  go_upto_region 8 with(go_at_call 183;refine(vQ V.out.m _ (by rw[bm];have:=u.out;omega)).mono ?_;rintro e bi ⟨rfl,bq,m,a⟩;have aj:=G (V.out.nx m a);clear m a V)
  go_wp2_with (go_at_call 178;refine(sy aj.out.m _ aV.out (by rw[bm,bm];have:=u.out;omega)).mono ?_;rintro e bg ⟨rfl,bp,m,a⟩;have av:=G (aj.out.nx m a);clear m a aj);exact bodyPost_ret (results_none rfl _ _ _) rfl ⟨rfl,by rw[A.out];exact av.out.cp⟩
 have bE:(op==[38,38])=false:=Qn.2 ha;rw[if_neg ha]at A H;by_cases ho:op=[124,124]
 ·subst ho;rw[if_pos rfl]at A H;have u:=G (show(fu (aQ k.sz) F r ((w.inv r).vl 19 r 0)).big+4<=900000000 by have:=H.out;rw[bm,bo,bm]at this;omega);have bb:=G (show w.big<=900000000 by have:=aD.out r ((w.inv r).vl 19 r 0);rw[a7,bm]at this;have:=u.out;omega)
  have aV:=G (show(w.inv r).code.length<((fu (aQ k.sz) F r ((w.inv r).vl 19 r 0)).inv r).code.length by
   have:=xF (aQ k.sz) F r ((w.inv r).vl 19 r 0)
   simp only[lk,iH]at this⊢;omega)
  go_upto_region 11 with(go_at_call 183;refine(vQ z.out.m _ (ay bb.out Qd)).mono ?_;rintro e aZ ⟨rfl,a9,m,a⟩;have d:=G (z.out.nx m a);clear m a z)
  clear R
  go_upto_region 12 with(go_at_call 69;refine(jn d.out.m 19 _ _ _ rfl (aU (by rw[bm];have:=bb.out;omega))).mono ?_;rintro e ao ⟨rfl,au,m,a⟩;have o:=G (d.out.nx m a);clear m a d)
  have R:=o.out.x.1.cell;obtain⟨e0,aa,X,ah,ag,af⟩:=aP.out.kp (o.out.kp I.out) aA az
  go_upto_region 13 with(go_at_call 130;refine(am.out _ _ _ r _ _ _ o.out.m o.out.e (aS.out.keep (o.out.kp I.out) (Q:=λb=>b<k.base) (λ_ ae _=>ae)) aX.out (by have:=aC.out;omega) (by have:=aT.out;have:=aB.out;omega) J (aM u.out)).mono ?_;rintro e aE ⟨rfl,aO,m,a⟩;have V:=G (o.out.nx m a);clear m a am o R e0 aa X ah ag af)
  generalize fu (aQ k.sz) F r ((w.inv r).vl 19 r 0)=ai at*
  go_upto_region 14 with(go_at_call 183;refine(vQ V.out.m _ (ay (aM u.out) Qd)).mono ?_;rintro e bi ⟨rfl,bq,m,a⟩;have aj:=G (V.out.nx m a);clear m a V)
  go_upto_region 15 with(go_at_call 178;refine(sy aj.out.m _ aV.out (by rw[bm];have:=u.out;omega)).mono ?_;rintro e bg ⟨rfl,bp,m,a⟩;have av:=G (aj.out.nx m a);clear m a aj)
  go_wp2_with (go_at_call 183;refine(vQ av.out.m _ (by rw[bo,bm];have:=u.out;omega)).mono ?_;rintro e bz ⟨rfl,bL,m,a⟩;have bu:=G (av.out.nx m a);clear m a av);exact bodyPost_ret (results_none rfl _ _ _) rfl ⟨rfl,by rw[A.out];exact bu.out.cp⟩
 have bD:(op==[124,124])=false:=Qn.2 ho;rw[if_neg ho]at A H;have u:=G (show(fu (aQ k.sz) F (r+1) w).big+1<=900000000 by have:=H.out;have:=(mh op r (fu (aQ k.sz) F (r+1) w)).1;omega);have ba:=G (JO op)
 go_upto_region 16 with fail
 obtain⟨e0,aa,X,ah,ag,af⟩:=aP.out.kp (z.out.kp I.out) aA az
 go_upto_region 17 with(go_at_call 130;refine(am.out _ _ _ (r+1) _ _ _ z.out.m z.out.e (aS.out.keep (z.out.kp I.out) (Q:=λb=>b<k.base) (λ_ ae _=>ae)) aX.out (by have:=aC.out;omega) (by have:=aT.out;have:=aB.out;omega) J (aM u.out)).mono ?_;rintro e aZ ⟨rfl,a9,m,a⟩;have d:=G (z.out.nx m a);clear m a am z R e0 aa X ah ag af)
 generalize fu (aQ k.sz) F (r+1) w=ai at*;have R:=d.out.x.1.cell;have bc:=G (show biop op r ai=if(tw op).2.2=true then(if(tw op).2.1=true then ai.op (tw op).1 r (r+1) r else ai.op (tw op).1 r r (r+1)).inv r else(if(tw op).2.1=true then ai.op (tw op).1 r (r+1) r else ai.op (tw op).1 r r (r+1))from rfl);rw[bc.out]at A;clear bc;generalize (tw op).1=aw at*;generalize (tw op).2.1=bk at*;generalize (tw op).2.2=bj at*
 go_upto_region 18 with(go_at_call 220;refine(ba.out _).mono ?_;rintro e ao ⟨rfl,rfl⟩;clear ba R)
 cases bk<;>cases bj
 ·go_wp2_with (go_at_call 70;refine(gB d.out.m aw _ _ _ _ rfl (aU (ay (aM u.out) Qd))).mono ?_;rintro e ao ⟨rfl,au,m,a⟩;have o:=G (d.out.nx m a);clear m a d);exact bodyPost_end (results_none rfl _ _ _) rfl ⟨rfl,by rw[A.out];exact o.out.cp⟩
 ·go_wp2_with (first|(go_at_call 70;refine(gB d.out.m aw _ _ _ _ rfl (aU (ay (aM u.out) Qd))).mono ?_;rintro e ao ⟨rfl,au,m,a⟩;have o:=G (d.out.nx m a);clear m a d)|(go_at_call 183;refine(vQ o.out.m _ (by simp only[bh,aR,if_false,if_true];have:=u.out;omega)).mono ?_;rintro e aE ⟨rfl,aO,m,a⟩;have V:=G (o.out.nx m a);clear m a o));exact bodyPost_end (results_none rfl _ _ _) rfl ⟨rfl,by rw[A.out];exact V.out.cp⟩
 ·go_wp2_with (go_at_call 70;refine(gB d.out.m aw _ _ _ _ rfl (aU (ay (aM u.out) Qd))).mono ?_;rintro e ao ⟨rfl,au,m,a⟩;have o:=G (d.out.nx m a);clear m a d);exact bodyPost_end (results_none rfl _ _ _) rfl ⟨rfl,by rw[A.out];exact o.out.cp⟩
 ·go_wp2_with (first|(go_at_call 70;refine(gB d.out.m aw _ _ _ _ rfl (aU (ay (aM u.out) Qd))).mono ?_;rintro e ao ⟨rfl,au,m,a⟩;have o:=G (d.out.nx m a);clear m a d)|(go_at_call 183;refine(vQ o.out.m _ (by simp only[bh,aR,if_false,if_true];have:=u.out;omega)).mono ?_;rintro e aE ⟨rfl,aO,m,a⟩;have V:=G (o.out.nx m a);clear m a o));exact bodyPost_end (results_none rfl _ _ _) rfl ⟨rfl,by rw[A.out];exact V.out.cp⟩
end
section
open Go.RowKit
theorem Dp: ∀x∈sD,x.2.2.length<=10/\0<=x.2.1/\x.2.1<=100:=Qd
theorem xJ {s:List UInt8} {c:Int} {ls:List UInt8} (a:fX s=some (c,ls)):ls.length<=10/\0<=c/\c<=100:=by
 unfold fX at a;rw[fP]at a;obtain⟨x,d,a⟩:=a;have:=Dp x (dA d);rwa [a]at this
theorem xH (k:CC) (al:List (Nm×Int)) (x:Ex) (aG: ∀y∈x.args,CE k al y):CE k al x:=by
 obtain⟨A,op,nm,tx,v,xs⟩:=x;intro O V s r bn az c m e aB u aV aD bc aZ;subst bc;simp only[Ex.k,Ex.op,Ex.nm,Ex.tx,Ex.v,Ex.args]at aB aG⊢;rw[p4]at aD;rw[F1,am]at u;obtain⟨aT,u⟩:=u;obtain⟨bd,bz,bb,ba⟩:=of_decide_eq_true aT;have aW:nm.length<=maxLen:=ay bd Qd;clear aT;have bI:=G m;have bJ:=G e;have bH:=G aB;have aC:=G aG;have ag:=G aZ;have ap:=G aV;have ao:=G aD;have bA:(r:Int)<=1000000000:=J
 obtain⟨N,aF⟩: ∃N,xs.length=N:=⟨_,rfl⟩
 have aq:=G aF;rw[aF];have d:=G (CQ.new m e 206 #[.int i64 A,.string (Z op),.string (Z nm),.string (Z tx),.int i64 v,.slice az N c]);have a1:=aa V (.cells #[.int i64 A,.string (Z op),.string (Z nm),.string (Z tx),.int i64 v,.slice az N c] 206);have H:=G (aB.keep (.of_ext a1) (Q:=λb=>b<k.base) (λ_ X _=>X));clear m e aB aG aZ aV aD aF a1;by_cases h1:A=1
 ·subst h1;have z:=G (show fu (aQ k.sz) (.mk 1 op nm tx v xs) r s=s.st r v by rw[fu,if_pos rfl]);have aR:=G (show s.big<=900000000 by have:=ag.out;rw[z.out]at this;have:=iX s r v;omega);go_enter func130,ntmps130
  go_upto_region 1 with fail
  generalize World.alloc V _=af at*;have w:=d.out.x.1.cell;go_wp2_with (go_at_call 179;refine(GW d.out.m _ _ ⟨bb,ba⟩ (ay aR.out Qd)).mono ?_;rintro e ai ⟨rfl,aO,m,a⟩;have o:=G (d.out.nx m a);clear m a d w);exact bodyPost_end (results_none rfl _ _ _) rfl ⟨rfl,by rw[z.out];exact o.out.cp⟩
 have bw:(A==1)=false:=Qn.2 h1;by_cases h3:A=3
 ·subst h3;have z:=G (show fu (aQ k.sz) (.mk 3 op nm tx v xs) r s=s.ld 14 r nm by rw[fu,if_neg Qd,if_pos rfl]);have aR:=G (show s.big<=900000000 by have:=ag.out;rw[z.out]at this;have:=jU s 14 r nm;omega);go_enter func130,ntmps130
  go_upto_region 1 with fail
  generalize World.alloc V _=af at*;have w:=d.out.x.1.cell;go_wp2_with (go_at_call 180;refine(Iy d.out.m _ nm aW (ay aR.out Qd)).mono ?_;rintro e ai ⟨rfl,aO,m,a⟩;have o:=G (d.out.nx m a);clear m a d w);exact bodyPost_end (results_none rfl _ _ _) rfl ⟨rfl,by rw[z.out];exact o.out.cp⟩
 have bv:(A==3)=false:=Qn.2 h3;by_cases h46:A=4\/A=6
 ·rw[if_pos h46,am]at u;have aj:0<xs.length:=by have:=of_decide_eq_true u.1;omega
  have a8:=G (lh 0 aj u.2);have aX:=i6 0 aj;have a5:=G aX;obtain⟨b,bo,bK,bF,rfl,bD,bE,aE,a2⟩:=H.out.ec 0 aj;simp only[aY,bx]at aE;have a3:=G aE;have a4:=G a2;have ar:=G (aC.out _ (ax aj));have a6:=G (λr s=>tY (sz:=aQ k.sz) aj r s);unfold CE at ar;have bC:(0:Int)<(N:Int):=by have:=aq.out;omega
  have bB:0<N:=by have:=aq.out;omega
  generalize xs[0]=I at*;clear aX aE a2;rcases h46 with rfl|rfl
  ·have z:=G (show fu (aQ k.sz) (.mk 4 op nm tx v xs) r s=((fu (aQ k.sz) I r s).elem (aQ k.sz) r nm).op 16 r 0 0 by rw[fu,if_neg Qd,if_neg Qd,if_pos rfl,a6.out]);have ad:=G (show(fu (aQ k.sz) I r s).big+10<=900000000 by have:=ag.out;rw[z.out,bh]at this;have:=gW (aQ k.sz) (fu (aQ k.sz) I r s) r nm;omega);go_enter func130,ntmps130
   go_upto_region 1 with fail
   generalize World.alloc V _=af at*;have w:=d.out.x.1.cell;obtain⟨e0,aL,aK,aJ,aI,aH⟩:=a3.out
   go_upto_region 8 with(go_at_call 130;refine(ar.out _ _ _ r _ _ _ d.out.m d.out.e a4.out a8.out ap.out (by have:=a5.out;have:=ao.out;omega) rfl (aM ad.out)).mono ?_;rintro e ai ⟨rfl,aO,m,a⟩;have o:=G (d.out.nx m a);clear m a d ar w e0 aL aK aJ aI aH)
   generalize fu (aQ k.sz) I r s=aN at*;have w:=o.out.x.1.cell;have bl:=G (gW (aQ k.sz) aN r nm)
   go_upto_region 9 with(go_at_call 133;refine(F4 o.out.m _ nm aW (o.out.e.2.2 nm) (ay (aM ad.out) Qd)).mono ?_;rintro e ah ⟨rfl,an,m,a⟩;have F:=G (o.out.nx m a);clear m a o w)
   generalize aN.elem (aQ k.sz) r nm=bG at*;go_wp2_with (go_at_call 70;refine(gB F.out.m 16 _ _ _ _ rfl (aU (by have:=bl.out;have:=ad.out;omega))).mono ?_;rintro e a9 ⟨rfl,bk,m,a⟩;have aP:=G (F.out.nx m a);clear m a F);exact bodyPost_end (results_none rfl _ _ _) rfl ⟨rfl,by rw[z.out];exact aP.out.cp⟩
  ·have z:=G (show fu (aQ k.sz) (.mk 6 op nm tx v xs) r s=if op=[33]then(fu (aQ k.sz) I r s).inv r else((fu (aQ k.sz) I r s).vl 1 0 0).op 5 r 0 r by rw[fu,if_neg Qd,if_neg Qd,if_neg Qd,if_neg Qd,if_pos rfl,a6.out])
   have ad:=G (show(fu (aQ k.sz) I r s).big+2<=900000000 by
    have:=ag.out;rw[z.out]at this;split at this
    ·rw[bm]at this;omega
    ·rw[bh,a7]at this;omega)
   go_enter func130,ntmps130
   go_upto_region 1 with fail
   generalize World.alloc V _=af at*;have w:=d.out.x.1.cell;obtain⟨e0,aL,aK,aJ,aI,aH⟩:=a3.out
   go_upto_region 17 with(go_at_call 130;refine(ar.out _ _ _ r _ _ _ d.out.m d.out.e a4.out a8.out ap.out (by have:=a5.out;have:=ao.out;omega) rfl (aM ad.out)).mono ?_;rintro e ai ⟨rfl,aO,m,a⟩;have o:=G (d.out.nx m a);clear m a d ar w e0 aL aK aJ aI aH)
   generalize fu (aQ k.sz) I r s=aN at*;have w:=o.out.x.1.cell;by_cases hx:op=[33]
   ·subst hx;rw[if_pos rfl]at z;go_wp2_with (go_at_call 183;refine(vQ o.out.m _ (ay (aM ad.out) Qd)).mono ?_;rintro e ah ⟨rfl,an,m,a⟩;have F:=G (o.out.nx m a);clear m a o w);exact bodyPost_ret (results_none rfl _ _ _) rfl ⟨rfl,by rw[z.out];exact F.out.cp⟩
   ·rw[if_neg hx]at z;have bp:(op==[33])=false:=Qn.2 hx
    go_wp2_with (first
     |(go_at_call 69;refine(jn o.out.m 1 _ _ _ rfl (aU (ay (aM ad.out) Qd))).mono ?_;rintro e ah ⟨rfl,an,m,a⟩;have F:=G (o.out.nx m a);clear m a o w)
     |(go_at_call 70;refine(gB F.out.m 5 _ _ _ _ rfl (aU (by rw[a7];have:=ad.out;omega))).mono ?_;rintro e a9 ⟨rfl,bk,m,a⟩;have aP:=G (F.out.nx m a);clear m a F))
    exact bodyPost_end (results_none rfl _ _ _) rfl ⟨rfl,by rw[z.out];exact aP.out.cp⟩
 rw[if_neg h46]at u;have bu:(A==4)=false:=Qn.2 λe=>h46 (.inl e);have br:(A==6)=false:=Qn.2 λe=>h46 (.inr e);by_cases h5:A=5
 ·subst h5;rw[if_pos rfl]at u
  cases hbl:fX nm with
  |some p=>
   obtain⟨aA,ls⟩:=p;have aw:=G (λW (X:BT W)=>show Calls prog 175 #[.string (Z nm)] W λe w'=>e=.returned (.tuple #[.int i64 aA,.string (Z ls),.bool true])/\au W w' from by have:=mL nm W X;rw[hbl]at this;exact this);rw[hbl]at u;simp only[am]at u;obtain⟨be,bg,bf⟩:=xJ hbl;have bi:=of_decide_eq_true u.1;have z:=G (show fu (aQ k.sz) (.mk 5 op nm tx v xs) r s=iT (aQ k.sz) aA ls xs r (mP (aQ k.sz) ls xs r s) by rw[fu,if_neg Qd,if_neg Qd,if_neg Qd,if_pos rfl,hbl]);have aS:=G (show(iT (aQ k.sz) aA ls xs r (mP (aQ k.sz) ls xs r s)).big<=900000000 by rw[<-z.out];exact ag.out);have av:=G u.2;clear hbl u h46;go_enter func130,ntmps130
   go_upto_region 1 with fail
   generalize World.alloc V _=af at*;have w:=d.out.x.1.cell
   go_upto_region 12 with(go_at_call 175;refine(aw.out _ d.out.e.1).mono ?_;rintro e ai ⟨rfl,ae⟩;have o:=G (d.out.ext ae);replace H:=G (H.out.keep (.of_ext ae) (Q:=λb=>b<k.base) (λ_ X _=>X));clear aw w d ae;have w:=o.out.x.1.cell)
   have R:=G (Fh k al op nm tx v xs aC.out _ _ s r az c aA ls o.out.m o.out.e H.out bi be ⟨bg,bf⟩ av.out ap.out (by have:=ao.out;omega) aS.out);rw[aq.out]at R;go_wp2_with (go_at_call 181;refine R.out.mono ?_;rintro e ah ⟨rfl,an,m,a⟩;have F:=G (o.out.nx m a);clear m a o w R);exact bodyPost_ret (results_none rfl _ _ _) rfl ⟨rfl,by rw[z.out];exact F.out.cp⟩
  |none=>
   have aw:=G (λW (X:BT W)=>show Calls prog 175 #[.string (Z nm)] W λe w'=>e=.returned (.tuple #[.int i64 0,.string ⟨#[]⟩,.bool false])/\au W w' from by have:=mL nm W X;rw[hbl]at this;exact this);rw[hbl]at u;simp only at u;have z:=G (show fu (aQ k.sz) (.mk 5 op nm tx v xs) r s=caFin nm xs.length r (p6 (aQ k.sz) xs r s) by rw[fu,if_neg Qd,if_neg Qd,if_neg Qd,if_pos rfl,hbl]);have aS:=G (show(caFin nm xs.length r (p6 (aQ k.sz) xs r s)).big<=900000000 by rw[<-z.out];exact ag.out);have av:=G u;clear hbl u h46;go_enter func130,ntmps130
   go_upto_region 1 with fail
   generalize World.alloc V _=af at*;have w:=d.out.x.1.cell
   go_upto_region 12 with(go_at_call 175;refine(aw.out _ d.out.e.1).mono ?_;rintro e ai ⟨rfl,ae⟩;have o:=G (d.out.ext ae);replace H:=G (H.out.keep (.of_ext ae) (Q:=λb=>b<k.base) (λ_ X _=>X));clear aw w d ae;have w:=o.out.x.1.cell)
   have R:=G (Ae k al op nm tx v xs aC.out _ _ s r az c o.out.m o.out.e H.out av.out ap.out (by have:=ao.out;omega) aS.out);rw[aq.out]at R z;go_wp2_with (go_at_call 182;refine R.out.mono ?_;rintro e ah ⟨rfl,an,m,a⟩;have F:=G (o.out.nx m a);clear m a o w R);exact bodyPost_end (results_none rfl _ _ _) rfl ⟨rfl,by rw[z.out];exact F.out.cp⟩
 have bt:(A==5)=false:=Qn.2 h5;rw[if_neg h5]at u;by_cases h7:A=7
 ·subst h7;rw[if_pos rfl,am]at u;have bj:=of_decide_eq_true u.1;have av:=G u.2;clear u h46;go_enter func130,ntmps130
  go_upto_region 1 with fail
  generalize World.alloc V _=af at*;have w:=d.out.x.1.cell;have R:=G (Dj k al op nm tx v xs aC.out _ _ s r az c d.out.m d.out.e H.out bj av.out ap.out (by have:=ao.out;omega) ag.out);rw[aq.out]at R;go_wp2_with (go_at_call 184;refine R.out.mono ?_;rintro e ah ⟨rfl,an,m,a⟩;have F:=G (d.out.nx m a);clear m a d w R);exact bodyPost_end (results_none rfl _ _ _) rfl ⟨rfl,F.out.cp⟩
 ·have bq:(A==7)=false:=Qn.2 h7;have z:=G (show fu (aQ k.sz) (.mk A op nm tx v xs) r s=s by rw[fu,if_neg h1,if_neg h3,if_neg (λe=>h46 (.inl e)),if_neg h5,if_neg (λe=>h46 (.inr e)),if_neg h7]);clear u h46;go_enter func130,ntmps130
  go_upto_region 1 with fail
  generalize World.alloc V _=af at*;have w:=d.out.x.1.cell;go_wp2_with fail;exact bodyPost_end (results_none rfl _ _ _) rfl ⟨rfl,by rw[z.out];exact d.out.cp⟩
mutual
theorem oM (k:CC) (d:List (Nm×Int)): ∀x:Ex,CE k d x
 | .mk kd op nm tx v a=>xH k d _ (vS k d a)
theorem vS (k:CC) (a:List (Nm×Int)): ∀l:List Ex,∀y∈l,CE k a y
 | [],y,h=>absurd h Qe
 |x::l,y,h=>by
  rcases List.mem_cons.1 h with e|e
  ·rw[e];exact oM k a x
  ·exact vS k a l y e
end
end
section
open Go.RowKit
def CS.sf (s:CS):List (Nm×Int)×Int:=(s.slots,s.frame)
theorem kA (s:CS) (a:Nat) (d b n:Int):(s.op a d b n).sf=s.sf:=rfl
theorem mW (s:CS) (a:Nat) (d v:Int):(s.vl a d v).sf=s.sf:=rfl
theorem mz (s:CS) (i:Nat):(s.land i).sf=s.sf:=rfl
theorem oX (s:CS) (r:Int):(s.inv r).sf=s.sf:=rfl
theorem D0 (s:CS) (r:Int) (t:List UInt8):(s.text r t).sf=s.sf:=rfl
theorem Bp (s:CS) (r:Int) (nm:Nm):(s.dat r nm).sf=s.sf:=rfl
theorem D4 (s:CS) (nm:Nm):(s.call nm).sf=s.sf:=rfl
theorem Bn (s:CS) (r n:Int):(s.st r n).sf=s.sf:=by unfold CS.st;split<;>rfl
theorem Bq (s:CS) (r m:Int):(s.chk r m).sf=s.sf:=by unfold CS.chk;simp only[kA,mW,Bn]
theorem uH (s:CS) (a:Nat) (r:Int) (nm:Nm):(s.ld a r nm).sf=s.sf:=by unfold CS.ld;split<;>rfl
theorem D5 (op:Nm) (r:Int) (s:CS):(biop op r s).sf=s.sf:=by unfold biop;simp only;split<;>split<;>rfl
theorem Bm (a:Nat): ∀(k i:Nat) (s:CS),(svL a k i s).sf=s.sf
 |0,i,s=>rfl
 |k+1,i,s=>by rw[svL,Bm a k,kA]
theorem Bo (r:Nat): ∀(k i:Nat) (s:CS),(mvL r k i s).sf=s.sf
 |0,i,s=>rfl
 |k+1,i,s=>by rw[mvL,Bo r k,kA]
theorem Br (nm:Nm) (n r:Nat) (s:CS):(caFin nm n r s).sf=s.sf:=by unfold caFin;simp only[kA,Bm,D4,Bo]
theorem Gq (c:Int) (n r i:Nat) (s:CS):(biM c n r i s).sf=s.sf:=by unfold biM;split<;>rfl
section
variable (sz:Nm->Int)
theorem sZ (s:CS) (r:Int) (nm:Nm):(s.elem sz r nm).sf=s.sf:=by unfold CS.elem;simp only[kA,Bp,Bq]
theorem s6: ∀(ls:List UInt8) (d:List Ex) (a:Int) (s:CS),(mQ sz ls d a s).2.sf=s.sf
 | _,[],a,s=>rfl
 |ls,x::l,a,s=>by
  rw[mQ];split
  ·exact s6 ls.tail l a s
  split
  ·rw[s6 ls.tail l,Bn,D0]
  ·rw[s6 ls.tail l,Bp]
theorem Bs (c:Int) (ls:List UInt8) (a:List Ex) (r:Nat) (s:CS):(iT sz c ls a r s).sf=s.sf:=by
 unfold iT;simp only[kA,mW];split<;>simp only[kA,Gq,Bq,s6]
mutual
theorem wT: ∀(x:Ex) (r:Nat) (s:CS),(fu sz x r s).sf=s.sf
 | .mk k op nm tx v a,r,s=>by
  rw[fu];split
  ·rw[Bn]
  split
  ·rw[uH]
  split
  ·rw[kA,sZ,s_ a]
  split
  ·split
   ·rw[Bs,Gr _ a]
   ·rw[Br,Ia a]
  split
  ·split
   ·rw[oX,s_ a]
   ·rw[kA,mW,s_ a]
  split
  ·split
   ·rw[mz,oX,oX,Bt a,mW,s_ a]
   split
   ·rw[oX,mz,oX,Bt a,mW,oX,s_ a]
   ·rw[D5,Bt a,s_ a]
  ·rfl
theorem s_: ∀(l:List Ex) (r:Nat) (s:CS),(eW sz l r s).sf=s.sf
 | [],r,s=>rfl
 |x::_,r,s=>by rw[eW];exact wT x r s
theorem Bt: ∀(l:List Ex) (r:Nat) (s:CS),(nI sz l r s).sf=s.sf
 | [],r,s=>rfl
 | _::l,r,s=>by rw[nI];exact s_ l r s
theorem Ia: ∀(l:List Ex) (r:Nat) (s:CS),(p6 sz l r s).sf=s.sf
 | [],r,s=>rfl
 |x::l,r,s=>by rw[p6,Ia l,wT x]
theorem Gr: ∀(ls:List UInt8) (l:List Ex) (r:Nat) (s:CS),(mP sz ls l r s).sf=s.sf
 | _,[],r,s=>rfl
 |ls,x::l,r,s=>by
  rw[mP];split
  ·rw[Gr _ l,wT x]
  ·rw[Gr _ l]
end
theorem H': ∀(l:List Ex) (s:CS),(gO sz l s).sf=s.sf
 | [],s=>rfl
 |x::_,s=>by rw[gO];exact wT sz x 7 s
mutual
theorem Iu: ∀(x:St) (s:CS),(nH sz x s).frame=s.frame/\(nH sz x s).slots.length<=s.slots.length+mO x
 | .mk k nm ex b e,s=>by
  have q: ∀{u w:CS},u.sf=w.sf->u.frame=w.frame/\u.slots.length=w.slots.length:=λA=>by unfold CS.sf at A;injection A with h a;exact⟨a,by rw[h]⟩
  have z:=q (s_ sz ex 7 s);have d:=q (H' sz ex s);have h:=vF b ((eW sz ex 7 s).vl 19 7 0);have y:=q (mW (eW sz ex 7 s) 19 7 0);rw[nH,mO];split
  ·split
   ·have:=q (mz (dI sz b ((eW sz ex 7 s).vl 19 7 0)) (eW sz ex 7 s).code.length);exact⟨by rw[this.1,h.1,y.1,z.1],by omega⟩
   ·have a:=vF e (((dI sz b ((eW sz ex 7 s).vl 19 7 0)).vl 18 0 0).land (eW sz ex 7 s).code.length);have o:=q (mz ((dI sz b ((eW sz ex 7 s).vl 19 7 0)).vl 18 0 0) (eW sz ex 7 s).code.length);have G:=q (mW (dI sz b ((eW sz ex 7 s).vl 19 7 0)) 18 0 0);have F:=q (mz (dI sz e (((dI sz b ((eW sz ex 7 s).vl 19 7 0)).vl 18 0 0).land (eW sz ex 7 s).code.length)) (dI sz b ((eW sz ex 7 s).vl 19 7 0)).code.length);exact⟨by rw[F.1,a.1,o.1,G.1,h.1,y.1,z.1],by omega⟩
  split
  ·have a:=q (mz ((dI sz b ((eW sz ex 7 s).vl 19 7 0)).vl 18 0 ((s.code.length:Int)-(dI sz b ((eW sz ex 7 s).vl 19 7 0)).code.length-1)) (eW sz ex 7 s).code.length);have o:=q (mW (dI sz b ((eW sz ex 7 s).vl 19 7 0)) 18 0 ((s.code.length:Int)-(dI sz b ((eW sz ex 7 s).vl 19 7 0)).code.length-1));exact⟨by rw[a.1,o.1,h.1,y.1,z.1],by omega⟩
  split
  ·rename_i R;have a:=q (uH ((gO sz ex s).decl nm) 15 7 nm);have o:((gO sz ex s).decl nm).slots.length<=(gO sz ex s).slots.length+1:=by
    show(iU _ _ _).length<=_;unfold iU;split<;>simp
   exact⟨by rw[a.1];exact d.1,by omega⟩
  split
  ·have a:=q (uH (gO sz ex s) 15 7 nm);exact⟨by rw[a.1,d.1],by omega⟩
  split
  ·have a:=q (show(((((nI sz ex 7 ((gO sz ex s).op 15 7 15 28)).op 3 8 7 0).op 14 7 15 28).elem sz 7 nm).op 17 8 0 0).sf=(gO sz ex s).sf by rw[kA,sZ,kA,kA,Bt,kA]);exact⟨by rw[a.1,d.1],by omega⟩
  split
  ·have a:=q (show((gO sz ex s).op 3 1 7 0).back.sf=(gO sz ex s).sf from rfl);exact⟨by rw[a.1,d.1],by omega⟩
  ·exact⟨d.1,by omega⟩
theorem vF: ∀(l:List St) (s:CS),(dI sz l s).frame=s.frame/\(dI sz l s).slots.length<=s.slots.length+cK l
 | [],s=>⟨rfl,ah _⟩
 |x::l,s=>by
  have d:=Iu x s;have a:=vF l (nH sz x s);rw[dI,cK];exact⟨by rw[a.1,d.1],by omega⟩
end
mutual
theorem JS: ∀(x:St) (s:CS),s.code.length<=(nH sz x s).code.length
 | .mk k nm ex b e,s=>by
  rw[nH];have o:=G2 sz ex 7 s;have h:=sA b ((eW sz ex 7 s).vl 19 7 0);rw[iH]at h;have d:=JR ex s;split
  ·split
   ·rw[li];omega
   ·rw[li];have a:=sA e (((dI sz b ((eW sz ex 7 s).vl 19 7 0)).vl 18 0 0).land (eW sz ex 7 s).code.length);rw[li,iH]at a;omega
  split
  ·rw[li,iH];omega
  split
  ·have:=Da ((gO sz ex s).decl nm) 15 7 nm;have a:((gO sz ex s).decl nm).code.length=(gO sz ex s).code.length:=rfl;omega
  split
  ·have:=Da (gO sz ex s) 15 7 nm;omega
  split
  ·have a:=E' sz ex 7 ((gO sz ex s).op 15 7 15 28);have:=yx sz (((nI sz ex 7 ((gO sz ex s).op 15 7 15 28)).op 3 8 7 0).op 14 7 15 28) 7 nm;simp only[jS]at this a⊢;omega
  split
  ·simp only[CS.back,jS];omega
  ·exact d
theorem sA: ∀(l:List St) (s:CS),s.code.length<=(dI sz l s).code.length
 | [],s=>ah _
 |x::l,s=>by rw[dI];exact ay (JS x s) (sA l _)
theorem JR: ∀(l:List Ex) (s:CS),s.code.length<=(gO sz l s).code.length
 | [],s=>by rw[gO,iH];omega
 |x::_,s=>by rw[gO];exact xF sz x 7 s
end
end
mutual
def rJ:St->Bool
 | .mk k nm ex b e=>decide (nm.length<=1000000000/\ot ex<=900000000)&&(if k=4\/k=5 then decide (1<=ex.length)else if k=3 then decide (2<=ex.length)else true)&&wj ex&&(p7 b&&p7 e)
def p7:List St->Bool
 | []=>true
 |x::l=>rJ x&&p7 l
end
structure SC (w:World) (b o:Nat) (k:Int) (nm:List UInt8) (u1 u2 u3:Value):Prop where
 c0:w.cell? ⟨b,o,none⟩=some (.int i64 k)
 c1:w.cell? ⟨b,o+1,none⟩=some (.string (Z nm))
 c2:w.cell? ⟨b,o+2,none⟩=some u1
 c3:w.cell? ⟨b,o+3,none⟩=some u2
 c4:w.cell? ⟨b,o+4,none⟩=some u3
theorem SC.kp {u w':World} {P:Nat->Prop} {b w:Nat} {k:Int} {nm:List UInt8} {u1 u2 u3:Value} (o:SC u b w k nm u1 u2 u3) (a:dM P u w') (h:P b) (d:b<u.heap.size):SC w' b w k nm u1 u2 u3:=
 ⟨(a.cell _ h d).trans o.c0,(a.cell _ h d).trans o.c1,(a.cell _ h d).trans o.c2,(a.cell _ h d).trans o.c3,(a.cell _ h d).trans o.c4⟩
theorem eq.sc {a:World} {P:Nat->Prop} {F:Option Addr} {n c:Nat} {xs:List St} (I:eq a P (.slice F n c) xs) (i:Nat) (hi:i<xs.length):
  ∃b d E c1 B c2 L h,F=some ⟨b,d,none⟩/\b<a.heap.size/\P b/\SC a b (d+i*5) xs[i].k xs[i].nm (.slice E xs[i].ex.length c1) (.slice B xs[i].body.length c2) (.slice L xs[i].els.length h)/\dS a P (.slice E xs[i].ex.length c1) xs[i].ex/\eq a P (.slice B xs[i].body.length c2) xs[i].body/\eq a P (.slice L xs[i].els.length h) xs[i].els:=by
 cases I with
 |nil=>simp at hi
 |row b d n c xs es bs ls hP hb hn hnc hm hc he hs hl=>
  obtain⟨aa,X,A,z,y⟩:=hc i hi;have w:=he i hi;have u:=hs i hi;have o:=hl i hi;obtain⟨E,c1,V,_⟩:=w.form;obtain⟨B,c2,R,_⟩:=u.form;obtain⟨L,h,G,_⟩:=o.form;rw[V]at w A;rw[R]at u z;rw[G]at o y;exact⟨b,d,E,c1,B,c2,L,h,rfl,hb,hP,⟨aa,X,A,z,y⟩,w,u,o⟩
def yH (k:CC) (at_:List (Nm×Int)) (l:List St):Prop:= ∀(O:Nat->Prop) (w:World) (s:CS) (A:Option Addr) (c:Nat),CX k at_ O w s->kK k w->eq w (λb=>b<k.base) (.slice A l.length c) l->
 p7 l=true->s.frame≠0->s.slots.length+cK l<=1000->(dI (aQ k.sz) l s).big<=900000000->
 Calls prog 72 #[.pointer (some ⟨k.c,0,none⟩),.slice A l.length c] w λe w'=>e=.returned (.tuple #[])/\CP k at_ O w (dI (aQ k.sz) l s) w'
theorem CQ.box {k:CC} {h:List (Nm×Int)} {o O:Nat->Prop} {w0 a:World} {s:CS} (m:CX k h O a s) (T:eo o w0 O a) (e:kK k a) (t:TypeId) (d:Array Value):CQ k h o w0 a.heap.size t d O s (a.alloc (.cells d t)):=⟨m.ext (aa a _),T.ex (aa a _),.new m t d,e.ext (aa a _)⟩
theorem qU {a d:CS} (h:a.sf=d.sf):a.frame=d.frame/\a.slots.length=d.slots.length:=by unfold CS.sf at h;injection h with u o;exact⟨o,by rw[u]⟩
end
section
open Go.RowKit
theorem CH {k:CC} {o:List (Nm×Int)} {O:Nat->Prop} {d:World} {s:CS} (m:CX k o O d s): ∃C a,d.cell? ⟨k.c,1+1,none⟩=some (.slice C s.code.length a):=by
 obtain⟨A,u,y,z,w,h,F⟩:=m;obtain⟨C,a,rfl⟩:=kB h.code;exact⟨C,a,(h.blk.cell 2).trans rfl⟩
theorem Fa (k:CC) (ae:List (Nm×Int)) (nm:List UInt8) (o:List Ex) (b e:List St) (aq:yH k ae b) (ap:yH k ae e) (O:Nat->Prop) (A:World) (s:CS) (E:Option Addr) (c1:Nat) (B:Option Addr) (c2:Nat) (L:Option Addr) (aw:Nat) (m:CX k ae O A s) (a2:kK k A)
  (a5:dS A (λb=>b<k.base) (.slice E o.length c1) o) (a4:eq A (λb=>b<k.base) (.slice B b.length c2) b) (a3:eq A (λb=>b<k.base) (.slice L e.length aw) e)
  (aL:rJ (.mk 4 nm o b e)=true) (ao:s.frame≠0) (aG:s.slots.length+mO (.mk 4 nm o b e)<=1000) (X:(nH (aQ k.sz) (.mk 4 nm o b e) s).big<=900000000):
  Calls prog 128 #[.pointer (some ⟨k.c,0,none⟩),.agg #[.int i64 4,.string (Z nm),.slice E o.length c1,.slice B b.length c2,.slice L e.length aw]] A λz w'=>z=.returned (.tuple #[])/\CP k ae O A (nH (aQ k.sz) (.mk 4 nm o b e) s) w':=by
 have al:=G m;rw[rJ,am,am,am,am,if_pos (.inl rfl)]at aL;obtain⟨⟨⟨aH,a1⟩,aS⟩,aR,aP⟩:=aL;have ad:0<o.length:=by have:=of_decide_eq_true a1;omega
 have bi:=(of_decide_eq_true aH).2;have bj:=i6 0 ad;obtain⟨bf,bh,bW,bN,rfl,bl,bm,ar,aX⟩:=a5.ec 0 ad;simp only[aY,bx]at ar;have bF:=G (lh 0 ad aS)
 have ag:=G (show nH (aQ k.sz) (.mk 4 nm o b e) s=if e.isEmpty=true then(dI (aQ k.sz) b ((fu (aQ k.sz) o[0] 7 s).vl 19 7 0)).land (fu (aQ k.sz) o[0] 7 s).code.length
   else(dI (aQ k.sz) e (((dI (aQ k.sz) b ((fu (aQ k.sz) o[0] 7 s).vl 19 7 0)).vl 18 0 0).land (fu (aQ k.sz) o[0] 7 s).code.length)).land (dI (aQ k.sz) b ((fu (aQ k.sz) o[0] 7 s).vl 19 7 0)).code.length by
  rw[nH,if_pos rfl];simp only[tY ad])
 have an:=qU (wT (aQ k.sz) o[0] 7 s);have aC:=G (oM k ae o[0]);unfold CE at aC;unfold yH at aq ap;have a8:=G aq;have a6:=G ap;rw[mO,if_neg Qd]at aG;generalize o[0]=aD at*;generalize aW:fu (aQ k.sz) aD 7 s=u at*;have aK:=vF (aQ k.sz) b (u.vl 19 7 0);have aO:=sA (aQ k.sz) b (u.vl 19 7 0);have aJ:=iD (aQ k.sz) b (u.vl 19 7 0);rw[iH]at aO;rw[a7]at aJ;have aF:=qU (mW u 19 7 0);generalize aV:dI (aQ k.sz) b (u.vl 19 7 0)=w at*;have bk:=qU (show((w.vl 18 0 0).land u.code.length).sf=w.sf from rfl);have aI:=iD (aQ k.sz) e ((w.vl 18 0 0).land u.code.length);have aN:=sA (aQ k.sz) e ((w.vl 18 0 0).land u.code.length);rw[bo,a7]at aI;rw[li,iH]at aN;have av:w.big<=900000000/\(e.isEmpty=false->(dI (aQ k.sz) e ((w.vl 18 0 0).land u.code.length)).big<=900000000):=by
  rw[ag.out]at X
  cases he:e.isEmpty with
  |true=>rw[he,if_pos rfl,bo]at X;exact⟨X,λF=>by cases F⟩
  |false=>rw[he,if_neg Qe,bo]at X;exact⟨by omega,λ_=>X⟩
 have ah:=G av;have be:=G (show u.big+1<=900000000 by have:=av.1;omega)
 have aj:=G (show u.frame≠0/\u.slots.length+cK b<=1000/\w.frame≠0/\w.slots.length+cK e<=1000 by
  refine⟨by rw[an.1];exact ao,by omega,by rw[aK.1,aF.1,an.1];exact ao,by omega⟩)
 have aB:=G (show u.code.length<w.code.length/\w.code.length<(dI (aQ k.sz) e ((w.vl 18 0 0).land u.code.length)).code.length by omega);generalize aT:dI (aQ k.sz) e ((w.vl 18 0 0).land u.code.length)=bP at*;obtain⟨N,au⟩: ∃N,o.length=N:=⟨_,rfl⟩
 rw[au]at ad;rw[au];obtain⟨M,aZ⟩: ∃M,e.length=M:=⟨_,rfl⟩
 have H:=G aZ;have bM:(0:Int)<(N:Int):=J
 have V:=G (CQ.new m a2 147 #[.int i64 4,.string (Z nm),.slice (some ⟨bf,bh,none⟩) N c1,.slice B b.length c2,.slice L e.length aw]);have bA:=G ar;have bC:=G aX;have bB:=G a4;have bc:=G a3;have bE:=G (show 7+p4 aD<=1000000000 by omega);have bz:=G aR;have bw:=G aP;have bb:=G aW;have ba:=G aV;have a9:=G aT;clear m a2 a5 a4 a3 aR aP aq ap aG ao X aK aO aJ aF bk aI aN av au aZ ar aX bj bi aH a1 aS an aW aV aT;go_enter func128,ntmps128
 go_upto_region 1 with fail
 generalize World.alloc A _=bO at*;have y:=V.out.x.1.cell;obtain⟨e0,bu,bt,br,bq,bp⟩:=bA.out.kp (V.out.kp al.out) bm bl
 go_upto_region 2 with(go_at_call 130;refine(aC.out _ _ s 7 _ _ _ V.out.m V.out.e (bC.out.keep (V.out.kp al.out) (Q:=λb=>b<k.base) (λ_ F _=>F)) bF.out Qd bE.out rfl (by rw[bb.out];exact aM be.out)).mono ?_;rw[bb.out];rintro z bL ⟨rfl,bV,aE,d⟩;have aA:=G (V.out.nx aE d);clear aE d aC V y e0 bu bt br bq bp)
 go_upto_region 3 with(go_at_call 69;refine(jn aA.out.m 19 _ _ _ rfl (aU (ay (aM be.out) Qd))).mono ?_;rintro z bK ⟨rfl,bU,m,d⟩;have I:=G (aA.out.nx m d);clear m d aA)
 have y:=I.out.x.1.cell
 go_upto_region 4 with(go_at_call 72;refine(a8.out _ _ _ _ _ I.out.m I.out.e (bB.out.keep (I.out.kp al.out) (Q:=λb=>b<k.base) (λ_ F _=>F)) bz.out aj.out.1 aj.out.2.1 (by rw[ba.out];exact ah.out.1)).mono ?_;rw[ba.out];rintro z bJ ⟨rfl,bT,m,d⟩;have R:=G (I.out.nx m d);clear m d a8 I y)
 have y:=R.out.x.1.cell;by_cases hM0:0<M
 ·have bn:(0:Int)<(M:Int):=J
  have ai:e.isEmpty=false:=by cases e with|nil=>have:=H.out;simp at this;omega|cons a l=>rfl
  rw[ai,if_neg Qe]at ag;have bd:=G (ah.out.2 ai);rw[H.out]at y bc;have ax:=a6;rw[H.out]at ax
  go_upto_region 6 with(go_at_call 69;refine(jn R.out.m 18 _ _ _ rfl (aU (ay ah.out.1 Qd))).mono ?_;rintro z bg ⟨rfl,bv,m,d⟩;have af:=G (R.out.nx m d);clear m d R y)
  go_upto_region 7 with(go_at_call 178;refine(sy af.out.m _ (by rw[iH];have:=aB.out.1;omega) (by rw[a7];have:=ah.out.1;omega)).mono ?_;rintro z bI ⟨rfl,bS,m,d⟩;have aa:=G (af.out.nx m d);clear m d af)
  have y:=aa.out.x.1.cell;rw[H.out]at y
  go_upto_region 8 with(go_at_call 72;refine(ax.out _ _ _ _ _ aa.out.m aa.out.e (bc.out.keep (aa.out.kp al.out) (Q:=λb=>b<k.base) (λ_ F _=>F)) bw.out aj.out.2.2.1 aj.out.2.2.2 (by rw[a9.out];exact bd.out)).mono ?_;rw[a9.out];rintro z bH ⟨rfl,bR,m,d⟩;have az:=G (aa.out.nx m d);clear m d a6 ax aa y)
  go_wp2_with (go_at_call 178;refine(sy az.out.m _ aB.out.2 (ay bd.out Qd)).mono ?_;rintro z bG ⟨rfl,bQ,m,d⟩;have bD:=G (az.out.nx m d);clear m d az);exact bodyPost_end (results_none rfl _ _ _) rfl ⟨rfl,by rw[ag.out];exact bD.out.cp⟩
 ·have bn: ¬(0:Int)<(M:Int):=J
  have ai:e.isEmpty=true:=by cases e with|nil=>rfl|cons a l=>have:=H.out;simp at this;omega
  rw[ai,if_pos rfl]at ag;rw[H.out]at y;go_wp2_with (go_at_call 178;refine(sy R.out.m _ aB.out.1 (ay ah.out.1 Qd)).mono ?_;rintro z bg ⟨rfl,bv,m,d⟩;have af:=G (R.out.nx m d);clear m d R y);exact bodyPost_end (results_none rfl _ _ _) rfl ⟨rfl,by rw[ag.out];exact af.out.cp⟩
theorem E0 (k:CC) (V:List (Nm×Int)) (nm:List UInt8) (a:List Ex) (b e:List St) (aa:yH k V b) (O:Nat->Prop) (w:World) (s:CS) (E:Option Addr) (c1:Nat) (B:Option Addr) (c2:Nat) (L:Value) (m:CX k V O w s) (aE:kK k w)
  (aG:dS w (λb=>b<k.base) (.slice E a.length c1) a) (aF:eq w (λb=>b<k.base) (.slice B b.length c2) b)
  (av:rJ (.mk 5 nm a b e)=true) (au:s.frame≠0) (ap:s.slots.length+mO (.mk 5 nm a b e)<=1000) (I:(nH (aQ k.sz) (.mk 5 nm a b e) s).big<=900000000):
  Calls prog 129 #[.pointer (some ⟨k.c,0,none⟩),.agg #[.int i64 5,.string (Z nm),.slice E a.length c1,.slice B b.length c2,L]] w λz w'=>z=.returned (.tuple #[])/\CP k V O w (nH (aQ k.sz) (.mk 5 nm a b e) s) w':=by
 have ai:=G m;rw[rJ,am,am,am,am,if_pos (.inr rfl)]at av;obtain⟨⟨⟨aq,aD⟩,az⟩,ax,aX⟩:=av;have F:0<a.length:=by have:=of_decide_eq_true aD;omega
 have aT:=(of_decide_eq_true aq).2;have aV:=i6 0 F;obtain⟨aO,aP,bG,bt,rfl,a1,a2,H,aC⟩:=aG.ec 0 F;simp only[aY,bx]at H;have bi:=G (lh 0 F az)
 have aL:=G (show nH (aQ k.sz) (.mk 5 nm a b e) s=((dI (aQ k.sz) b ((fu (aQ k.sz) a[0] 7 s).vl 19 7 0)).vl 18 0 ((s.code.length:Int)-(dI (aQ k.sz) b ((fu (aQ k.sz) a[0] 7 s).vl 19 7 0)).code.length-1)).land (fu (aQ k.sz) a[0] 7 s).code.length by
  rw[nH,if_neg Qd,if_pos rfl];simp only[tY F])
 have ao:=qU (wT (aQ k.sz) a[0] 7 s);have aj:=G (oM k V a[0]);unfold CE at aj;unfold yH at aa;have aI:=G aa;rw[mO,if_neg Qd]at ap;have aS:=xF (aQ k.sz) a[0] 7 s;generalize a[0]=al at*;generalize aB:fu (aQ k.sz) al 7 s=o at*;have aW:=vF (aQ k.sz) b (o.vl 19 7 0);have aw:=sA (aQ k.sz) b (o.vl 19 7 0);have ar:=iD (aQ k.sz) b (o.vl 19 7 0);rw[iH]at aw;rw[a7]at ar;have aR:=qU (mW o 19 7 0);generalize aA:dI (aQ k.sz) b (o.vl 19 7 0)=y at*;have R:=G (show y.big+1<=900000000 by rw[aL.out,bo,a7]at I;exact I);have aN:=G (show o.big+1<=900000000 by have:=R.out;omega);have aH:=G (show o.frame≠0/\o.slots.length+cK b<=1000 from⟨by rw[ao.1];exact au,by omega⟩);have bh:=G (show o.code.length<y.code.length by omega);have aZ:=aU (show y.big<=900000000 by have:=R.out;omega);have bq:IntKind.i64.wrap ((s.code.length:Int)-y.code.length)=(s.code.length:Int)-y.code.length:=Qc
 have bp:IntKind.i64.wrap ((s.code.length:Int)-y.code.length-1)=(s.code.length:Int)-y.code.length-1:=Qc
 obtain⟨N,ad⟩: ∃N,a.length=N:=⟨_,rfl⟩
 rw[ad]at F;rw[ad];have br:(0:Int)<(N:Int):=J
 have u:=G (CQ.new m aE 147 #[.int i64 5,.string (Z nm),.slice (some ⟨aO,aP,none⟩) N c1,.slice B b.length c2,L]);have bc:=G H;have be:=G aC;have bd:=G aF;have bg:=G (show 7+p4 al<=1000000000 by omega);have bb:=G ax;have aK:=G aB;have aJ:=G aA;clear m aE aG aF ax aX aa ap au I aW aw ar aR ad H aC aV aT aq aD az ao aB aA aS aZ;go_enter func129,ntmps129
 go_upto_region 1 with fail
 generalize World.alloc w _=bw at*;obtain⟨bF,bv,a4⟩:=CH u.out.m;have af:=u.out.x.1.cell;obtain⟨e0,ba,a9,a8,a6,a5⟩:=bc.out.kp (u.out.kp ai.out) a2 a1
 go_upto_region 2 with fail
 clear a4
 go_upto_region 3 with(go_at_call 130;refine(aj.out _ _ s 7 _ _ _ u.out.m u.out.e (be.out.keep (u.out.kp ai.out) (Q:=λb=>b<k.base) (λ_ ae _=>ae)) bi.out Qd bg.out rfl (by rw[aK.out];exact aM aN.out)).mono ?_;rw[aK.out];rintro z bn ⟨rfl,bD,an,d⟩;have ah:=G (u.out.nx an d);clear an d aj u af e0 ba a9 a8 a6 a5)
 go_upto_region 4 with(go_at_call 69;refine(jn ah.out.m 19 _ _ _ rfl (aU (ay (aM aN.out) Qd))).mono ?_;rintro z bm ⟨rfl,bC,m,d⟩;have A:=G (ah.out.nx m d);clear m d ah)
 have af:=A.out.x.1.cell
 go_upto_region 5 with(go_at_call 72;refine(aI.out _ _ _ _ _ A.out.m A.out.e (bd.out.keep (A.out.kp ai.out) (Q:=λb=>b<k.base) (λ_ ae _=>ae)) bb.out aH.out.1 aH.out.2 (by rw[aJ.out];exact aM R.out)).mono ?_;rw[aJ.out];rintro z bl ⟨rfl,bB,m,d⟩;have X:=G (A.out.nx m d);clear m d aI A af)
 obtain⟨bE,bu,a3⟩:=CH X.out.m
 go_upto_region 6 with(go_at_call 69;refine(jn X.out.m 18 _ _ _ rfl (aU (ay (aM R.out) Qd))).mono ?_;rintro z bk ⟨rfl,bA,m,d⟩;have ag:=G (X.out.nx m d);clear m d X a3)
 go_wp2_with (go_at_call 178;refine(sy ag.out.m _ (by rw[iH];have:=bh.out;omega) (by rw[a7];have:=R.out;omega)).mono ?_;rintro z bj ⟨rfl,bz,m,d⟩;have bf:=G (ag.out.nx m d);clear m d ag);exact bodyPost_end (results_none rfl _ _ _) rfl ⟨rfl,by rw[aL.out];exact bf.out.cp⟩
theorem yw: ∀{xs:List St} (i:Nat) (a:i<xs.length),p7 xs=true->rJ xs[i]=true
 |x::r,0,a,hc=>by rw[p7,am]at hc;exact hc.1
 |x::r,i+1,a,hc=>by rw[p7,am]at hc;exact yw i (by simpa using a) hc.2
theorem zV {sz:Nm->Int} {xs:List St} {j:Nat} {s:CS} (a:j<xs.length):dI sz (xs.drop j) s=dI sz (xs.drop (j+1)) (nH sz xs[j] s):=by rw[ap a,dI]
theorem CA {xs:List St} {j:Nat} (a:j<xs.length):cK (xs.drop j)=mO xs[j]+cK (xs.drop (j+1)):=by rw[ap a,cK]
theorem pq (k:CC) (ad:List (Nm×Int)) (xs:List St) (bI: ∀aH∈xs,yH k ad aH.body/\yH k ad aH.els):yH k ad xs:=by
 intro O a2 s cZ c m bJ ba bA bv bt a4;have bk:=G m;have ck:=G ba;have cq:=G bA;have bU:=G bI;obtain⟨N,aO⟩: ∃N,xs.length=N:=⟨_,rfl⟩
 have bO:=G aO;have cN:(N:Int)<=9223372036854775807:=by
  obtain⟨cY,c',q,b6⟩:=ba.form;rcases b6 with rfl|⟨h1,aj,_⟩
  ·simp at aO;omega
  ·simp only[maxLen]at aj;omega
 obtain⟨aB,aN⟩: ∃aB,dI (aQ k.sz) xs s=aB:=⟨_,rfl⟩
 have bV:=G (show dI (aQ k.sz) (xs.drop 0) s=aB from aN);have bR:=G (show s.frame≠0/\s.slots.length+cK (xs.drop 0)<=1000 from⟨bv,bt⟩);rw[aN]at a4;rw[aN,aO];have ct:=G a4;have bq:=G m;have bK:=G (kO O a2);have bY:=G bJ;clear m bJ ba bA bI a4 bv bt aN aO;go_enter func72,ntmps72
 go_upto_region 1 with fail
 go_loopw [8] (λa3 wr=> ∃(j:Nat) (bd:Nat->Prop) (o:CS),a3=.int i64 (j:Int)/\j<=N/\Hid (CX k ad bd wr o)/\Hid (eo O a2 bd wr)/\Hid (kK k wr)/\Hid (dI (aQ k.sz) (xs.drop j) o=aB)/\Hid (o.frame≠0/\o.slots.length+cK (xs.drop j)<=1000)) (λa3 _=>N-(intOf a3).toNat)
 case atStart=>exact⟨0,_,_,rfl,aD _,bq,bK,bY,bV,bR⟩
 case round=>
  obtain⟨j,bd,o,rfl,cJ,aI,aR,bZ,bn,bQ⟩:=hrel;clear bq bK bY bV bR;by_cases hlt:j<N
  ·have b8:(j:Int)<(N:Int):=J
   have ai:j<xs.length:=by rw[bO.out];exact hlt
   obtain⟨b,cA,E,c1,B,c2,L,al,rfl,cb,cc,bD,aq,bG,bF⟩:=ck.out.sc j ai;have ap:=aR.out.keepP bk.out;obtain⟨e0,aA,az,aw,av⟩:=bD.kp ap cc cb;have ch:=G aq;have aC:=G (aq.keep ap (Q:=λb=>b<k.base) (λ_ y _=>y));have aT:=G (bG.keep ap (Q:=λb=>b<k.base) (λ_ y _=>y));have be:=G (bF.keep ap (Q:=λb=>b<k.base) (λ_ y _=>y));have aW:=G (yw j ai cq.out);have bT:=G (bU.out _ (ax ai)).1;have cn:=G (bU.out _ (ax ai)).2;have ah:=G ((zV ai).symm.trans bn.out);have aV:=bQ.out;rw[CA ai]at aV;have bu:=iD (aQ k.sz) (xs.drop (j+1)) (nH (aQ k.sz) xs[j] o);have bz:=Iu (aQ k.sz) xs[j] o;rw[ah.out]at bu;have aG:=G (show(nH (aQ k.sz) xs[j] o).big<=900000000 by have:=ct.out;omega);have an:=G (show(nH (aQ k.sz) xs[j] o).frame≠0/\(nH (aQ k.sz) xs[j] o).slots.length+cK (xs.drop (j+1))<=1000 from⟨by rw[bz.1];exact aV.1,by omega⟩);have ar:=G (show o.frame≠0/\o.slots.length+mO xs[j]<=1000 from⟨aV.1,by omega⟩);generalize wr=af at*;generalize xs[j]=aH at*;have cX:=G ap;clear ap bD aq bG bF ai bu bz aV bn bQ;obtain⟨u,nm,d,H,I⟩:=aH;simp only[St.k,St.nm,St.ex,St.body,St.els]at*
   go_upto_region 3 with fail
   have z:=G (CQ.box aI.out aR.out bZ.out 147 #[.int i64 u,.string (Z nm),.slice E d.length c1,.slice B H.length c2,.slice L I.length al]);replace aC:=G (aC.out.keep (.of_ext (aa af (.cells #[.int i64 u,.string (Z nm),.slice E d.length c1,.slice B H.length c2,.slice L I.length al] 147))) (Q:=λb=>b<k.base) (λ_ y _=>y));replace aT:=G (aT.out.keep (.of_ext (aa af (.cells #[.int i64 u,.string (Z nm),.slice E d.length c1,.slice B H.length c2,.slice L I.length al] 147))) (Q:=λb=>b<k.base) (λ_ y _=>y));replace be:=G (be.out.keep (.of_ext (aa af (.cells #[.int i64 u,.string (Z nm),.slice E d.length c1,.slice B H.length c2,.slice L I.length al] 147))) (Q:=λb=>b<k.base) (λ_ y _=>y));have cm:=G (show dM (λb=>b<k.base) af (af.alloc (.cells #[.int i64 u,.string (Z nm),.slice E d.length c1,.slice B H.length c2,.slice L I.length al] 147))from .of_ext (aa af _));generalize World.alloc af _=cQ at*;have F:=z.out.x.1.cell;clear aI aR bZ e0 aA az aw av cm;have aJ:nm.length<=maxLen:=by
    have:=aW.out;rw[rJ,am,am,am]at this;exact ay (of_decide_eq_true this.1.1.1).1 Qd
   by_cases h4:u=4
   ·subst h4;go_wp2_with (go_at_call 128;refine(Fa k ad nm d H I bT.out cn.out _ _ o E c1 B c2 L al z.out.m z.out.e aC.out aT.out be.out aW.out ar.out.1 ar.out.2 aG.out).mono ?_;rintro e a1 ⟨rfl,bc,m,a⟩;have X:=G (z.out.nx m a);clear m a z F);go_roundw
    case rel=>exact⟨j+1,_,_,by go_num,by omega,G X.out.m,G X.out.T,G X.out.e,ah,an⟩
    case measure=>simp[intOf];omega
   have cD:(u==4)=false:=Qn.2 h4;by_cases h5:u=5
   ·subst h5;go_wp2_with (go_at_call 129;refine(E0 k ad nm d H I bT.out _ _ o E c1 B c2 _ z.out.m z.out.e aC.out aT.out aW.out ar.out.1 ar.out.2 aG.out).mono ?_;rintro e a1 ⟨rfl,bc,m,a⟩;have X:=G (z.out.nx m a);clear m a z F);go_roundw
    case rel=>exact⟨j+1,_,_,by go_num,by omega,G X.out.m,G X.out.T,G X.out.e,ah,an⟩
    case measure=>simp[intOf];omega
   have cC:(u==5)=false:=Qn.2 h5
   have A:=G (show nH (aQ k.sz) (.mk u nm d H I) o=if u=1 then((gO (aQ k.sz) d o).decl nm).ld 15 7 nm else if u=2 then(gO (aQ k.sz) d o).ld 15 7 nm
     else if u=3 then((((nI (aQ k.sz) d 7 ((gO (aQ k.sz) d o).op 15 7 15 28)).op 3 8 7 0).op 14 7 15 28).elem (aQ k.sz) 7 nm).op 17 8 0 0 else if u=6 then((gO (aQ k.sz) d o).op 3 1 7 0).back else gO (aQ k.sz) d o by rw[nH,if_neg h4,if_neg h5])
   have au:=aW.out;rw[rJ,am,am,am]at au;have cI:=(of_decide_eq_true au.1.1.1).2;have bW:=G au.1.2
   have cu:=G (show u=3->2<=d.length from λe=>by
    have:=au.1.1.2;rw[if_neg J,if_pos e]at this
    exact of_decide_eq_true this)
   have ao:=G (show(gO (aQ k.sz) d o).big<=900000000 by
    have:=aG.out;rw[A.out]at this;split at this
    ·have y:=(jU ((gO (aQ k.sz) d o).decl nm) 15 7 nm).1;rw[cf]at y;omega
    split at this
    ·have y:=(jU (gO (aQ k.sz) d o) 15 7 nm).1;omega
    split at this
    ·have y:=kZ (aQ k.sz) d 7 ((gO (aQ k.sz) d o).op 15 7 15 28);have aj:=(gW (aQ k.sz) (((nI (aQ k.sz) d 7 ((gO (aQ k.sz) d o).op 15 7 15 28)).op 3 8 7 0).op 14 7 15 28) 7 nm).1;simp only[bh]at y aj this;omega
    split at this
    ·rw[dn,bh]at this;omega
    ·exact this)
   have br:=qU (H' (aQ k.sz) d o);have bP:=G (show(gO (aQ k.sz) d o).frame≠0/\(gO (aQ k.sz) d o).slots.length<=1000 from⟨by rw[br.1];exact ar.out.1,by have:=ar.out.2;omega⟩);have cW:=G z.out;clear au br
   go_upto_if 27 with fail
   go_cut []from 9 to 80 (λb4=> ∃bM,Hid (CQ k ad O a2 af.heap.size 147 #[.int i64 u,.string (Z nm),.slice E d.length c1,.slice B H.length c2,.slice L I.length al] bM (gO (aQ k.sz) d o) b4))
   case first=>
    cases d with
    |nil=>
     have cP:((0:Nat):Int)=0:=rfl;go_wp2_with (go_at_call 69;refine(jn z.out.m 1 _ _ _ rfl (aU (by have:=ao.out;rw[gO,a7]at this;omega))).mono ?_;rintro e a1 ⟨rfl,bc,m,a⟩;have X:=G (z.out.nx m a);clear m a z F)
     go_meet
     case rel=>exact⟨_,X⟩
    |cons ae d=>
     have ca:((ae::d).length:Int)≠0:=by simp only[ag];omega
     have cM:(((ae::d).length:Int)==0)=false:=Qn.2 ca;have cL:(0:Int)<((ae::d).length:Int):=by simp only[ag];omega
     have aL:0<(ae::d).length:=Qe
     obtain⟨b1,b5,cv,cd,rfl,bB,bH,bC,a6⟩:=aC.out.ec 0 aL;simp only[aY,bx,aF]at bC a6;have aK:=i6 0 aL;have bX:=G (lh 0 aL bW.out);simp only[aF]at aK bX;have bm:=G (oM k ad ae);unfold CE at bm;have bj:=G (show 7+p4 ae<=1000000000 by omega);obtain⟨e0,aA,az,aw,av,a8⟩:=bC;have cj:=G a6;have cs:=G (show(fu (aQ k.sz) ae 7 o).big<=900000000 from ao.out);clear a6 aK;generalize (ae::d).length=cV at*;go_wp2_with (go_at_call 130;refine(bm.out _ _ _ 7 _ _ _ z.out.m z.out.e cj.out bX.out Qd bj.out rfl cs.out).mono ?_;rintro e a1 ⟨rfl,bc,m,a⟩;have X:=G (z.out.nx m a);clear m a z bm F e0 aA az aw av a8)
     go_meet
     case rel=>exact⟨_,X⟩
   case rest=>
   obtain⟨bM,R⟩:=hcut;have cl:=G (show gO (aQ k.sz) d o=gO (aQ k.sz) d o from rfl);generalize gO (aQ k.sz) d o=aS at*;clear F cl;have F:=R.out.x.1.cell;by_cases h1:u=1
   ·subst h1;rw[if_pos rfl]at A
    go_upto_region 14 with(go_at_call 71;refine(F5 R.out.m nm aJ bP.out.1 (ay bP.out.2 Qd)).mono ?_;rintro e aZ ⟨rfl,bb,m,a⟩;have w:=G (R.out.nx m a);clear m a R F)
    have F:=w.out.x.1.cell;go_wp2_with (go_at_call 131;refine(CN w.out.m _ nm aJ (by rw[cf];have:=ao.out;omega)).mono ?_;rintro e bp ⟨rfl,bL,m,a⟩;have V:=G (w.out.nx m a);clear m a w F);go_roundw
    case rel=>exact⟨j+1,_,_,by go_num,by omega,G (A.out▸V.out.m),G V.out.T,G V.out.e,ah,an⟩
    case measure=>simp[intOf];omega
   have cH:(u==1)=false:=Qn.2 h1;rw[if_neg h1]at A;by_cases aj:u=2
   ·subst aj;rw[if_pos rfl]at A;go_wp2_with (go_at_call 131;refine(CN R.out.m _ nm aJ (ay ao.out Qd)).mono ?_;rintro e aZ ⟨rfl,bb,m,a⟩;have w:=G (R.out.nx m a);clear m a R F);go_roundw
    case rel=>exact⟨j+1,_,_,by go_num,by omega,G (A.out▸w.out.m),G w.out.T,G w.out.e,ah,an⟩
    case measure=>simp[intOf];omega
   have cG:(u==2)=false:=Qn.2 aj;rw[if_neg aj]at A;by_cases h3:u=3
   ·subst h3;rw[if_pos rfl]at A;have cO:=cu.out rfl;have aP:1<d.length:=J
    have aL:(1:Int)<(d.length:Int):=J
    obtain⟨b1,b5,cv,cd,rfl,bB,bH,a5,aq⟩:=ch.out.ec 1 aP;simp only[cE]at a5;have aK:=i6 1 aP;have cr:=G (lh 1 aP bW.out);have bl:=G (oM k ad d[1]);have co:=G (CZ (sz:=aQ k.sz) aP 7 (aS.op 15 7 15 28));rw[co.out]at A;unfold CE at bl;have b7:=pd (aQ k.sz) d[1] 7 (aS.op 15 7 15 28);generalize d[1]=bo at*;have bj:=G (show 7+p4 bo<=1000000000 by omega);generalize bE:fu (aQ k.sz) bo 7 (aS.op 15 7 15 28)=a9 at*;have bN:=G bE;have bw:=gW (aQ k.sz) ((a9.op 3 8 7 0).op 14 7 15 28) 7 nm
    have aX:=G (show a9.big+12<=900000000 by
     have:=aG.out;rw[A.out,bh]at this;simp only[bh]at bw
     omega)
    have cp:=G (show(((a9.op 3 8 7 0).op 14 7 15 28).elem (aQ k.sz) 7 nm).big<=900000000 by have:=aG.out;rw[A.out,bh]at this;omega);have ce:=G a5;have ci:=G aq;clear a5 aq aK b7 bw bE
    go_upto_region 19 with(go_at_call 70;refine(gB R.out.m 15 _ _ _ _ rfl (aU (ay ao.out Qd))).mono ?_;rintro e aZ ⟨rfl,bb,m,a⟩;have w:=G (R.out.nx m a);clear m a R F)
    have F:=w.out.x.1.cell;obtain⟨e0,aA,az,aw,av,a8⟩:=ce.out.kp (w.out.T.keepP bk.out) bH bB
    go_upto_region 20 with(go_at_call 130;refine(bl.out _ _ (aS.op 15 7 15 28) 7 _ _ _ w.out.m w.out.e (ci.out.keep (w.out.T.keepP bk.out) (Q:=λb=>b<k.base) (λ_ y _=>y)) cr.out Qd bj.out rfl (by rw[bN.out];exact aM aX.out)).mono ?_;rw[bN.out];rintro e bp ⟨rfl,bL,m,a⟩;have V:=G (w.out.nx m a);clear m a bl w F e0 aA az aw av a8)
    go_upto_region 21 with(go_at_call 132;refine(oL V.out.m _ _ (ay (aM aX.out) Qd)).mono ?_;rintro e cz ⟨rfl,cU,m,a⟩;have bi:=G (V.out.nx m a);clear m a V)
    go_upto_region 22 with(go_at_call 70;refine(gB bi.out.m 14 _ _ _ _ rfl (aU (by rw[bh];have:=aX.out;omega))).mono ?_;rintro e cy ⟨rfl,cT,m,a⟩;have aE:=G (bi.out.nx m a);clear m a bi)
    have F:=aE.out.x.1.cell
    go_upto_region 23 with(go_at_call 133;refine(F4 aE.out.m _ nm aJ (aE.out.e.2.2 nm) (by simp only[bh];have:=aX.out;omega)).mono ?_;rintro e cx ⟨rfl,cS,m,a⟩;have bg:=G (aE.out.nx m a);clear m a aE F)
    go_wp2_with (go_at_call 70;refine(gB bg.out.m 17 _ _ _ _ rfl (aU (ay cp.out Qd))).mono ?_;rintro e cw ⟨rfl,cR,m,a⟩;have bf:=G (bg.out.nx m a);clear m a bg);go_roundw
    case rel=>exact⟨j+1,_,_,by go_num,by omega,G (A.out▸bf.out.m),G bf.out.T,G bf.out.e,ah,an⟩
    case measure=>simp[intOf];omega
   have cF:(u==3)=false:=Qn.2 h3;rw[if_neg h3]at A;by_cases h6:u=6
   ·subst h6;rw[if_pos rfl]at A
    go_wp2_with (first
     |(go_at_call 132;refine(oL R.out.m _ _ (ay ao.out Qd)).mono ?_;rintro e aZ ⟨rfl,bb,m,a⟩;have w:=G (R.out.nx m a);clear m a R F)
     |(go_at_call 73;refine(F6 w.out.m (by rw[bh];have:=ao.out;omega)).mono ?_;rintro e bp ⟨rfl,bL,m,a⟩;have V:=G (w.out.nx m a);clear m a w))
    go_roundw
    case rel=>exact⟨j+1,_,_,by go_num,by omega,G (A.out▸V.out.m),G V.out.T,G V.out.e,ah,an⟩
    case measure=>simp[intOf];omega
   have cB:(u==6)=false:=Qn.2 h6;rw[if_neg h6]at A
   ·go_wp2_with fail;go_roundw
    case rel=>exact⟨j+1,_,_,by go_num,by omega,G (A.out▸R.out.m),G R.out.T,G R.out.e,ah,an⟩
    case measure=>simp[intOf];omega
  ·have b9:N=j:=J
   obtain rfl:=b9;have b8: ¬(N:Int)<(N:Int):=J
   have cg:=G (show o=aB by have:=bn.out;rw[bS (show xs.length<=N from fQ bO.out),dI]at this;exact this);rw[cg.out]at aI;go_wp2_with fail;exact bodyPost_end (results_none rfl _ _ _) rfl ⟨rfl,_,aI.out,aR.out⟩
mutual
theorem CJ (k:CC) (a:List (Nm×Int)): ∀d:St,yH k a d.body/\yH k a d.els
 | .mk kd nm ex b e=>⟨pq k a b (mK k a b),pq k a e (mK k a e)⟩
theorem mK (k:CC) (a:List (Nm×Int)): ∀l:List St,∀y∈l,yH k a y.body/\yH k a y.els
 | [],y,h=>absurd h Qe
 |x::l,y,h=>by
  rcases List.mem_cons.1 h with e|e
  ·rw[e];exact CJ k a x
  ·exact mK k a l y e
end
theorem CM (k:CC) (a:List (Nm×Int)) (l:List St):yH k a l:=pq k a l (mK k a l)
end
end Go.Proofs.YtoedmpgicdekmaaGreatDoor
