/- Parts of the proof. -/
import Derived.Test.YtoedmpgicdekmaaGreatDoorCo17
import Derived.Test.YtoedmpgicdekmaaGreatDoorCo18
set_option maxRecDepth 100000
set_option maxHeartbeats 8000000
set_option linter.all false
namespace Go.Proofs.YtoedmpgicdekmaaGreatDoor
open IntKind(i64)
open Go.Proofs.Tryz
section
open Go.RowKit
structure CB.Ok (X:CB):Prop where
 gi:X.g≠X.bi
 ga:X.g≠X.ba
 gf:X.g≠X.bf
 ia:X.bi≠X.ba
 jf:X.bi≠X.bf
 af:X.ba≠X.bf
abbrev CB.S (X:CB) (k:Nat):Prop:=k=X.bi\/k=X.ba\/k=X.bf
section
variable {X:CB} {gl:Gl} {lo lo':Ls} {w W:World}
theorem Dm {b:Nat} {L:KF} (h:BT w) (a:cH w b L):b≠1:=by
 rintro rfl;obtain⟨t,fr,d⟩:=h;obtain⟨es,c,a,_⟩:=a;rw[d]at a;cases a
theorem BT.grown {b:Nat} (o:BT w) (d:w.grownBy W (some b)) (h:b≠1):BT W:=by
 obtain⟨t,fr,a⟩:=o;exact⟨t,fr,(d.block _ (Array.getElem?_eq_some_iff.1 a).1 (λe=>h (by injection e with e;exact e.symm))).trans a⟩
theorem DB {a b:Nat} (d:a≠b):some a≠some b:=λe=>d (by injection e)
theorem CK.addI {v:Vr} (o:X.Ok) (d:CK X gl (.map none) gK w) (u: ¬0<v.sz) (y:cH W X.bi ((EG gl).upd v.nm (.bool true))) (h:w.grownBy W (some X.bi)):CK X (gl.addV v) (.map none) gK W:=by
 have e:gl.addV v={gl with int:=λx=>x==v.nm||gl.int x}:=by unfold Gl.addV;rw[if_neg u]
 rw[e];refine⟨d.blk.grown h (DB o.gi),y.congr λs=> ?_,d.a.grown h (DB (eS o.ia)),d.f.grown h (DB (eS o.jf)),.inl ⟨rfl,rfl⟩,d.t.grown h (Dm d.t d.i)⟩;unfold KF.upd EG;by_cases e:s=v.nm
 ·subst e;simp
 ·simp[e]
theorem CK.addA {v:Vr} (o:X.Ok) (d:CK X gl (.map none) gK w) (u:0<v.sz) (y:cH W X.ba ((EH gl).upd v.nm (.int i64 v.sz))) (h:w.grownBy W (some X.ba)):CK X (gl.addV v) (.map none) gK W:=by
 have e:gl.addV v={gl with arr:=λx=>if x=v.nm then some v.sz else gl.arr x}:=by unfold Gl.addV;rw[if_pos u]
 rw[e];refine⟨d.blk.grown h (DB o.ga),d.i.grown h (DB o.ia),y.congr λs=> ?_,d.f.grown h (DB (eS o.af)),.inl ⟨rfl,rfl⟩,d.t.grown h (Dm d.t d.a)⟩;unfold KF.upd EH;by_cases e:s=v.nm
 ·subst e;simp
 ·simp[e]
theorem CK.addF {f:Fc} (o:X.Ok) (d:CK X gl (.map none) gK w) (u:cH W X.bf ((I0 gl).upd f.nm (.int i64 (f.ps.length:Int)))) (h:w.grownBy W (some X.bf)):CK X (gl.addF f) (.map none) gK W:=by
 refine⟨d.blk.grown h (DB o.gf),d.i.grown h (DB o.jf),d.a.grown h (DB o.af),u.congr λs=> ?_,.inl ⟨rfl,rfl⟩,d.t.grown h (Dm d.t d.f)⟩;unfold KF.upd I0 Gl.addF;by_cases e:s=f.nm
 ·subst e;simp
 ·simp[e]
end
theorem Gi (p:Pg):p.vs.length<=mC p:=by
 have:=lW (λ_:Vr=>1) (λv=>v.nm.length+1) p.vs (λv _=>by omega);rw[jA]at this;unfold mC;omega
theorem sS (p:Pg):p.fs.length<=mC p:=by
 have:=lW (λ_:Fc=>1) (λf=>f.wt+1) p.fs (λv _=>by omega);rw[jA]at this;unfold mC;omega
theorem og {a:World} {P:Nat->Prop} {w:Option Addr} {n c:Nat} {ls:List Fc} (h:nP a P (.slice w n c) ls) (i:Nat) (hi:i<ls.length):
  ∃b d o u,w=some ⟨b,d,none⟩/\b<a.heap.size/\P b/\a.cell? ⟨b,d+i*3,none⟩=some (.string (Z ls[i].nm))/\a.cell? ⟨b,d+i*3+1,none⟩=some o/\a.cell? ⟨b,d+i*3+2,none⟩=some u/\rA a P o ls[i].ps/\eq a P u ls[i].body:=by
 obtain⟨I,c',R,h⟩:=h;injection R with V aa X;rcases h with h|⟨_,_,b,d,ha,hP,hb,o,u,hc⟩
 ·subst h;simp at hi
 ·obtain⟨G,F,A,z,y⟩:=hc i hi;exact⟨b,d,o i,u i,by rw[V];exact ha,hb,hP,G,F,A,z,y⟩
theorem D9 {h:World} {P:Nat->Prop} {o:Option Addr} {n c:Nat} {ls:List Vr} (d:nM h P (.slice o n c) ls) (i:Nat) (hi:i<ls.length):
  ∃b a,o=some ⟨b,a,none⟩/\b<h.heap.size/\P b/\h.cell? ⟨b,a+i*2,none⟩=some (.string (Z ls[i].nm))/\h.cell? ⟨b,a+i*2+1,none⟩=some (.int i64 ls[i].sz):=by
 obtain⟨A,c',u,d⟩:=d;injection u with w z y;rcases d with d|⟨_,_,b,a,ha,hP,hb,hc⟩
 ·subst d;simp at hi
 ·exact⟨b,a,by rw[w];exact ha,hb,hP,(hc i hi).1,(hc i hi).2⟩
theorem yR {g:Gl} {l:List Vr} {j:Nat} (a:j<l.length):oW g (l.drop j)=if g.known gK l[j].nm=true then .error (l[j].nm,9)else oW (g.addV l[j]) (l.drop (j+1)):=by
 rw[ap a,oW]
theorem yT {g:Gl} {l:List Fc} {j:Nat} (a:j<l.length):nf g (l.drop j)=if g.known gK l[j].nm=true then .error (l[j].nm,9)else nf (g.addF l[j]) (l.drop (j+1)):=by
 rw[ap a,nf]
def yS (g:Gl):Except Er Gl:=match g.fn dH with
 |none=> .error (dH,8)
 |some n=>if 0<n then .error (dH,16)else .ok g
def J3 (X:CB) (r:Except Er Gl) (w:World) (e:Ending) (w':World):Prop:=Mv X.S w w'/\match r with
 | .ok g=>e=.returned (.tuple #[])/\CK X g (.map none) gK w'
 | .error (nm,n)=>e=bw nm n
theorem yP (p:Pg) (bG:mC p<=6000000) (ar:CB) (bm:ar.Ok) (P:Nat->Prop) (X:World) (a8:nM X P ar.sv p.vs) (bc:nP X P ar.sf p.fs) (bn: ∀b,P b-> ¬ar.S b) (bb:CK ar tE (.map none) gK X):
  Calls prog 63 #[ar.p] X (J3 ar (sT p) X):=by
 obtain⟨g,aN,aP,aH,bv,bx⟩:=ar;have bJ:p.vs.length<=6000000:=by have:=Gi p;omega
 have bK:p.fs.length<=6000000:=by have:=sS p;omega
 have bS:=G (λv (bH:v∈p.vs)=>show v.nm.length<=1073741824 by have:=FJ bH;omega);have bX:=G (λf (bM:f∈p.fs)=>show f.nm.length<=1073741824 by have:=uQ bM;have:=BI (f:=f);omega);obtain⟨af,a9⟩: ∃bQ,sT p=bQ:=⟨_,rfl⟩
 have bT:=G (show CR.then (oW tE (p.vs.drop 0)) (λg=>CR.then (nf g (p.fs.drop 0)) yS)=af from a9);rw[a9];clear a9 bG;obtain⟨aA,ao⟩:=p;simp only at*;obtain⟨y,a5⟩: ∃n,aA.length=n:=⟨_,rfl⟩
 obtain⟨z,a6⟩: ∃n,ao.length=n:=⟨_,rfl⟩
 obtain⟨A,w,bO⟩: ∃A w,bv=.slice A y w:=by obtain⟨A,w,aV,_⟩:=a8;exact⟨A,w,by rw[aV,a5]⟩
 obtain⟨B,ap,bN⟩: ∃B ap,bx=.slice B z ap:=by obtain⟨A,w,aV,_⟩:=bc;exact⟨A,w,by rw[aV,a6]⟩
 subst bO bN;rw[a5]at bJ;rw[a6]at bK;have br:=G a5;have bt:=G a6;simp only[CB.p]at*;have bu: ∀W,Mv (CB.S ⟨g,aN,aP,aH,.slice A y w,.slice B z ap⟩) X W->dM P X W:=λW aV=>aV.keepP (λk bL _=>bn k bL);have aY:=G bu;have bR:=G a8;have bW:=G bc;have bf:=G bm;have bU:=G (gG (CB.S ⟨g,aN,aP,aH,.slice A y w,.slice B z ap⟩) X);have bV:=G bb;have a2:=bb.blk.cell;clear a8 bc bn bb bm bu a5 a6;go_enter func63,ntmps63;go_wp2_with fail;clear a2
 go_loopw [14] (λaC wr=> ∃(j:Nat) (o:Gl),aC=.int i64 (j:Int)/\j<=y/\Hid (CR.then (oW o (aA.drop j)) (λg=>CR.then (nf g (ao.drop 0)) yS)=af)/\Hid (Mv (CB.S ⟨g,aN,aP,aH,.slice A y w,.slice B z ap⟩) X wr)/\Hid (CK ⟨g,aN,aP,aH,.slice A y w,.slice B z ap⟩ o (.map none) gK wr)) (λaC _=>y-(intOf aC).toNat)
 case atStart=>exact⟨0,tE,rfl,aD _,bT,bU,bV⟩
 case round=>
  obtain⟨j,o,rfl,bl,ag,u,ai⟩:=hrel;by_cases hlt:j<y
  ·have a1:(j:Int)<y:=J
   have aE:j<aA.length:=by have:=br.out;omega
   obtain⟨b,bz,rfl,aL,aM,ad,aG⟩:=D9 bR.out j aE;have aF:=yR (g:=o) aE;have I:=bS.out _ (ax aE);obtain⟨az,aT⟩: ∃az,aA[j]=az:=⟨_,rfl⟩
   rw[aT]at ad aG aF I;clear aT;obtain⟨nm,sz⟩:=az;simp only at ad aG I;have e0:=((aY.out _ u.out).cell _ aM aL).trans ad;have bP:=((aY.out _ u.out).cell _ aM aL).trans aG;have aU:=aa wr (.cells #[.string (Z nm),.int i64 sz] 76);have aj:=G (ai.out.ext aU);have aS:=G (aq wr 76 #[.string (Z nm),.int i64 sz]);have aQ:=G (u.out.alloc (.cells #[.string (Z nm),.int i64 sz] 76));clear ad aG aU
   cases hkn:o.known gK nm with
   |true=>
    have al:=G (show af=.error (nm,9) by rw[<-ag.out,aF];simp only[hkn,if_true];rfl);go_wp2_with (first|(go_at_call 64;refine(eK _ o _ gK _ aj.out nm I).mono ?_;rw[hkn];rintro e am ⟨rfl,d⟩;have ah:=G (aQ.out.trans (.of_ext d));have H:=(aS.out.ext d).cell;clear d)|(go_at_call 65;refine(eJ nm 9 _).mono ?_;unfold bw;rintro e am ⟨rfl,d⟩;have aJ:=G (ah.out.trans (.of_ext d));clear d));exact⟨rfl,by rw[al.out];exact⟨aJ.out,rfl⟩⟩
   |false=>
    have a3:oW o (aA.drop j)=oW (o.addV ⟨nm,sz⟩) (aA.drop (j+1)):=by rw[aF];simp only[hkn,aR,if_false]
    by_cases hz:0<sz
    ·have bF:decide (0<sz)=true:=decide_eq_true hz;go_wp2_with (go_at_call 64;refine(eK _ o _ gK _ aj.out nm I).mono ?_;rw[hkn];rintro e am ⟨rfl,d⟩;have ah:=G (aQ.out.trans (.of_ext d));have ay:=G (aS.out.ext d);have H:=ay.out.cell;have au:=G (aj.out.ext d);clear d);refine aB 8 1 [] mixed Qb trivial ?_;repeat (refine sx ?_ (λbk V=> ?_) ?_;rotate_left;(focus have H:=(ay.out.ext V.un).cell;have bp:=(au.out.ext V.un).blk.cell;clear V;go_simp<;>with_reducible rfl);simp only[bE,bD,bC,bB,bA])
     intro bj F _;simp only[ae,aw];have av:=G (au.out.ext F.un);have aX:=G (ah.out.trans (.of_ext F.un));clear F H;go_wp2_with (at_mapUpdate;refine fi xn rfl _ _ _ rfl av.out.a rfl Qj rfl _ rfl ?_;intro bi an R;have aZ:=G (av.out.addA (v:=⟨nm,sz⟩) bf.out hz an R);have aW:=G (aX.out.trans (.of_grown R (λk e=>by injection e with e;exact .inr (.inl e.symm))));clear an R);go_roundw
     case rel=>exact⟨j+1,o.addV ⟨nm,sz⟩,by go_num,by omega,G (by rw[<-a3];exact ag.out),aW,aZ⟩
     case measure=>simp[intOf];omega
    ·have bF:decide (0<sz)=false:=decide_eq_false hz;go_wp2_with (go_at_call 64;refine(eK _ o _ gK _ aj.out nm I).mono ?_;rw[hkn];rintro e am ⟨rfl,d⟩;have ah:=G (aQ.out.trans (.of_ext d));have ay:=G (aS.out.ext d);have H:=ay.out.cell;have au:=G (aj.out.ext d);clear d);refine aB 6 1 [] mixed Qb trivial ?_;repeat (refine sx ?_ (λbk V=> ?_) ?_;rotate_left;(focus have H:=(ay.out.ext V.un).cell;have bp:=(au.out.ext V.un).blk.cell;clear V;go_simp<;>with_reducible rfl);simp only[bE,bD,bC,bB,bA])
     intro bj F _;simp only[ae,aw];have av:=G (au.out.ext F.un);have aX:=G (ah.out.trans (.of_ext F.un));clear F H;go_wp2_with (at_mapUpdate;refine fi FR rfl _ _ _ rfl av.out.i rfl Qj rfl _ rfl ?_;intro bi an R;have aZ:=G (av.out.addI (v:=⟨nm,sz⟩) bf.out (show ¬0<sz by omega) an R);have aW:=G (aX.out.trans (.of_grown R (λk e=>by injection e with e;exact .inl e.symm)));clear an R);go_roundw
     case rel=>exact⟨j+1,o.addV ⟨nm,sz⟩,by go_num,by omega,G (by rw[<-a3];exact ag.out),aW,aZ⟩
     case measure=>simp[intOf];omega
  ·have a1: ¬(j:Int)<y:=J
   have bq:=G (show CR.then (nf o (ao.drop 0)) yS=af by
    have:=ag.out;rw[aK (l:=aA) (by have:=br.out;omega),oW,fA]at this
    exact this)
   have a2:=ai.out.blk.cell;go_wp2_with fail;clear a2
   go_loopw [49] (λaC wr=> ∃(j:Nat) (o:Gl),aC=.int i64 (j:Int)/\j<=z/\Hid (CR.then (nf o (ao.drop j)) yS=af)/\Hid (Mv (CB.S ⟨g,aN,aP,aH,.slice A y w,.slice B z ap⟩) X wr)/\Hid (CK ⟨g,aN,aP,aH,.slice A y w,.slice B z ap⟩ o (.map none) gK wr)) (λaC _=>z-(intOf aC).toNat)
   case atStart=>exact⟨0,o,rfl,aD _,bq,u,ai⟩
   case round=>
    clear ag u ai bq hlt a1 bl;obtain⟨j,o,rfl,bl,ag,u,ai⟩:=hrel;by_cases hlt:j<z
    ·have a1:(j:Int)<z:=J
     have aE:j<ao.length:=by have:=bt.out;omega
     obtain⟨b,bz,bY,b5,rfl,aL,aM,ad,aG,bo,ba,a4⟩:=og bW.out j aE;have aF:=yT (g:=o) aE;have I:=bX.out _ (ax aE);obtain⟨az,aT⟩: ∃az,ao[j]=az:=⟨_,rfl⟩
     rw[aT]at ad ba a4 aF I;clear aT;obtain⟨nm,ps,aO⟩:=az;simp only at ad ba a4 I;obtain⟨bg,bd,rfl,_⟩:=ba;obtain⟨bh,be,rfl,_⟩:=a4.form;have e0:=((aY.out _ u.out).cell _ aM aL).trans ad;have bP:=((aY.out _ u.out).cell _ aM aL).trans aG;have b4:=((aY.out _ u.out).cell _ aM aL).trans bo;have aU:=aa wr (.cells #[.string (Z nm),.slice bg ps.length bd,.slice bh aO.length be] 81);have aj:=G (ai.out.ext aU);have aS:=G (aq wr 81 #[.string (Z nm),.slice bg ps.length bd,.slice bh aO.length be]);have aQ:=G (u.out.alloc (.cells #[.string (Z nm),.slice bg ps.length bd,.slice bh aO.length be] 81));clear ad aG bo aU a4
     cases hkn:o.known gK nm with
     |true=>
      have al:=G (show af=.error (nm,9) by rw[<-ag.out,aF];simp only[hkn,if_true];rfl);go_wp2_with (first|(go_at_call 64;refine(eK _ o _ gK _ aj.out nm I).mono ?_;rw[hkn];rintro e am ⟨rfl,d⟩;have ah:=G (aQ.out.trans (.of_ext d));have H:=(aS.out.ext d).cell;clear d)|(go_at_call 65;refine(eJ nm 9 _).mono ?_;unfold bw;rintro e am ⟨rfl,d⟩;have aJ:=G (ah.out.trans (.of_ext d));clear d));exact⟨rfl,by rw[al.out];exact⟨aJ.out,rfl⟩⟩
     |false=>
      have a3:nf o (ao.drop j)=nf (o.addF ⟨nm,ps,aO⟩) (ao.drop (j+1)):=by rw[aF];simp only[hkn,aR,if_false]
      go_wp2_with (go_at_call 64;refine(eK _ o _ gK _ aj.out nm I).mono ?_;rw[hkn];rintro e am ⟨rfl,d⟩;have ah:=G (aQ.out.trans (.of_ext d));have ay:=G (aS.out.ext d);have H:=ay.out.cell;have au:=G (aj.out.ext d);clear d);refine aB 9 1 [] mixed Qb trivial ?_;repeat (refine sx ?_ (λbk V=> ?_) ?_;rotate_left;(focus have H:=(ay.out.ext V.un).cell;have bp:=(au.out.ext V.un).blk.cell;clear V;go_simp<;>with_reducible rfl);simp only[bE,bD,bC,bB,bA])
      intro bj F _;simp only[ae,aw];have av:=G (au.out.ext F.un);have aX:=G (ah.out.trans (.of_ext F.un));clear F H;go_wp2_with (at_mapUpdate;refine fi xn rfl _ _ _ rfl av.out.f rfl Qj rfl _ rfl ?_;intro bi an R;have aZ:=G (av.out.addF (f:=⟨nm,ps,aO⟩) bf.out an R);have aW:=G (aX.out.trans (.of_grown R (λk e=>by injection e with e;exact .inr (.inr e.symm))));clear an R);go_roundw
      case rel=>exact⟨j+1,o.addF ⟨nm,ps,aO⟩,by go_num,by omega,G (by rw[<-a3];exact ag.out),aW,aZ⟩
      case measure=>simp[intOf];omega
    ·have a1: ¬(j:Int)<z:=J
     have aI:=G (show yS o=af by
      have:=ag.out;rw[aK (by have:=bt.out;omega),nf,fA]at this
      exact this)
     have a2:=ai.out.blk.cell;have a7:(Instr.lookup 88 (.map (some aH)) (.string ⟨#[109,97,105,110]⟩) true).run prog wr=.ok (.tuple #[.int i64 (((o.fn dH).getD 0:Nat):Int),.bool (o.fn dH).isSome]) wr:=ai.out.lookF (s:=dH) Qd;unfold yS at aI
     cases hfm:o.fn dH with
     |none=>
      rw[hfm]at aI a7;simp only[fE,dY]at a7;have al:=G aI.out.symm;go_wp2_with (go_at_call 65;refine(show Calls prog 65 #[.string ⟨#[109,97,105,110]⟩,.int i64 8] _ _ from eJ dH 8 _).mono ?_;unfold bw;rintro e am ⟨rfl,d⟩;have aJ:=G (u.out.trans (.of_ext d));clear d);exact⟨rfl,by rw[al.out];exact⟨aJ.out,rfl⟩⟩
     |some n=>
      rw[hfm]at aI a7;simp only[bZ,dK]at a7 aI;by_cases hn:0<n
      ·have bI:(0:Int)<n:=J
       have al:=G (show af=.error (dH,16) by rw[<-aI.out,if_pos hn]);go_wp2_with (go_at_call 65;refine(show Calls prog 65 #[.string ⟨#[109,97,105,110]⟩,.int i64 16] _ _ from eJ dH 16 _).mono ?_;unfold bw;rintro e am ⟨rfl,d⟩;have aJ:=G (u.out.trans (.of_ext d));clear d);exact⟨rfl,by rw[al.out];exact⟨aJ.out,rfl⟩⟩
      ·have bI: ¬(0:Int)<n:=J
       have al:=G (show af=.ok o by rw[<-aI.out,if_neg hn]);go_wp2_with fail;exact bodyPost_end (results_none rfl _ _ _) rfl (by rw[al.out];exact⟨u.out,rfl,ai.out⟩)
mutual
theorem EY: ∀s:St,mO s<=s.wt
 | .mk k nm e b l=>by
  have:=mJ b;have:=mJ l;rw[mO,St.wt];split<;>omega
theorem mJ: ∀l:List St,cK l<=eX l
 | []=>by simp[cK]
 |s::r=>by
  have:=EY s;have:=mJ r;rw[cK,eX];omega
end
theorem zR {l:List St} {j:Nat} (a:j<l.length):cK (l.drop j)=mO l[j]+cK (l.drop (j+1)):=by
 rw[ap a,cK]
def IM (xs:List St):Prop:= ∀(P:Nat->Prop) (w:World) (A:Option Addr) (n c:Nat),eq w P (.slice A n c) xs->Calls prog 67 #[.slice A n c] w λe w'=>e=.returned (.int i64 (cK xs:Int))/\au w w'
theorem vG (xs:List St) (bz:eX xs<=1073741824) (a1: ∀s∈xs,IM s.body/\IM s.els):IM xs:=by
 intro P aY bP n c aS;obtain⟨bO,c',bj,bm⟩:=aS.form;injection bj with bi bh bg;subst bi bh bg;have bl:=fx xs;have bn:=mJ xs;have a8:=G aS;have bt:=G a1;obtain⟨N,ay⟩: ∃N,xs.length=N:=⟨_,rfl⟩
 have ba:=G ay;rw[ay]at a8 bl;obtain⟨aE,aR⟩: ∃bo,cK xs=bo:=⟨_,rfl⟩
 have bq:=G (show 0+cK (xs.drop 0)=aE by rw[<-aR];simp);have bp:=G (aI aY);have bH:aE<=1073741824:=J
 rw[ay,aR];clear aS bm a1 ay aR bn;go_enter func67,ntmps67;go_wp2_with fail
 go_loopw [3,8] (λbe aL wr=> ∃(j m:Nat),aL=.int i64 (j:Int)/\be=.int i64 (m:Int)/\j<=N/\Hid (m+cK (xs.drop j)=aE)/\Hid (au aY wr)) (λ_ aL _=>N-(intOf aL).toNat)
 case atStart=>exact⟨0,0,rfl,rfl,aD _,bq,bp⟩
 case round=>
  obtain⟨j,m,rfl,rfl,bG,a9,V⟩:=hrel;by_cases hlt:j<N
  ·have bk:(j:Int)<N:=J
   have aO:j<xs.length:=by have:=ba.out;omega
   obtain⟨b,bu,e,bN,bv,rfl,u,bI,aB,aA,a5,a4,a3,av,ag,af⟩:=a8.out.at_ j aO;have ar:=zR aO;have az:=bt.out _ (ax aO);obtain⟨aH,aZ⟩: ∃aH,xs[j]=aH:=⟨_,rfl⟩
   rw[aZ]at aB aA av ag af ar az;clear aZ;obtain⟨k,nm,aC,al,ai⟩:=aH;simp only[St.k,St.nm,St.ex,St.body,St.els]at aB aA av ag af az;rw[mO]at ar;have ap:=a9.out;rw[ar]at ap;have e0:=(V.out.cell b _ u).trans aB;have bM:=(V.out.cell b _ u).trans aA;have bL:=(V.out.cell b _ u).trans a5;have bK:=(V.out.cell b _ u).trans a4;have bJ:=(V.out.cell b _ u).trans a3;obtain⟨aG,c1,rfl,_⟩:=av.form;obtain⟨an,c2,rfl,_⟩:=ag.form;obtain⟨am,aj,rfl,_⟩:=af.form;have a2:=aa wr (.cells #[.int i64 k,.string (Z nm),.slice aG aC.length c1,.slice an al.length c2,.slice am ai.length aj] 147);have I:=G (aq wr 147 #[.int i64 k,.string (Z nm),.slice aG aC.length c1,.slice an al.length c2,.slice am ai.length aj]);have aF:=G (V.out.trans a2);have a7:=G (ag.keep (.of_ext aF.out) (Q:=P) (λb u _=>u));have a6:=G (af.keep (.of_ext aF.out) (Q:=P) (λb u _=>u));have aX:=G az;obtain⟨o,aQ⟩: ∃aU,cK al=aU:=⟨_,rfl⟩
   obtain⟨d,aP⟩: ∃aU,cK ai=aU:=⟨_,rfl⟩
   rw[aQ,aP]at ap;have bc:=G (λW (aT:au (wr.alloc (.cells #[.int i64 k,.string (Z nm),.slice aG aC.length c1,.slice an al.length c2,.slice am ai.length aj] 147)) W)=>aQ▸aX.out.1 P W an _ c2 (a7.out.keep (.of_ext aT) (Q:=P) (λb u _=>u)));have bb:=G (λW (aT:au (wr.alloc (.cells #[.int i64 k,.string (Z nm),.slice aG aC.length c1,.slice an al.length c2,.slice am ai.length aj] 147)) W)=>aP▸aX.out.2 P W am _ aj (a6.out.keep (.of_ext aT) (Q:=P) (λb u _=>u)));have aW:=G ap;clear aB aA a5 a4 a3 av ag af az a2 a7 a6 aX aQ aP ar ap;have X:m+(if k=1 then 1 else 0)+(o+d)<=1073741824:=by have:=aW.out;omega
   have ad: ∀ao:Nat,ao<=1073741824->IntKind.i64.wrap (ao:Int)=ao:=λao bw=>by simp[IntKind.wrap,IntKind.signed,IntKind.bits];omega
   have bx:IntKind.i64.wrap ((o:Int)+(d:Int))=((o+d:Nat):Int):=by rw[<-Int.natCast_add];exact ad _ J
   by_cases hk:k=1
   ·subst hk;have X:m+1+(o+d)<=1073741824:=by simpa using X
    have bf:IntKind.i64.wrap ((m:Int)+1+((o+d:Nat):Int))=((m+1+(o+d):Nat):Int):=by rw[<-ad (m+1+(o+d)) X];congr 1
    clear ad;go_wp2_with fail;refine dG 9 4 [(3,λv=>v=.int i64 (o:Int),λ_ _=>True),(6,λv=>v=.int i64 (d:Int),λ_ _=>True)] [] [1,4] mixed Qb Qb Qb Qf ⟨λ_ _ _ _ _=>trivial,λ_ _ _ _ _=>trivial,trivial⟩ (λi hi=>by cases hi) ?_;repeat (first|(refine bU Qf ?_;simp only[bE,bD,bC,bB,bA])|(refine sx ?_ (λH a=> ?_) ?_;rotate_left;(focus have ah:=(I.out.ext a.un).cell;clear a;go_simp<;>with_reducible rfl);simp only[bE,bD,bC,bB,bA]))
    refine so (λz a y K w=> ?_) ?_
    ·have F:=bc.out z a.un;clear y a;go_simp;refine F.mono ?_;rintro e aJ ⟨rfl,R⟩;exact w _ _ R rfl trivial
    rintro _ rfl;simp only[bE,bD,bC,bB,bA];repeat (first|(refine bU Qf ?_;simp only[bE,bD,bC,bB,bA])|(refine sx ?_ (λH a=> ?_) ?_;rotate_left;(focus have ah:=(I.out.ext a.un).cell;clear a;go_simp<;>with_reducible rfl);simp only[bE,bD,bC,bB,bA]))
    refine so (λz a y K w=> ?_) ?_
    ·have F:=bb.out z a.un;clear y a;go_simp;refine F.mono ?_;rintro e aJ ⟨rfl,R⟩;exact w _ _ R rfl trivial
    rintro _ rfl;simp only[bE,bD,bC,bB,bA];repeat (first|(refine bU Qf ?_;simp only[bE,bD,bC,bB,bA])|(refine sx ?_ (λH a=> ?_) ?_;rotate_left;(focus have ah:=(I.out.ext a.un).cell;clear a;go_simp<;>with_reducible rfl);simp only[bE,bD,bC,bB,bA]))
    intro bd A y aM;clear y aM;simp only[ae,aw];have aV:=G (aF.out.trans A.un);refine aN Qf Qe (λK w=> ?_);go_simp;refine w _ _ A ?_;clear w A;refine cQ ?_;go_wp2_with fail;go_roundw
    case rel=>exact⟨j+1,m+1+(o+d),by go_num,congrArg (Value.int i64) Qc,by omega,G (by have:=aW.out;simp only[if_true]at this;omega),aV⟩
    case measure=>simp[intOf];omega
   ·have bF:=Qn.2 hk;have X:m+(o+d)<=1073741824:=by simpa[hk]using X
    have bf:IntKind.i64.wrap ((m:Int)+((o+d:Nat):Int))=((m+(o+d):Nat):Int):=by rw[<-ad (m+(o+d)) X];congr 1
    clear ad;go_wp2_with fail;refine dG 9 4 [(3,λv=>v=.int i64 (o:Int),λ_ _=>True),(6,λv=>v=.int i64 (d:Int),λ_ _=>True)] [] [1,4] mixed Qb Qb Qb Qf ⟨λ_ _ _ _ _=>trivial,λ_ _ _ _ _=>trivial,trivial⟩ (λi hi=>by cases hi) ?_;repeat (first|(refine bU Qf ?_;simp only[bE,bD,bC,bB,bA])|(refine sx ?_ (λH a=> ?_) ?_;rotate_left;(focus have ah:=(I.out.ext a.un).cell;clear a;go_simp<;>with_reducible rfl);simp only[bE,bD,bC,bB,bA]))
    refine so (λz a y K w=> ?_) ?_
    ·have F:=bc.out z a.un;clear y a;go_simp;refine F.mono ?_;rintro e aJ ⟨rfl,R⟩;exact w _ _ R rfl trivial
    rintro _ rfl;simp only[bE,bD,bC,bB,bA];repeat (first|(refine bU Qf ?_;simp only[bE,bD,bC,bB,bA])|(refine sx ?_ (λH a=> ?_) ?_;rotate_left;(focus have ah:=(I.out.ext a.un).cell;clear a;go_simp<;>with_reducible rfl);simp only[bE,bD,bC,bB,bA]))
    refine so (λz a y K w=> ?_) ?_
    ·have F:=bb.out z a.un;clear y a;go_simp;refine F.mono ?_;rintro e aJ ⟨rfl,R⟩;exact w _ _ R rfl trivial
    rintro _ rfl;simp only[bE,bD,bC,bB,bA];repeat (first|(refine bU Qf ?_;simp only[bE,bD,bC,bB,bA])|(refine sx ?_ (λH a=> ?_) ?_;rotate_left;(focus have ah:=(I.out.ext a.un).cell;clear a;go_simp<;>with_reducible rfl);simp only[bE,bD,bC,bB,bA]))
    intro bd A y aM;clear y aM;simp only[ae,aw];have aV:=G (aF.out.trans A.un);refine aN Qf Qe (λK w=> ?_);go_simp;refine w _ _ A ?_;clear w A;refine cQ ?_;go_wp2_with fail;go_roundw
    case rel=>exact⟨j+1,m+(o+d),by go_num,congrArg (Value.int i64) Qc,by omega,G (by have:=aW.out;rw[if_neg hk]at this;omega),aV⟩
    case measure=>simp[intOf];omega
  ·have bk: ¬(j:Int)<N:=J
   have br:=G (show m=aE by
    have:=a9.out;rw[aK (by have:=ba.out;omega),cK]at this
    omega)
   go_wp2_with fail;go_ret;exact⟨by rw[<-br.out];rfl,V.out⟩
theorem la: ∀(m:Nat) (xs:List St),eX xs<=m->eX xs<=1073741824->IM xs
 |0,xs,h,hw=>vG xs hw (λs a=>by have:=cM a;have:=s.wt_eq;omega)
 |m+1,xs,h,hw=>vG xs hw (λs a=>⟨la m s.body (by have:=cM a;have:=s.wt_eq;omega) (by have:=cM a;have:=s.wt_eq;omega),la m s.els (by have:=cM a;have:=s.wt_eq;omega) (by have:=cM a;have:=s.wt_eq;omega)⟩)
end
section
open Go.RowKit
theorem Cw (xs:List St) (a:eX xs<=1073741824):IM xs:=la _ xs (ah _) a
theorem qq (nm:List UInt8) (ps:List (List UInt8)) (a:List St) (aw:eX a<=6000000) (y:ps.length<=6000000) (P:Nat->Prop) (o:World) (z B:Option Addr) (c u:Nat) (V:eq o P (.slice B a.length u) a):
  Calls prog 35 #[.agg #[.string (Z nm),.slice z ps.length c,.slice B a.length u]] o λe w'=>e=.returned (.int i64 (e_ ⟨nm,ps,a⟩:Int))/\au o w':=by
 have F:=aa o (.cells #[.string (Z nm),.slice z ps.length c,.slice B a.length u] 81);have ao:=G F;have X:=G (aq o 81 #[.string (Z nm),.slice z ps.length c,.slice B a.length u]);have af:=mJ a;obtain⟨q,w⟩: ∃q,cK a=q:=⟨_,rfl⟩
 have ap:=G (λW (aj:au (o.alloc (.cells #[.string (Z nm),.slice z ps.length c,.slice B a.length u] 81)) W)=>w▸Cw a J P W B _ u ((V.keep (.of_ext F) (Q:=P) (λb A _=>A)).keep (.of_ext aj) (Q:=P) (λb A _=>A)));have an:=G (show e_ ⟨nm,ps,a⟩=4*(8+ps.length+q) by rw[<-w];rfl);rw[w]at af;generalize ps.length=n at*;generalize a.length=m at*;clear V F w;go_enter func35,ntmps35;go_wp2_with fail;refine aB 10 3 [(6,λv=>v=.int i64 (q:Int),λ_ _=>True)] mixed Qb ⟨λ_ _ _ _ _=>trivial,trivial⟩ ?_;repeat (first|(refine bU Qf ?_;simp only[bE,bD,bC,bB,bA])|(refine sx ?_ (λad d=> ?_) ?_;rotate_left;(focus have al:=(X.out.ext d.un).cell;clear d;go_simp<;>with_reducible rfl);simp only[bE,bD,bC,bB,bA]))
 refine so (λH d y K ah=> ?_) ?_
 ·have ag:=ap.out H d.un;clear y d;go_simp;refine ag.mono ?_;rintro e av ⟨rfl,ai⟩;exact ah _ _ ai rfl trivial
 rintro _ rfl;simp only[bE,bD,bC,bB,bA];repeat (first|(refine bU Qf ?_;simp only[bE,bD,bC,bB,bA])|(refine sx ?_ (λad d=> ?_) ?_;rotate_left;(focus have al:=(X.out.ext d.un).cell;clear d;go_simp<;>with_reducible rfl);simp only[bE,bD,bC,bB,bA]))
 intro ar R y;clear y;simp only[ae,aV];have am:=G (ao.out.trans R.un);clear R;go_wp2_with fail;go_ret;refine⟨congrArg (λI=>Ending.returned (.int i64 I)) ?_,am.out⟩;rw[an.out];simp[IntKind.wrap,IntKind.signed,IntKind.bits];omega
def I3 (xs:List St):Prop:= ∀(P:Nat->Prop) (w:World) (A:Option Addr) (n c:Nat),BT w->eq w P (.slice A n c) xs->Calls prog 68 #[.slice A n c] w λe w'=>e=.returned (.bool (nO xs))/\au w w'
theorem BX {l:List St} {j:Nat} (a:j<l.length):nO (l.drop j)=(IY l[j]||nO (l.drop (j+1))):=by
 rw[ap a,nO]
theorem Dw {l:List Ex} {j:Nat} (d:j<l.length):(l.drop j).any (λa=>decide (7<ek a))=(decide (7<ek l[j])||(l.drop (j+1)).any (λa=>decide (7<ek a))):=by
 rw[ap d,iY]
theorem uY (xs:List St) (bQ:eX xs<=1073741824) (aY: ∀s∈xs,I3 s.body/\I3 s.els):I3 xs:=by
 intro P aV b6 n c aX aM;obtain⟨b5,c',bp,bv⟩:=aM.form;injection bp with bo bn bm;subst bo bn bm;have bu:=fx xs;have aQ:=G aM;have bi:=G aY;have aF:=G aX;have a9:=G (λs (bq:s∈xs)=>show dU s.ex<=1073741824 by have:=cM bq;have:=s.wt_eq;omega);obtain⟨N,aw⟩: ∃N,xs.length=N:=⟨_,rfl⟩
 have bg:=G aw;rw[aw]at aQ bu;obtain⟨y,aJ⟩: ∃bx,nO xs=bx:=⟨_,rfl⟩
 have bF:=G (show nO (xs.drop 0)=y from aJ);have bA:=G (aI aV);rw[aw,aJ];clear aM bv aY aw aJ aX;go_enter func68,ntmps68;go_wp2_with fail
 go_loopw [9] (λX wr=> ∃(j:Nat),X=.int i64 (j:Int)/\j<=N/\Hid (nO (xs.drop j)=y)/\Hid (au aV wr)) (λX _=>N-(intOf X).toNat)
 case atStart=>exact⟨0,rfl,aD _,bF,bA⟩
 case round=>
  obtain⟨j,rfl,bR,be,H⟩:=hrel;generalize wr=an at*;by_cases hlt:j<N
  ·have br:(j:Int)<N:=J
   have ap:j<xs.length:=by have:=bg.out;omega
   obtain⟨b,bO,e,bZ,bP,rfl,o,bS,aA,az,aO,a2,a1,ae,al,aj⟩:=aQ.out.at_ j ap;have av:=BX ap;have ay:=bi.out _ (ax ap);have ar:=a9.out _ (ax ap);obtain⟨a,aW⟩: ∃a,xs[j]=a:=⟨_,rfl⟩
   rw[aW]at aA az ae al aj av ay ar;clear aW;obtain⟨k,nm,A,V,R⟩:=a;simp only[St.k,St.nm,St.ex,St.body,St.els]at aA az ae al aj ay ar;rw[IY]at av;have bC:=G (be.out.symm.trans av);obtain⟨M,aN⟩: ∃m,A.length=m:=⟨_,rfl⟩
   obtain⟨aG,c1,rfl,_⟩:=ae.form;obtain⟨am,c2,rfl,_⟩:=al.form;obtain⟨ai,af,rfl,_⟩:=aj.form;rw[aN]at aO ae;have bh:=G aN;have bU:M<=1073741824:=by have:=d7 A;omega
   have e0:=(H.out.cell b _ o).trans aA;have bY:=(H.out.cell b _ o).trans az;have bX:=(H.out.cell b _ o).trans aO;have bW:=(H.out.cell b _ o).trans a2;have bV:=(H.out.cell b _ o).trans a1;have aZ:=aa an (.cells #[.int i64 k,.string (Z nm),.slice aG M c1,.slice am V.length c2,.slice ai R.length af] 147);have aU:=G (aq an 147 #[.int i64 k,.string (Z nm),.slice aG M c1,.slice am V.length c2,.slice ai R.length af]);have ag:=G (H.out.trans aZ);have bD:=G (ae.keep (.of_ext ag.out) (Q:=P) (λb o _=>o));have bE:=G (al.keep (.of_ext ag.out) (Q:=P) (λb o _=>o));have bc:=G (aj.keep (.of_ext ag.out) (Q:=P) (λb o _=>o));have aS:=G ay;have bB:=G ar;have bG:=G (show(((A.drop 0).any (λa=>decide (7<ek a))||(nO V||nO R))||nO (xs.drop (j+1)))=y from bC.out.symm);have bz:=G (aI (an.alloc (.cells #[.int i64 k,.string (Z nm),.slice aG M c1,.slice am V.length c2,.slice ai R.length af] 147)));clear aA az aO a2 a1 ae al aj ay av aZ aN ar aQ bi a9;go_wp2_with fail
   go_loopw [16] (λX wr=> ∃(i:Nat),X=.int i64 (i:Int)/\i<=M/\Hid ((((A.drop i).any (λa=>decide (7<ek a))||(nO V||nO R))||nO (xs.drop (j+1)))=y)/\Hid (au (an.alloc (.cells #[.int i64 k,.string (Z nm),.slice aG M c1,.slice am V.length c2,.slice ai R.length af] 147)) wr)) (λX _=>M-(intOf X).toNat)
   case atStart=>exact⟨0,rfl,aD _,bG,bz⟩
   case round=>
    obtain⟨i,rfl,hi,aR,w⟩:=hrel;by_cases hli:i<M
    ·have bt:(i:Int)<M:=J
     have aH:i<A.length:=by have:=bh.out;omega
     obtain⟨b2,bN,b4,rfl,ad,bT,a8,a7,a6,a5,a4,a3,aL⟩:=bD.out.at_ i aH;have bb:=G (Dw aH);have bk:=eE (ax aH);have bl:=jz A[i];have bf:=G (rS _ A[i] (ah _) (by have:=bB.out;omega));generalize A[i]=a at*;have bM:=(w.out.cell b2 _ ad).trans a8;have bL:=(w.out.cell b2 _ ad).trans a7;have bK:=(w.out.cell b2 _ ad).trans a6;have bJ:=(w.out.cell b2 _ ad).trans a5;have bI:=(w.out.cell b2 _ ad).trans a4;have bH:=(w.out.cell b2 _ ad).trans a3;obtain⟨B,aC,rfl,_⟩:=aL.form;have bd:=G ((aL.keep (.of_ext w.out) (Q:=P) (λb o _=>o)).keep (.of_ext (aa _ (.cells #[.int i64 a.k,.string (Z a.op),.string (Z a.nm),.string (Z a.tx),.int i64 a.v,.slice B a.args.length aC] 206))) (Q:=P) (λb o _=>o));have ba:=G (((aF.out.ext ag.out).ext w.out).ext (aa wr (.cells #[.int i64 a.k,.string (Z a.op),.string (Z a.nm),.string (Z a.tx),.int i64 a.v,.slice B a.args.length aC] 206)));clear a8 a7 a6 a5 a4 a3 aL bk bl;by_cases h7:7<ek a
     ·have bw:(7:Int)<(ek a:Int):=J
      have u:=G (show y=true by rw[<-aR.out,bb.out,decide_eq_true h7];rfl);go_wp2_with (go_at_call 127;refine(bf.out P _ B _ aC bd.out ba.out).mono ?_;rintro e ao ⟨rfl,d⟩;have z:=G (((ag.out.trans w.out).alloc' _).trans d);clear d);go_ret;exact⟨by rw[u.out];rfl,z.out⟩
     ·have bw: ¬(7:Int)<(ek a:Int):=J
      have u:=G (show(((A.drop (i+1)).any (λa=>decide (7<ek a))||(nO V||nO R))||nO (xs.drop (j+1)))=y by rw[<-aR.out,bb.out,decide_eq_false h7];rfl);go_wp2_with (go_at_call 127;refine(bf.out P _ B _ aC bd.out ba.out).mono ?_;rintro e ao ⟨rfl,d⟩;have z:=G ((w.out.alloc' _).trans d);clear d);go_roundw
      case rel=>exact⟨i+1,by go_num,by omega,u,z⟩
      case measure=>simp[intOf];omega
    ·have bt: ¬(i:Int)<M:=J
     have u:=G (show((nO V||nO R)||nO (xs.drop (j+1)))=y by
      have:=aR.out;rw[aK (l:=A) (by have:=bh.out;omega)]at this
      exact this)
     have aB:=(aU.out.ext w.out).cell;have aE:=G (ag.out.trans w.out);have F:=aS.out.1 P wr am _ c2 (aF.out.ext aE.out) (bE.out.keep (.of_ext w.out) (Q:=P) (λb o _=>o));have F:=G F
     cases hr1:nO V with
     |true=>
      rw[hr1]at u F;have u:=G (show y=true from u.out.symm);go_wp2_with (go_at_call 68;refine F.out.mono ?_;rintro e ao ⟨rfl,d⟩;have z:=G (aE.out.trans d);clear d F);go_ret;exact⟨by rw[u.out];rfl,z.out⟩
     |false=>
      rw[hr1]at u F
      cases hr2:nO R with
      |true=>
       rw[hr2]at u;have u:=G (show y=true from u.out.symm);go_wp2_with (first|(go_at_call 68;refine F.out.mono ?_;clear F;rintro e ao ⟨rfl,d⟩;have z:=G (aE.out.trans d);have aT:=G d;clear aB;have aB:=(aU.out.ext (w.out.trans d)).cell;clear d)|(go_at_call 68;have I:=aS.out.2 P _ ai _ af (aF.out.ext z.out) (bc.out.keep (.of_ext (w.out.trans aT.out)) (Q:=P) (λb o _=>o));rw[hr2]at I;refine I.mono ?_;clear I;rintro e bj ⟨rfl,d⟩;have aP:=G (z.out.trans d);clear d));go_ret;exact⟨by rw[u.out];rfl,aP.out⟩
      |false=>
       rw[hr2]at u;have u:=G (show nO (xs.drop (j+1))=y from u.out);go_wp2_with (first|(go_at_call 68;refine F.out.mono ?_;clear F;rintro e ao ⟨rfl,d⟩;have z:=G (aE.out.trans d);have aT:=G d;clear aB;have aB:=(aU.out.ext (w.out.trans d)).cell;clear d)|(go_at_call 68;have I:=aS.out.2 P _ ai _ af (aF.out.ext z.out) (bc.out.keep (.of_ext (w.out.trans aT.out)) (Q:=P) (λb o _=>o));rw[hr2]at I;refine I.mono ?_;clear I;rintro e bj ⟨rfl,d⟩;have aP:=G (z.out.trans d);clear d));go_roundw
       case rel=>exact⟨j+1,by go_num,by omega,u,aP⟩
       case measure=>simp[intOf];omega
  ·have br: ¬(j:Int)<N:=J
   have u:=G (show y=false by
    have:=be.out;rw[aK (by have:=bg.out;omega),nO]at this
    exact this.symm)
   go_wp2_with fail;go_ret;exact⟨by rw[u.out];rfl,H.out⟩
theorem ng: ∀(m:Nat) (xs:List St),eX xs<=m->eX xs<=1073741824->I3 xs
 |0,xs,h,hw=>uY xs hw (λs a=>by have:=cM a;have:=s.wt_eq;omega)
 |m+1,xs,h,hw=>uY xs hw (λs a=>⟨ng m s.body (by have:=cM a;have:=s.wt_eq;omega) (by have:=cM a;have:=s.wt_eq;omega),ng m s.els (by have:=cM a;have:=s.wt_eq;omega) (by have:=cM a;have:=s.wt_eq;omega)⟩)
theorem vL {d a h:Type} (x:Except Er d) (k:d->Except Er a) (l:a->Except Er h):CR.then (CR.then x k) l=CR.then x λo=>CR.then (k o) l:=by cases x<;>rfl
abbrev CB.U (X:CB) (k:Nat):Prop:=k=X.g\/X.S k
section
variable {X:CB} {gl:Gl} {lv:Value} {lo lo':Ls} {w W:World}
theorem CK.lt (d:CK X gl lv lo w):X.g<w.heap.size/\X.bi<w.heap.size/\X.ba<w.heap.size/\X.bf<w.heap.size:=⟨d.blk.lt,d.i.lt,d.a.lt,d.f.lt⟩
theorem tH {b:Nat} {t:TypeId} {h:Array Value} {L:KF} (d:aO w b t h) (a:cH w b L):False:=by
 obtain⟨es,c,a,_⟩:=a;unfold aO at d;rw[d]at a;cases a
theorem CK.newL (d:CK X gl lv lo w) (y:X.g≠1):CK X gl (.map (some w.heap.size)) gK ((w.alloc (.map #[] 0)).setCell ⟨X.g,5,none⟩ (.map (some w.heap.size))):=by
 obtain⟨R,G,F,A⟩:=d.lt;have h:=aa w (.map #[] 0);have hi:X.bi≠X.g:=λe=>tH d.blk (e▸d.i);have ha:X.ba≠X.g:=λe=>tH d.blk (e▸d.a);have z:X.bf≠X.g:=λe=>tH d.blk (e▸d.f);have u:=kM w;refine⟨?_,(d.i.ext h).set hi _,(d.a.ext h).set ha _,(d.f.ext h).set z _,.inr ⟨_,rfl,?_,by omega,by omega,by omega,by omega⟩,?_⟩
 ·have:=(d.blk.ext h).set 5 (.map (some w.heap.size));simpa using this
 ·refine(u.set (p:=⟨X.g,5,none⟩) (by show _≠X.g;omega) _).congr λs=> ?_;simp[GN,gK]
 ·obtain⟨t,fr,o⟩:=d.t.ext h;exact⟨t,fr,(Below.heap_setCell _ ⟨X.g,5,none⟩ _ _ (λe=>y e.symm)).trans o⟩
end
theorem z' {g:Gl} {lo:Ls} {l:List (List UInt8)} {j:Nat} (a:j<l.length):pt g lo (l.drop j)=if g.known lo l[j]=true then .error (l[j],9)else pt g (lo.add l[j]) (l.drop (j+1)):=by
 rw[ap a,pt]
theorem Aa {g:Gl} {l:List Fc} {j:Nat} (a:j<l.length):ks g (l.drop j)=CR.then (pt g gK l[j].ps) λlo=>CR.then (gV g lo l[j].body) λ_=>ks g (l.drop (j+1)):=by
 rw[ap a,ks]
theorem xG {l:List Fc} {j:Nat} (a:j<l.length):gk (l.drop j)=if 20<l[j].ps.length+cK l[j].body\/nO l[j].body=true then .error (l[j].nm,6)else gk (l.drop (j+1)):=by
 rw[ap a,gk]
def J8 (X:CB) (r:CR) (w:World) (e:Ending) (w':World):Prop:=Mv X.U w w'/\e=cL r
theorem AN (p:Pg) (bM:mC p<=6000000) (az:CB) (bp:az.Ok) (bQ:az.g≠1) (P:Nat->Prop) (u:World) (bS:nM u P az.sv p.vs) (bc:nP u P az.sf p.fs) (br: ∀b,P b-> ¬az.U b) (aL:CK az tE (.map none) gK u):
  Calls prog 30 #[az.p] u (J8 az (lB p) u):=by
 have cl:= @run_makeMap prog;have be:=G (yP p bM az bp P u bS bc (λb A ch=>br b A (.inr ch)) aL);have cn:p.fs.length<=6000000:=by have:=sS p;omega
 have b8:=G (λf (ct:f∈p.fs)=>show f.nm.length<=1073741824/\eX f.body<=6000000/\f.ps.length<=6000000/\ ∀R∈f.ps,R.length<=1073741824 by
  have ar:=uQ ct;have am:=BI (f:=f);have bW:eX f.body<=f.wt:=by unfold Fc.wt;omega
  have bV:f.ps.length<=f.wt:=by
   have:=lW (λ_:List UInt8=>1) (λs=>s.length+1) f.ps (λv _=>by omega);rw[jA]at this;unfold Fc.wt;omega
  exact⟨by omega,by omega,by omega,λR aQ=>by have:=FK aQ;omega⟩)
 obtain⟨I,bq⟩: ∃cF,lB p=cF:=⟨_,rfl⟩
 have bY:=G (show CR.then (sT p) (λg=>CR.then (ks g (p.fs.drop 0)) λ_=>gk p.fs)=I from bq);rw[bq];clear bq bM;obtain⟨cb,y⟩:=p;generalize sT ⟨cb,y⟩=cc at*;obtain⟨g,aM,aO,aN,aH,cd⟩:=az;simp only[CB.p]at*;obtain⟨F,bb⟩: ∃n,y.length=n:=⟨_,rfl⟩
 obtain⟨B,ay,cy⟩: ∃B ay,cd=.slice B F ay:=by obtain⟨cX,cD,V,_⟩:=bc;exact⟨cX,cD,by rw[V,bb]⟩
 subst cy;rw[bb]at cn;have bg:=G bb;have b7:=G (bc.keep (Q:=λb=>P b/\b<u.heap.size) ⟨ah _,λ_ _ _=>rfl⟩ (λb ar am=>⟨ar,am⟩));have aF:=G (λW (V:Mv (CB.U ⟨g,aM,aO,aN,aH,.slice B F ay⟩) u W)=>show dM (λb=>P b/\b<u.heap.size) u W from V.keepP (λk cq _=>br k cq.1));have c4:=G bp;have cT:=G bQ;clear bS bc br aL bp bb bQ
 cases cc with
 |error q=>
  obtain⟨bk,m⟩:=q;have aj:=G (show I=.error (bk,m)from bY.out.symm);go_enter func30,ntmps30;go_wp2_with (go_at_call 63;refine be.out.mono ?_;unfold J3 bw;rintro e aX ⟨al,rfl⟩;have av:=G (al.mono (S':=CB.U ⟨g,aM,aO,aN,aH,.slice B F ay⟩) (λk _ V=> .inr V));clear al be);exact⟨rfl,av.out,by rw[aj.out];rfl⟩
 |ok gl=>
  have cI:=G (show CR.then (ks gl (y.drop 0)) (λ_=>gk y)=I from bY.out);go_enter func30,ntmps30;go_wp2_with (go_at_call 63;refine be.out.mono ?_;unfold J3;rintro e aX ⟨al,rfl,bT⟩;have cO:=G (al.mono (S':=CB.U ⟨g,aM,aO,aN,aH,.slice B F ay⟩) (λk _ V=> .inr V));have b6:=G bT;have z:=b6.out.blk.cell;clear al bT be);clear z
  go_loopw [16] (λan wr=> ∃(j:Nat) (bK:Value) (lo:Ls),an=.int i64 (j:Int)/\j<=F/\Hid (CR.then (ks gl (y.drop j)) (λ_=>gk y)=I)/\Hid (Mv (CB.U ⟨g,aM,aO,aN,aH,.slice B F ay⟩) u wr)/\Hid (CK ⟨g,aM,aO,aN,aH,.slice B F ay⟩ gl bK lo wr)) (λan _=>F-(intOf an).toNat)
  case atStart=>exact⟨0,_,_,rfl,aD _,cI,cO,b6⟩
  case round=>
   obtain⟨j,bK,lo,rfl,c0,b4,av,bi⟩:=hrel;generalize wr=a at*;by_cases hlt:j<F
   ·have cm:(j:Int)<F:=J
    have bn:j<y.length:=by have:=bg.out;omega
    obtain⟨b,a8,ce,cE,rfl,A,aS,aE,ar,am,ao,ap⟩:=og b7.out j bn;have ag:=Aa (g:=gl) bn;have aT:=b8.out _ (ax bn);obtain⟨R,aQ⟩: ∃R,y[j]=R:=⟨_,rfl⟩
    rw[aQ]at aE ao ap ag aT;clear aQ;obtain⟨nm,ps,o⟩:=R;simp only at aE ao ap ag aT;obtain⟨cj,cg,bl,bN⟩:=aT
    have bz:=G (show CR.then (pt gl gK (ps.drop 0)) (λlo=>CR.then (gV gl lo o) λ_=>CR.then (ks gl (y.drop (j+1))) λ_=>gk y)=I by
     rw[<-b4.out,ag,vL]
     simp only[vL,aw])
    obtain⟨M,al⟩: ∃m,ps.length=m:=⟨_,rfl⟩
    obtain⟨ad,ai,a2,ao⟩:=ao;rw[al]at a2 bl;subst a2;have b5:=G al;obtain⟨H,X,rfl,_⟩:=ap.form;have e0:=((aF.out _ av.out).cell _ aS A).trans aE;have cC:=((aF.out _ av.out).cell _ aS A).trans ar;have cB:=((aF.out _ av.out).cell _ aS A).trans am;have bf:=G ap;have cG:=G ao;have a4:=aa a (.cells #[.string (Z nm),.slice ad M ai,.slice H o.length X] 81);have bH:=G (bi.out.ext a4);have aG:=G (aq a 81 #[.string (Z nm),.slice ad M ai,.slice H o.length X]);have cM:=G (av.out.alloc (.cells #[.string (Z nm),.slice ad M ai,.slice H o.length X] 81));have ba:=aa (a.alloc (.cells #[.string (Z nm),.slice ad M ai,.slice H o.length X] 81)) (.map #[] 0);have cp:=(bH.out.blk.ext ba).cell;have co:=(bH.out.blk.ext ba).frozen;have cs:g≠a.heap.size:=by have:=bi.out.lt.1;simp only at this;omega
    have cr:a.heap.size≠g:=λe=>cs e.symm;have ca:=G ((aG.out.ext ba).far (p:=⟨g,5,none⟩) cr (.map (some (a.heap.size+1))));have cA:=ca.out.cell
    have cR:=G (show CK ⟨g,aM,aO,aN,aH,.slice (some ⟨b,a8,none⟩) F ay⟩ gl (.map (some (a.heap.size+1))) gK (((a.alloc (.cells #[.string (Z nm),.slice ad M ai,.slice H o.length X] 81)).alloc (.map #[] 0)).setCell ⟨g,5,none⟩ (.map (some (a.heap.size+1))))from by
     have:=bH.out.newL cT.out
     rwa [World.size_alloc]at this)
    have cN:=G ((cM.out.alloc (.map #[] 0)).set (p:=⟨g,5,none⟩) (λ_=> .inl rfl) (.map (some (a.heap.size+1))));have cV:=G (World.grownBy.refl (((a.alloc (.cells #[.string (Z nm),.slice ad M ai,.slice H o.length X] 81)).alloc (.map #[] 0)).setCell ⟨g,5,none⟩ (.map (some (a.heap.size+1)))) (some (a.heap.size+1)));have ck:a.heap.size+1≠a.heap.size:=J
    have bX:=G (show u.heap.size<=a.heap.size from av.out.size);have a6:=G (λW (V:World.grownBy (((a.alloc (.cells #[.string (Z nm),.slice ad M ai,.slice H o.length X] 81)).alloc (.map #[] 0)).setCell ⟨g,5,none⟩ (.map (some (a.heap.size+1)))) W (some (a.heap.size+1)))=>show Mv (CB.U ⟨g,aM,aO,aN,aH,.slice (some ⟨b,a8,none⟩) F ay⟩) u W from cN.out.tr (.of_grown (S:=λk=>k=a.heap.size+1) V (λk e=>by injection e with e;exact e.symm)) (λk ar am=>absurd am (by have:=bX.out;omega)));clear aE ar am ap al ba;go_wp2_with fail;clear cA cp co cl
    go_loopw [27] (λan wr=> ∃(i:Nat) (af:Ls),an=.int i64 (i:Int)/\i<=M/\Hid (CR.then (pt gl af (ps.drop i)) (λlo=>CR.then (gV gl lo o) λ_=>CR.then (ks gl (y.drop (j+1))) λ_=>gk y)=I)/\Hid (World.grownBy (((a.alloc (.cells #[.string (Z nm),.slice ad M ai,.slice H o.length X] 81)).alloc (.map #[] 0)).setCell ⟨g,5,none⟩ (.map (some (a.heap.size+1)))) wr (some (a.heap.size+1)))/\Hid (CK ⟨g,aM,aO,aN,aH,.slice (some ⟨b,a8,none⟩) F ay⟩ gl (.map (some (a.heap.size+1))) af wr)) (λan _=>M-(intOf an).toNat)
    case atStart=>exact⟨0,gK,rfl,aD _,bz,cV,cR⟩
    case round=>
     obtain⟨i,af,rfl,hi,aP,aU,a7⟩:=hrel;by_cases hli:i<M
     ·have bm:(i:Int)<M:=J
      have aC:i<ps.length:=by have:=b5.out;omega
      have ci: ∃b2 a1,ad=some ⟨b2,a1,none⟩/\(P b2/\b2<u.heap.size)/\b2<u.heap.size/\u.cell? ⟨b2,a1+i,none⟩=some (.string (Z ps[i])):=by
       rcases cG.out with V|⟨_,_,b2,a1,ar,am,bW,bV⟩
       ·rw[V]at aC;simp at aC
       ·exact⟨b2,a1,ar,am,bW,bV i aC⟩
      obtain⟨b2,a1,rfl,cw,cv,cf⟩:=ci;have cY:=((aF.out _ (a6.out _ aU.out)).cell _ cw cv).trans cf;have ag:=z' (g:=gl) (lo:=af) aC;have bL:=bN _ (ax aC);generalize ps[i]=R at*;have bP:=a7.out.blk.cell
      cases hkn:gl.known af R with
      |true=>
       have aj:=G (show I=.error (R,9) by rw[<-aP.out,ag,hkn];rfl);go_wp2_with (first|(go_at_call 64;refine(eK _ gl _ af _ a7.out R bL).mono ?_;rw[hkn];rintro e aW ⟨rfl,w⟩;have cL:=G ((a6.out _ aU.out).trans (.of_ext w));clear w)|(go_at_call 65;refine(eJ R 9 _).mono ?_;unfold bw;rintro e aW ⟨rfl,w⟩;have a5:=G (cL.out.trans (.of_ext w));clear w));exact⟨rfl,a5.out,by rw[aj.out];rfl⟩
      |false=>
       have cx:pt gl af (ps.drop i)=pt gl (af.add R) (ps.drop (i+1)):=by rw[ag,hkn,if_neg Qd]
       go_wp2_with (first|(go_at_call 64;refine(eK _ gl _ af _ a7.out R bL).mono ?_;rw[hkn];rintro e aW ⟨rfl,w⟩;have cS:=G (aU.out.trans (w.grownBy _));have bG:=G (a7.out.ext w);clear bP;have bP:=bG.out.blk.cell;clear w)|(at_mapUpdate;refine fi FR rfl _ _ _ rfl bG.out.ml.1 rfl Qj rfl _ rfl ?_;intro bI bO bo;have cQ:=G (bG.out.add bO bo);have cU:=G (cS.out.trans bo);clear bO bo));go_roundw
       case rel=>exact⟨i+1,af.add R,by go_num,by omega,G (by rw[<-cx];exact aP.out),cU,cQ⟩
       case measure=>simp[intOf];omega
     ·have bm: ¬(i:Int)<M:=J
      have bZ:=G (show CR.then (gV gl af o) (λ_=>CR.then (ks gl (y.drop (j+1))) λ_=>gk y)=I by
       have:=aP.out;rw[aK (l:=ps) (by have:=b5.out;omega),pt,fA]at this
       exact this)
      have c3:=(ca.out.grown aU.out (DB ck.symm)).cell;have cJ:=G (a6.out _ aU.out);have z:=na _ o (ah _) J _ gl (a.heap.size+1) af (λb=>P b/\b<u.heap.size) wr H _ X a7.out (bf.out.keep (aF.out _ cJ.out) (λb A _=>A)) (λb A e=>by have:=bX.out;omega);have bj:=G z;clear z
      cases aJ:gV gl af o with
      |error q=>
       obtain⟨bk,m⟩:=q;have aj:=G (show I=.error (bk,m) by rw[<-bZ.out,aJ];rfl);go_wp2_with (go_at_call 66;have z:=bj.out;rw[aJ]at z;refine z.mono ?_;unfold rq bw;rintro e aW ⟨a3,rfl⟩;have bF:=G (a6.out _ (aU.out.trans a3));clear a3 z bj);exact⟨rfl,bF.out,by rw[aj.out];rfl⟩
      |ok lo2=>
       have cH:=G (show CR.then (ks gl (y.drop (j+1))) (λ_=>gk y)=I by rw[<-bZ.out,aJ];rfl);go_wp2_with (go_at_call 66;have z:=bj.out;rw[aJ]at z;refine z.mono ?_;unfold rq;rintro e aW ⟨a3,rfl,bR⟩;have bF:=G (a6.out _ (aU.out.trans a3));have cP:=G bR;clear a3 z bj bR);go_roundw
       case rel=>exact⟨j+1,_,lo2,by go_num,by omega,cH,bF,cP⟩
       case measure=>simp[intOf];omega
   ·have cm: ¬(j:Int)<F:=J
    have bz:=G (show gk (y.drop 0)=I by
     have:=b4.out;rw[aK (by have:=bg.out;omega),ks,fA]at this
     exact this)
    have z:=bi.out.blk.cell;go_wp2_with fail;clear z
    go_loopw [53] (λan wr=> ∃(i:Nat),an=.int i64 (i:Int)/\i<=F/\Hid (gk (y.drop i)=I)/\Hid (au a wr)) (λan _=>F-(intOf an).toNat)
    case atStart=>exact⟨0,rfl,aD _,bz,G (aI _)⟩
    case round=>
     obtain⟨i,rfl,hi,aP,bv⟩:=hrel;by_cases hli:i<F
     ·have bm:(i:Int)<F:=J
      have aC:i<y.length:=by have:=bg.out;omega
      obtain⟨b,a8,ce,cE,rfl,A,aS,aE,ar,am,ao,ap⟩:=og b7.out i aC;have ag:=xG aC;have aT:=b8.out _ (ax aC);obtain⟨R,aQ⟩: ∃R,y[i]=R:=⟨_,rfl⟩
      rw[aQ]at aE ao ap ag aT;clear aQ;obtain⟨nm,ps,o⟩:=R;simp only at aE ao ap ag aT;obtain⟨cj,cg,bl,bN⟩:=aT;obtain⟨M,al⟩: ∃m,ps.length=m:=⟨_,rfl⟩
      obtain⟨ad,ai,a2,ao⟩:=ao;rw[al]at a2 bl ag;subst a2;obtain⟨H,X,rfl,_⟩:=ap.form;have bh:=G (av.out.trans (.of_ext bv.out));have e0:=((aF.out _ bh.out).cell _ aS A).trans aE;have cC:=((aF.out _ bh.out).cell _ aS A).trans ar;have cB:=((aF.out _ bh.out).cell _ aS A).trans am;have a4:=aa wr (.cells #[.string (Z nm),.slice ad M ai,.slice H o.length X] 81);have aG:=G (aq wr 81 #[.string (Z nm),.slice ad M ai,.slice H o.length X]);have bu:=G (bv.out.trans a4);have bf:=G ((ap.keep (aF.out _ bh.out) (Q:=λb=>P b/\b<u.heap.size) (λb A _=>A)).keep (.of_ext a4) (Q:=λb=>P b/\b<u.heap.size) (λb A _=>A));have cu:=mJ o;obtain⟨q,a9⟩: ∃q,cK o=q:=⟨_,rfl⟩
      obtain⟨r,aJ⟩: ∃r,nO o=r:=⟨_,rfl⟩
      rw[a9,aJ]at ag;rw[a9]at cu;have b9:=G (λW (V:au (wr.alloc (.cells #[.string (Z nm),.slice ad M ai,.slice H o.length X] 81)) W)=>a9▸Cw o J (λb=>P b/\b<u.heap.size) W H _ X (bf.out.keep (.of_ext V) (λb A _=>A)));have cW:=G (λW (V:au (wr.alloc (.cells #[.string (Z nm),.slice ad M ai,.slice H o.length X] 81)) W)=>aJ▸ng _ o (ah _) J (λb=>P b/\b<u.heap.size) W H _ X (bi.out.t.ext (bu.out.trans V)) (bf.out.keep (.of_ext V) (λb A _=>A)));have cZ:IntKind.i64.wrap ((M:Int)+(q:Int))=(M:Int)+(q:Int):=Qc
      clear aE ar am ao ap al a4 a9 aJ;have bx:=G ag;clear ag;by_cases h20:20<M+q
      ·have bt:(20:Int)<(M:Int)+(q:Int):=J
       have cz:decide ((20:Int)<(M:Int)+(q:Int))=true:=decide_eq_true bt;have aj:=G (show I=.error (nm,6) by rw[<-aP.out,bx.out,if_pos (.inl h20)]);go_wp2_with fail;refine aB 13 4 [(5,λv=>v=.int i64 (q:Int),λ_ _=>True)] mixed Qb ⟨λ_ _ _ _ _=>trivial,trivial⟩ ?_;repeat (first|(refine bU Qf ?_;simp only[bE,bD,bC,bB,bA])|(refine sx ?_ (λaX d=> ?_) ?_;rotate_left;(focus have aY:=(aG.out.ext d.un).cell;clear d;go_simp<;>with_reducible rfl);simp only[bE,bD,bC,bB,bA]))
       refine so (λaZ d aA K aL=> ?_) ?_
       ·have z:=b9.out aZ d.un;clear aA d;go_simp;refine z.mono ?_;rintro e bJ ⟨rfl,w⟩;exact aL _ _ w rfl trivial
       rintro _ rfl;simp only[bE,bD,bC,bB,bA];repeat (first|(refine bU Qf ?_;simp only[bE,bD,bC,bB,bA])|(refine sx ?_ (λaX d=> ?_) ?_;rotate_left;(focus have aY:=(aG.out.ext d.un).cell;clear d;go_simp<;>with_reducible rfl);simp only[bE,bD,bC,bB,bA]))
       intro bI aR aA;clear aA;simp only[ae,aV];have aY:=(aG.out.ext aR.un).cell;have bd:=G (bu.out.trans aR.un);clear aR;go_wp2_with (go_at_call 65;refine(eJ nm 6 _).mono ?_;unfold bw;rintro e aW ⟨rfl,w⟩;have a5:=G (av.out.trans (.of_ext (bd.out.trans w)));clear w);exact⟨rfl,a5.out,by rw[aj.out];rfl⟩
      ·have bt: ¬(20:Int)<(M:Int)+(q:Int):=J
       have cz:decide ((20:Int)<(M:Int)+(q:Int))=false:=decide_eq_false bt;go_wp2_with fail;refine aB 13 4 [(5,λv=>v=.int i64 (q:Int),λ_ _=>True),(11,λv=>v=.bool r,λ_ _=>True)] mixed Qb ⟨λ_ _ _ _ _=>trivial,λ_ _ _ _ _=>trivial,trivial⟩ ?_;repeat (first|(refine bU Qf ?_;simp only[bE,bD,bC,bB,bA])|(refine sx ?_ (λaX d=> ?_) ?_;rotate_left;(focus have aY:=(aG.out.ext d.un).cell;clear d;go_simp<;>with_reducible rfl);simp only[bE,bD,bC,bB,bA]))
       refine so (λaZ d aA K aL=> ?_) ?_
       ·have z:=b9.out aZ d.un;clear aA d;go_simp;refine z.mono ?_;rintro e bJ ⟨rfl,w⟩;exact aL _ _ w rfl trivial
       rintro _ rfl;simp only[bE,bD,bC,bB,bA];repeat (first|(refine bU Qf ?_;simp only[bE,bD,bC,bB,bA])|(refine sx ?_ (λaX d=> ?_) ?_;rotate_left;(focus have aY:=(aG.out.ext d.un).cell;clear d;go_simp<;>with_reducible rfl);simp only[bE,bD,bC,bB,bA]))
       refine so (λaZ d aA K aL=> ?_) ?_
       ·have z:=cW.out aZ d.un;clear aA d;go_simp;refine z.mono ?_;rintro e bJ ⟨rfl,w⟩;exact aL _ _ w rfl trivial
       rintro _ rfl;simp only[bE,bD,bC,bB,bA];repeat (first|(refine bU Qf ?_;simp only[bE,bD,bC,bB,bA])|(refine sx ?_ (λaX d=> ?_) ?_;rotate_left;(focus have aY:=(aG.out.ext d.un).cell;clear d;go_simp<;>with_reducible rfl);simp only[bE,bD,bC,bB,bA]))
       intro bI aR aA;clear aA;simp only[ae,aV];have aY:=(aG.out.ext aR.un).cell;have bd:=G (bu.out.trans aR.un);clear aR
       cases r with
       |false=>
        have aj:=G (show gk (y.drop (i+1))=I by rw[<-aP.out,bx.out,if_neg Qg]);go_wp2_with fail;go_roundw
        case rel=>exact⟨i+1,by go_num,by omega,aj,bd⟩
        case measure=>simp[intOf];omega
       |true=>
        have aj:=G (show I=.error (nm,6) by rw[<-aP.out,bx.out,if_pos (.inr rfl)]);go_wp2_with (go_at_call 65;refine(eJ nm 6 _).mono ?_;unfold bw;rintro e aW ⟨rfl,w⟩;have a5:=G (av.out.trans (.of_ext (bd.out.trans w)));clear w);exact⟨rfl,a5.out,by rw[aj.out];rfl⟩
     ·have bm: ¬(i:Int)<F:=J
      have aj:=G (show I=.ok () by
       have:=aP.out;rw[aK (by have:=bg.out;omega),gk]at this
       exact this.symm)
      go_wp2_with fail;exact bodyPost_end (results_none rfl _ _ _) rfl ⟨av.out.trans (.of_ext bv.out),by rw[aj.out];rfl⟩
end
end Go.Proofs.YtoedmpgicdekmaaGreatDoor
