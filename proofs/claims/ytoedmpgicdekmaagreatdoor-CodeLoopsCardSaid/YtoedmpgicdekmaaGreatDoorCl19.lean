/- Parts of the proof. -/
import Derived.Test.YtoedmpgicdekmaaGreatDoorCl00
import Derived.Test.YtoedmpgicdekmaaGreatDoorCl17
import Derived.Test.YtoedmpgicdekmaaGreatDoorCl18
import Derived.Test.YtoedmpgicdekmaaGreatDoorCl01
set_option maxRecDepth 100000
set_option maxHeartbeats 8000000
set_option linter.unusedVariables false
set_option linter.unusedSimpArgs false
set_option linter.unusedSectionVars false
namespace Go.Proofs.YtoedmpgicdekmaaGreatDoor
open Go.Proofs.Tryz
section
open Go.RowKit
structure CB.Ok (X:CB):Prop where
 gi:X.g≠X.bi
 ga:X.g≠X.ba
 gf:X.g≠X.bf
 ia:X.bi≠X.ba
 jf:X.bi≠X.bf
 af:X.ba≠X.bf
abbrev CB.S (X:CB) (k:Nat):Prop:=k=X.bi\/k=X.ba\/k=X.bf
section
variable {X:CB} {gl:Gl} {lo lo':Ls} {w W:World}
theorem Ci {b:Nat} {L:KF} (h:BT w) (a:cB w b L):b≠1:=by
 rintro rfl;obtain⟨t,fr,d⟩:=h;obtain⟨es,c,a,_⟩:=a;rw[d]at a;cases a
theorem BT.grown {b:Nat} (o:BT w) (d:w.grownBy W (some b)) (h:b≠1):BT W:=by
 obtain⟨t,fr,a⟩:=o;exact⟨t,fr,(d.block _ (Array.getElem?_eq_some_iff.1 a).1 (λe=>h (by injection e with e;exact e.symm))).trans a⟩
theorem CG {a b:Nat} (d:a≠b):some a≠some b:=λe=>d (by injection e)
theorem CK.addI {v:Vr} (o:X.Ok) (d:CK X gl (.map none) gM w) (u: ¬0<v.sz) (y:cB W X.bi ((DO gl).upd v.nm (.bool true))) (h:w.grownBy W (some X.bi)):CK X (gl.addV v) (.map none) gM W:=by
 have e:gl.addV v={gl with int:=λx=>x==v.nm||gl.int x}:=by unfold Gl.addV;rw[if_neg u]
 rw[e];refine⟨d.blk.grown h (CG o.gi),y.congr λs=> ?_,d.a.grown h (CG (eK o.ia)),d.f.grown h (CG (eK o.jf)), .inl ⟨rfl,rfl⟩,d.t.grown h (Ci d.t d.i)⟩;unfold KF.upd DO;by_cases e:s=v.nm
 ·subst e;simp
 ·simp[e]
theorem CK.addA {v:Vr} (o:X.Ok) (d:CK X gl (.map none) gM w) (u:0<v.sz) (y:cB W X.ba ((DP gl).upd v.nm (.int .i64 v.sz))) (h:w.grownBy W (some X.ba)):CK X (gl.addV v) (.map none) gM W:=by
 have e:gl.addV v={gl with arr:=λx=>if x=v.nm then some v.sz else gl.arr x}:=by unfold Gl.addV;rw[if_pos u]
 rw[e];refine⟨d.blk.grown h (CG o.ga),d.i.grown h (CG o.ia),y.congr λs=> ?_,d.f.grown h (CG (eK o.af)), .inl ⟨rfl,rfl⟩,d.t.grown h (Ci d.t d.a)⟩;unfold KF.upd DP;by_cases e:s=v.nm
 ·subst e;simp
 ·simp[e]
theorem CK.addF {f:Fc} (o:X.Ok) (d:CK X gl (.map none) gM w) (u:cB W X.bf ((IM gl).upd f.nm (.int .i64 (f.ps.length:Int)))) (h:w.grownBy W (some X.bf)):CK X (gl.addF f) (.map none) gM W:=by
 refine⟨d.blk.grown h (CG o.gf),d.i.grown h (CG o.jf),d.a.grown h (CG o.af),u.congr λs=> ?_, .inl ⟨rfl,rfl⟩,d.t.grown h (Ci d.t d.f)⟩;unfold KF.upd IM Gl.addF;by_cases e:s=f.nm
 ·subst e;simp
 ·simp[e]
end
theorem Fz (p:Pg):p.vs.length<=oq p:=by
 have:=lC (λ_:Vr=>1) (λv=>v.nm.length+1) p.vs (λv _=>by omega);rw[jj]at this;unfold oq;omega
theorem sh (p:Pg):p.fs.length<=oq p:=by
 have:=lC (λ_:Fc=>1) (λf=>f.wt+1) p.fs (λv _=>by omega);rw[jj]at this;unfold oq;omega
theorem nu {w:World} {P:Nat->Prop} {y:Option Addr} {n c:Nat} {ls:List Fc} (d:pE w P (.slice y n c) ls) (i:Nat) (u:i<ls.length):
  ∃b a h o,y=some ⟨b,a,none⟩/\b<w.heap.size/\P b/\w.cell? ⟨b,a+i*3,none⟩=some (.string (ak ls[i].nm))/\w.cell? ⟨b,a+i*3+1,none⟩=some h/\w.cell? ⟨b,a+i*3+2,none⟩=some o/\qR w P h ls[i].ps/\ed w P o ls[i].body:=by
 obtain⟨R,c',I,d⟩:=d;injection I with J M K;rcases d with d|⟨_,_,b,a,ha,hP,hb,h,o,hc⟩
 ·subst d;simp at u
 ·obtain⟨H,G,F,A,z⟩:=hc i u;exact⟨b,a,h i,o i,by rw[J];exact ha,hb,hP,H,G,F,A,z⟩
theorem Di {w:World} {P:Nat->Prop} {o:Option Addr} {n c:Nat} {ls:List Vr} (d:pt w P (.slice o n c) ls) (i:Nat) (h:i<ls.length):
  ∃b a,o=some ⟨b,a,none⟩/\b<w.heap.size/\P b/\w.cell? ⟨b,a+i*2,none⟩=some (.string (ak ls[i].nm))/\w.cell? ⟨b,a+i*2+1,none⟩=some (.int .i64 ls[i].sz):=by
 obtain⟨F,c',u,d⟩:=d;injection u with y A z;rcases d with d|⟨_,_,b,a,ha,hP,hb,hc⟩
 ·subst d;simp at h
 ·exact⟨b,a,by rw[y];exact ha,hb,hP,(hc i h).1,(hc i h).2⟩
theorem x_ {g:Gl} {l:List Vr} {j:Nat} (a:j<l.length):qV g (l.drop j)=if g.known gM l[j].nm=true then .error (l[j].nm,9)else qV (g.addV l[j]) (l.drop (j+1)):=by
 rw[ap a,qV]
theorem ya {g:Gl} {l:List Fc} {j:Nat} (a:j<l.length):pz g (l.drop j)=if g.known gM l[j].nm=true then .error (l[j].nm,9)else pz (g.addF l[j]) (l.drop (j+1)):=by
 rw[ap a,pz]
def x' (g:Gl):Except Er Gl:=match g.fn dv with
 |none=> .error (dv,8)
 |some n=>if 0<n then .error (dv,16)else .ok g
def JH (X:CB) (r:Except Er Gl) (w:World) (e:Ending) (w':World):Prop:=Mv X.S w w'/\match r with
 | .ok g=>e= .returned (.tuple #[])/\CK X g (.map none) gM w'
 | .error (nm,n)=>e=bh nm n
theorem x9 (p:Pg) (bz:oq p<=6000000) (X:CB) (bg:X.Ok) (P:Nat->Prop) (w:World) (a2:pt w P X.sv p.vs) (a6:pE w P X.sf p.fs) (bi: ∀b,P b-> ¬X.S b) (a5:CK X yJ (.map none) gM w):
  Calls prog 63 #[X.p] w (JH X (zR p) w):=by
 obtain⟨g,aG,aI,az,bq,bt⟩:=X;have bD:p.vs.length<=6000000:=by have:=Fz p;omega
 have bE:p.fs.length<=6000000:=by have:=sh p;omega
 have bM:=G (λv (bB:v∈p.vs)=>show v.nm.length<=1073741824 by have:=Fa bB;omega);have bR:=G (λf (bG:f∈p.fs)=>show f.nm.length<=1073741824 by have:=uk bG;have:=AP (f:=f);omega);obtain⟨V,a3⟩: ∃bK,zR p=bK:=⟨_,rfl⟩
 have bN:=G (show CR.then (qV yJ (p.vs.drop 0)) (λg=>CR.then (pz g (p.fs.drop 0)) x')=V from a3);rw[a3];clear a3 bz;obtain⟨ap,ai⟩:=p;simp only at*;obtain⟨z,aY⟩: ∃n,ap.length=n:=⟨_,rfl⟩
 obtain⟨A,aZ⟩: ∃n,ai.length=n:=⟨_,rfl⟩
 obtain⟨F,y,bI⟩: ∃F y,bq= .slice F z y:=by obtain⟨F,y,aO,_⟩:=a2;exact⟨F,y,by rw[aO,aY]⟩
 obtain⟨B,aj,bH⟩: ∃B aj,bt= .slice B A aj:=by obtain⟨F,y,aO,_⟩:=a6;exact⟨F,y,by rw[aO,aZ]⟩
 subst bI bH;rw[aY]at bD;rw[aZ]at bE;have bm:=G aY;have bn:=G aZ;simp only[CB.p]at*;have bp: ∀W,Mv (CB.S ⟨g,aG,aI,az, .slice F z y, .slice B A aj⟩) w W->dE P w W:=λW aO=>aO.keepP (λk bF _=>bi k bF);have aS:=G bp;have bL:=G a2;have bQ:=G a6;have a9:=G bg;have bO:=G (gn (CB.S ⟨g,aG,aI,az, .slice F z y, .slice B A aj⟩) w);have bP:=G a5;have aV:=a5.blk.cell;clear a2 a6 bi a5 bg bp aY aZ;go_enter func63,ntmps63;go_wp2_with fail;clear aV
 go_loopw [14] (λar wr=> ∃(j:Nat) (o:Gl),ar= .int .i64 (j:Int)/\j<=z/\Hid (CR.then (qV o (ap.drop j)) (λg=>CR.then (pz g (ai.drop 0)) x')=V)/\Hid (Mv (CB.S ⟨g,aG,aI,az, .slice F z y, .slice B A aj⟩) w wr)/\Hid (CK ⟨g,aG,aI,az, .slice F z y, .slice B A aj⟩ o (.map none) gM wr)) (λar _=>z-(intOf ar).toNat)
 case atStart=>exact⟨0,yJ,rfl,aD _,bN,bO,bP⟩
 case round=>
  obtain⟨j,o,rfl,bf,Z,u,ac⟩:=hrel;by_cases hlt:j<z
  ·have aU:(j:Int)<z:=Qa
   have au:j<ap.length:=by have:=bm.out;omega
   obtain⟨b,bu,rfl,aE,aF,R,ax⟩:=Di bL.out j au;have av:=x_ (g:=o) au;have K:=bM.out _ (ay au);obtain⟨ao,aM⟩: ∃ao,ap[j]=ao:=⟨_,rfl⟩
   rw[aM]at R ax av K;clear aM;obtain⟨nm,sz⟩:=ao;simp only at R ax K;have e0:=((aS.out _ u.out).cell _ aF aE).trans R;have bJ:=((aS.out _ u.out).cell _ aF aE).trans ax;have aN:=aa wr (.cells #[.string (ak nm), .int .i64 sz] 76);have ad:=G (ac.out.ext aN);have aL:=G (aq wr 76 #[.string (ak nm), .int .i64 sz]);have aJ:=G (u.out.alloc (.cells #[.string (ak nm), .int .i64 sz] 76));clear R ax aN
   cases hkn:o.known gM nm with
   |true=>
    have af:=G (show V= .error (nm,9) by rw[<-Z.out,av];simp only[hkn,if_true];rfl);go_wp2_with (first|(go_at_call 64;refine(eA _ o _ gM _ ad.out nm K).mono ?_;rw[hkn];rintro e ag ⟨rfl,d⟩;have ab:=G (aJ.out.trans (.of_ext d));have M:=(aL.out.ext d).cell;clear d)|(go_at_call 65;refine(ew nm 9 _).mono ?_;unfold bh;rintro e ag ⟨rfl,d⟩;have aC:=G (ab.out.trans (.of_ext d));clear d));exact⟨rfl,by rw[af.out];exact⟨aC.out,rfl⟩⟩
   |false=>
    have aW:qV o (ap.drop j)=qV (o.addV ⟨nm,sz⟩) (ap.drop (j+1)):=by rw[av];simp only[hkn,aQ,if_false]
    by_cases hz:0<sz
    ·have bv:decide (0<sz)=true:=decide_eq_true hz;go_wp2_with (go_at_call 64;refine(eA _ o _ gM _ ad.out nm K).mono ?_;rw[hkn];rintro e ag ⟨rfl,d⟩;have ab:=G (aJ.out.trans (.of_ext d));have an:=G (aL.out.ext d);have M:=an.out.cell;have al:=G (ad.out.ext d);clear d);refine aB 8 1 [] mixed Qb trivial ?_;repeat (refine sx ?_ (λbe J=> ?_) ?_;rotate_left;(focus have M:=(an.out.ext J.un).cell;have bk:=(al.out.ext J.un).blk.cell;clear J;go_simp<;>with_reducible rfl);simp only[bA,bx,bw,br,bo])
     intro bd H _;simp only[ae,aw];have am:=G (al.out.ext H.un);have aR:=G (ab.out.trans (.of_ext H.un));clear H M;go_wp2_with (at_mapUpdate;refine eU wu rfl _ _ _ rfl am.out.a rfl Qj rfl _ rfl ?_;intro bc ah I;have aT:=G (am.out.addA (v:=⟨nm,sz⟩) a9.out hz ah I);have aP:=G (aR.out.trans (.of_grown I (λk e=>by injection e with e;exact .inr (.inl e.symm))));clear ah I);go_roundw
     case rel=>exact⟨j+1,o.addV ⟨nm,sz⟩,by go_num,by omega,G (by rw[<-aW];exact Z.out),aP,aT⟩
     case measure=>simp[intOf];omega
    ·have bv:decide (0<sz)=false:=decide_eq_false hz;go_wp2_with (go_at_call 64;refine(eA _ o _ gM _ ad.out nm K).mono ?_;rw[hkn];rintro e ag ⟨rfl,d⟩;have ab:=G (aJ.out.trans (.of_ext d));have an:=G (aL.out.ext d);have M:=an.out.cell;have al:=G (ad.out.ext d);clear d);refine aB 6 1 [] mixed Qb trivial ?_;repeat (refine sx ?_ (λbe J=> ?_) ?_;rotate_left;(focus have M:=(an.out.ext J.un).cell;have bk:=(al.out.ext J.un).blk.cell;clear J;go_simp<;>with_reducible rfl);simp only[bA,bx,bw,br,bo])
     intro bd H _;simp only[ae,aw];have am:=G (al.out.ext H.un);have aR:=G (ab.out.trans (.of_ext H.un));clear H M;go_wp2_with (at_mapUpdate;refine eU Ff rfl _ _ _ rfl am.out.i rfl Qj rfl _ rfl ?_;intro bc ah I;have aT:=G (am.out.addI (v:=⟨nm,sz⟩) a9.out (show ¬0<sz by omega) ah I);have aP:=G (aR.out.trans (.of_grown I (λk e=>by injection e with e;exact .inl e.symm)));clear ah I);go_roundw
     case rel=>exact⟨j+1,o.addV ⟨nm,sz⟩,by go_num,by omega,G (by rw[<-aW];exact Z.out),aP,aT⟩
     case measure=>simp[intOf];omega
  ·have aU: ¬(j:Int)<z:=Qa
   have bl:=G (show CR.then (pz o (ai.drop 0)) x'=V by
    have:=Z.out;rw[aK (l:=ap) (by have:=bm.out;omega),qV,fI]at this
    exact this)
   have aV:=ac.out.blk.cell;go_wp2_with fail;clear aV
   go_loopw [49] (λar wr=> ∃(j:Nat) (o:Gl),ar= .int .i64 (j:Int)/\j<=A/\Hid (CR.then (pz o (ai.drop j)) x'=V)/\Hid (Mv (CB.S ⟨g,aG,aI,az, .slice F z y, .slice B A aj⟩) w wr)/\Hid (CK ⟨g,aG,aI,az, .slice F z y, .slice B A aj⟩ o (.map none) gM wr)) (λar _=>A-(intOf ar).toNat)
   case atStart=>exact⟨0,o,rfl,aD _,bl,u,ac⟩
   case round=>
    clear Z u ac bl hlt aU bf;obtain⟨j,o,rfl,bf,Z,u,ac⟩:=hrel;by_cases hlt:j<A
    ·have aU:(j:Int)<A:=Qa
     have au:j<ai.length:=by have:=bn.out;omega
     obtain⟨b,bu,bS,bU,rfl,aE,aF,R,ax,bj,a4,aX⟩:=nu bQ.out j au;have av:=ya (g:=o) au;have K:=bR.out _ (ay au);obtain⟨ao,aM⟩: ∃ao,ai[j]=ao:=⟨_,rfl⟩
     rw[aM]at R a4 aX av K;clear aM;obtain⟨nm,ps,aH⟩:=ao;simp only at R a4 aX K;obtain⟨ba,a7,rfl,_⟩:=a4;obtain⟨bb,a8,rfl,_⟩:=aX.form;have e0:=((aS.out _ u.out).cell _ aF aE).trans R;have bJ:=((aS.out _ u.out).cell _ aF aE).trans ax;have bT:=((aS.out _ u.out).cell _ aF aE).trans bj;have aN:=aa wr (.cells #[.string (ak nm), .slice ba ps.length a7, .slice bb aH.length a8] 81);have ad:=G (ac.out.ext aN);have aL:=G (aq wr 81 #[.string (ak nm), .slice ba ps.length a7, .slice bb aH.length a8]);have aJ:=G (u.out.alloc (.cells #[.string (ak nm), .slice ba ps.length a7, .slice bb aH.length a8] 81));clear R ax bj aN aX
     cases hkn:o.known gM nm with
     |true=>
      have af:=G (show V= .error (nm,9) by rw[<-Z.out,av];simp only[hkn,if_true];rfl);go_wp2_with (first|(go_at_call 64;refine(eA _ o _ gM _ ad.out nm K).mono ?_;rw[hkn];rintro e ag ⟨rfl,d⟩;have ab:=G (aJ.out.trans (.of_ext d));have M:=(aL.out.ext d).cell;clear d)|(go_at_call 65;refine(ew nm 9 _).mono ?_;unfold bh;rintro e ag ⟨rfl,d⟩;have aC:=G (ab.out.trans (.of_ext d));clear d));exact⟨rfl,by rw[af.out];exact⟨aC.out,rfl⟩⟩
     |false=>
      have aW:pz o (ai.drop j)=pz (o.addF ⟨nm,ps,aH⟩) (ai.drop (j+1)):=by rw[av];simp only[hkn,aQ,if_false]
      go_wp2_with (go_at_call 64;refine(eA _ o _ gM _ ad.out nm K).mono ?_;rw[hkn];rintro e ag ⟨rfl,d⟩;have ab:=G (aJ.out.trans (.of_ext d));have an:=G (aL.out.ext d);have M:=an.out.cell;have al:=G (ad.out.ext d);clear d);refine aB 9 1 [] mixed Qb trivial ?_;repeat (refine sx ?_ (λbe J=> ?_) ?_;rotate_left;(focus have M:=(an.out.ext J.un).cell;have bk:=(al.out.ext J.un).blk.cell;clear J;go_simp<;>with_reducible rfl);simp only[bA,bx,bw,br,bo])
      intro bd H _;simp only[ae,aw];have am:=G (al.out.ext H.un);have aR:=G (ab.out.trans (.of_ext H.un));clear H M;go_wp2_with (at_mapUpdate;refine eU wu rfl _ _ _ rfl am.out.f rfl Qj rfl _ rfl ?_;intro bc ah I;have aT:=G (am.out.addF (f:=⟨nm,ps,aH⟩) a9.out ah I);have aP:=G (aR.out.trans (.of_grown I (λk e=>by injection e with e;exact .inr (.inr e.symm))));clear ah I);go_roundw
      case rel=>exact⟨j+1,o.addF ⟨nm,ps,aH⟩,by go_num,by omega,G (by rw[<-aW];exact Z.out),aP,aT⟩
      case measure=>simp[intOf];omega
    ·have aU: ¬(j:Int)<A:=Qa
     have aA:=G (show x' o=V by
      have:=Z.out;rw[aK (by have:=bn.out;omega),pz,fI]at this
      exact this)
     have aV:=ac.out.blk.cell;have a1:(Instr.lookup 88 (.map (some az)) (.string ⟨#[109,97,105,110]⟩) true).run prog wr= .ok (.tuple #[.int .i64 (((o.fn dv).getD 0:Nat):Int), .bool (o.fn dv).isSome]) wr:=ac.out.lookF (s:=dv) Qd;unfold x' at aA
     cases hfm:o.fn dv with
     |none=>
      rw[hfm]at aA a1;simp only[fi,dQ]at a1;have af:=G aA.out.symm;go_wp2_with (go_at_call 65;refine(show Calls prog 65 #[.string ⟨#[109,97,105,110]⟩, .int .i64 8] _ _ from ew dv 8 _).mono ?_;unfold bh;rintro e ag ⟨rfl,d⟩;have aC:=G (u.out.trans (.of_ext d));clear d);exact⟨rfl,by rw[af.out];exact⟨aC.out,rfl⟩⟩
     |some n=>
      rw[hfm]at aA a1;simp only[bX,dC]at a1 aA;by_cases hn:0<n
      ·have bC:(0:Int)<n:=Qa
       have af:=G (show V= .error (dv,16) by rw[<-aA.out,if_pos hn]);go_wp2_with (go_at_call 65;refine(show Calls prog 65 #[.string ⟨#[109,97,105,110]⟩, .int .i64 16] _ _ from ew dv 16 _).mono ?_;unfold bh;rintro e ag ⟨rfl,d⟩;have aC:=G (u.out.trans (.of_ext d));clear d);exact⟨rfl,by rw[af.out];exact⟨aC.out,rfl⟩⟩
      ·have bC: ¬(0:Int)<n:=Qa
       have af:=G (show V= .ok o by rw[<-aA.out,if_neg hn]);go_wp2_with fail;exact bodyPost_end (results_none rfl _ _ _) rfl (by rw[af.out];exact⟨u.out,rfl,ac.out⟩)
mutual
theorem D0: ∀s:St,oI s<=s.wt
 | .mk k nm e b l=>by
  have:=mf b;have:=mf l;rw[oI,St.wt];split<;>omega
theorem mf: ∀l:List St,cN l<=gd l
 | []=>by simp[cN]
 |s::r=>by
  have:=D0 s;have:=mf r;rw[cN,gd];omega
end
theorem y' {l:List St} {j:Nat} (a:j<l.length):cN (l.drop j)=oI l[j]+cN (l.drop (j+1)):=by
 rw[ap a,cN]
def Iz (xs:List St):Prop:= ∀(P:Nat->Prop) (w:World) (A:Option Addr) (n c:Nat),ed w P (.slice A n c) xs->Calls prog 67 #[.slice A n c] w λe w'=>e= .returned (.int .i64 (cN xs:Int))/\au w w'
theorem uN (xs:List St) (bz:gd xs<=1073741824) (aX: ∀s∈xs,Iz s.body/\Iz s.els):Iz xs:=by
 intro P w bL n c aQ;obtain⟨bK,c',bg,bj⟩:=aQ.form;injection bg with bf be bd;subst bf be bd;have bi:=fd xs;have bk:=mf xs;have a5:=G aQ;have bq:=G aX;obtain⟨N,ap⟩: ∃N,xs.length=N:=⟨_,rfl⟩
 have a7:=G ap;rw[ap]at a5 bi;obtain⟨aA,aP⟩: ∃bl,cN xs=bl:=⟨_,rfl⟩
 have bn:=G (show 0+cN (xs.drop 0)=aA by rw[<-aP];simp);have bm:=G (aG w);have bD:aA<=1073741824:=Qa
 rw[ap,aP];clear aQ bj aX ap aP bk;go_enter func67,ntmps67;go_wp2_with fail
 go_loopw [3,8] (λbb aH wr=> ∃(j m:Nat),aH= .int .i64 (j:Int)/\bb= .int .i64 (m:Int)/\j<=N/\Hid (m+cN (xs.drop j)=aA)/\Hid (au w wr)) (λ_ aH _=>N-(intOf aH).toNat)
 case atStart=>exact⟨0,0,rfl,rfl,aD _,bn,bm⟩
 case round=>
  obtain⟨j,m,rfl,rfl,bC,a6,J⟩:=hrel;by_cases hlt:j<N
  ·have bh:(j:Int)<N:=Qa
   have aJ:j<xs.length:=by have:=a7.out;omega
   obtain⟨b,bt,e,bJ,lv,rfl,u,bE,ax,av,a2,a1,aZ,ao,ab,Z⟩:=a5.out.at_ j aJ;have an:=y' aJ;have ar:=bq.out _ (ay aJ);obtain⟨aE,aW⟩: ∃aE,xs[j]=aE:=⟨_,rfl⟩
   rw[aW]at ax av ao ab Z an ar;clear aW;obtain⟨k,nm,az,ag,ad⟩:=aE;simp only[St.k,St.nm,St.ex,St.body,St.els]at ax av ao ab Z ar;rw[oI]at an;have am:=a6.out;rw[an]at am;have e0:=(J.out.cell b _ u).trans ax;have bI:=(J.out.cell b _ u).trans av;have bH:=(J.out.cell b _ u).trans a2;have bG:=(J.out.cell b _ u).trans a1;have bF:=(J.out.cell b _ u).trans aZ;obtain⟨aC,c1,rfl,_⟩:=ao.form;obtain⟨aj,c2,rfl,_⟩:=ab.form;obtain⟨ai,af,rfl,_⟩:=Z.form;have aY:=aa wr (.cells #[.int .i64 k, .string (ak nm), .slice aC az.length c1, .slice aj ag.length c2, .slice ai ad.length af] 147);have M:=G (aq wr 147 #[.int .i64 k, .string (ak nm), .slice aC az.length c1, .slice aj ag.length c2, .slice ai ad.length af]);have aB:=G (J.out.trans aY);have a4:=G (ab.keep (.of_ext aB.out) (Q:=P) (λb u _=>u));have a3:=G (Z.keep (.of_ext aB.out) (Q:=P) (λb u _=>u));have aV:=G ar;obtain⟨o,aN⟩: ∃aS,cN ag=aS:=⟨_,rfl⟩
   obtain⟨d,aM⟩: ∃aS,cN ad=aS:=⟨_,rfl⟩
   rw[aN,aM]at am;have a9:=G (λW (aR:au (wr.alloc (.cells #[.int .i64 k, .string (ak nm), .slice aC az.length c1, .slice aj ag.length c2, .slice ai ad.length af] 147)) W)=>aN▸aV.out.1 P W aj _ c2 (a4.out.keep (.of_ext aR) (Q:=P) (λb u _=>u)));have a8:=G (λW (aR:au (wr.alloc (.cells #[.int .i64 k, .string (ak nm), .slice aC az.length c1, .slice aj ag.length c2, .slice ai ad.length af] 147)) W)=>aM▸aV.out.2 P W ai _ af (a3.out.keep (.of_ext aR) (Q:=P) (λb u _=>u)));have aU:=G am;clear ax av a2 a1 aZ ao ab Z ar aY a4 a3 aV aN aM an am;have K:m+(if k=1 then 1 else 0)+(o+d)<=1073741824:=by have:=aU.out;omega
   have V: ∀al:Nat,al<=1073741824->IntKind.i64.wrap (al:Int)=al:=λal bu=>by simp[IntKind.wrap,IntKind.signed,IntKind.bits];omega
   have bv:IntKind.i64.wrap ((o:Int)+(d:Int))=((o+d:Nat):Int):=by rw[<-Int.natCast_add];exact V _ Qa
   by_cases hk:k=1
   ·subst hk;have K:m+1+(o+d)<=1073741824:=by simpa using K
    have bc:IntKind.i64.wrap ((m:Int)+1+((o+d:Nat):Int))=((m+1+(o+d):Nat):Int):=by rw[<-V (m+1+(o+d)) K];congr 1
    clear V;go_wp2_with fail;refine dA 9 4 [(3,λv=>v= .int .i64 (o:Int),λ_ _=>True),(6,λv=>v= .int .i64 (d:Int),λ_ _=>True)] [] [1,4] mixed Qb Qb Qb Qf ⟨λ_ _ _ _ _=>trivial,λ_ _ _ _ _=>trivial,trivial⟩ (λi aL=>by cases aL) ?_;repeat (first|(refine bS Qf ?_;simp only[bA,bx,bw,br,bo])|(refine sx ?_ (λR a=> ?_) ?_;rotate_left;(focus have ac:=(M.out.ext a.un).cell;clear a;go_simp<;>with_reducible rfl);simp only[bA,bx,bw,br,bo]))
    refine so (λA a z ah y=> ?_) ?_
    ·have H:=a9.out A a.un;clear z a;go_simp;refine H.mono ?_;rintro e aF ⟨rfl,I⟩;exact y _ _ I rfl trivial
    rintro _ rfl;simp only[bA,bx,bw,br,bo];repeat (first|(refine bS Qf ?_;simp only[bA,bx,bw,br,bo])|(refine sx ?_ (λR a=> ?_) ?_;rotate_left;(focus have ac:=(M.out.ext a.un).cell;clear a;go_simp<;>with_reducible rfl);simp only[bA,bx,bw,br,bo]))
    refine so (λA a z ah y=> ?_) ?_
    ·have H:=a8.out A a.un;clear z a;go_simp;refine H.mono ?_;rintro e aF ⟨rfl,I⟩;exact y _ _ I rfl trivial
    rintro _ rfl;simp only[bA,bx,bw,br,bo];repeat (first|(refine bS Qf ?_;simp only[bA,bx,bw,br,bo])|(refine sx ?_ (λR a=> ?_) ?_;rotate_left;(focus have ac:=(M.out.ext a.un).cell;clear a;go_simp<;>with_reducible rfl);simp only[bA,bx,bw,br,bo]))
    intro ba F z aI;clear z aI;simp only[ae,aw];have aT:=G (aB.out.trans F.un);refine aO Qf Qe (λah y=> ?_);go_simp;refine y _ _ F ?_;clear y F;refine cL ?_;go_wp2_with fail;go_roundw
    case rel=>exact⟨j+1,m+1+(o+d),by go_num,congrArg (Value.int .i64) Qc,by omega,G (by have:=aU.out;simp only[if_true]at this;omega),aT⟩
    case measure=>simp[intOf];omega
   ·have bB:=Qn.2 hk;have K:m+(o+d)<=1073741824:=by simpa[hk]using K
    have bc:IntKind.i64.wrap ((m:Int)+((o+d:Nat):Int))=((m+(o+d):Nat):Int):=by rw[<-V (m+(o+d)) K];congr 1
    clear V;go_wp2_with fail;refine dA 9 4 [(3,λv=>v= .int .i64 (o:Int),λ_ _=>True),(6,λv=>v= .int .i64 (d:Int),λ_ _=>True)] [] [1,4] mixed Qb Qb Qb Qf ⟨λ_ _ _ _ _=>trivial,λ_ _ _ _ _=>trivial,trivial⟩ (λi aL=>by cases aL) ?_;repeat (first|(refine bS Qf ?_;simp only[bA,bx,bw,br,bo])|(refine sx ?_ (λR a=> ?_) ?_;rotate_left;(focus have ac:=(M.out.ext a.un).cell;clear a;go_simp<;>with_reducible rfl);simp only[bA,bx,bw,br,bo]))
    refine so (λA a z ah y=> ?_) ?_
    ·have H:=a9.out A a.un;clear z a;go_simp;refine H.mono ?_;rintro e aF ⟨rfl,I⟩;exact y _ _ I rfl trivial
    rintro _ rfl;simp only[bA,bx,bw,br,bo];repeat (first|(refine bS Qf ?_;simp only[bA,bx,bw,br,bo])|(refine sx ?_ (λR a=> ?_) ?_;rotate_left;(focus have ac:=(M.out.ext a.un).cell;clear a;go_simp<;>with_reducible rfl);simp only[bA,bx,bw,br,bo]))
    refine so (λA a z ah y=> ?_) ?_
    ·have H:=a8.out A a.un;clear z a;go_simp;refine H.mono ?_;rintro e aF ⟨rfl,I⟩;exact y _ _ I rfl trivial
    rintro _ rfl;simp only[bA,bx,bw,br,bo];repeat (first|(refine bS Qf ?_;simp only[bA,bx,bw,br,bo])|(refine sx ?_ (λR a=> ?_) ?_;rotate_left;(focus have ac:=(M.out.ext a.un).cell;clear a;go_simp<;>with_reducible rfl);simp only[bA,bx,bw,br,bo]))
    intro ba F z aI;clear z aI;simp only[ae,aw];have aT:=G (aB.out.trans F.un);refine aO Qf Qe (λah y=> ?_);go_simp;refine y _ _ F ?_;clear y F;refine cL ?_;go_wp2_with fail;go_roundw
    case rel=>exact⟨j+1,m+(o+d),by go_num,congrArg (Value.int .i64) Qc,by omega,G (by have:=aU.out;rw[if_neg hk]at this;omega),aT⟩
    case measure=>simp[intOf];omega
  ·have bh: ¬(j:Int)<N:=Qa
   have bp:=G (show m=aA by
    have:=a6.out;rw[aK (by have:=a7.out;omega),cN]at this
    omega)
   go_wp2_with fail;go_ret;exact⟨by rw[<-bp.out];rfl,J.out⟩
theorem kK: ∀(m:Nat) (xs:List St),gd xs<=m->gd xs<=1073741824->Iz xs
 |0,xs,h,hw=>uN xs hw (λs a=>by have:=cI a;have:=s.wt_eq;omega)
 |m+1,xs,h,hw=>uN xs hw (λs a=>⟨kK m s.body (by have:=cI a;have:=s.wt_eq;omega) (by have:=cI a;have:=s.wt_eq;omega),kK m s.els (by have:=cI a;have:=s.wt_eq;omega) (by have:=cI a;have:=s.wt_eq;omega)⟩)
end
section
open Go.RowKit
theorem BH (xs:List St) (a:gd xs<=1073741824):Iz xs:=kK _ xs (ah _) a
theorem pV (nm:List UInt8) (ps:List (List UInt8)) (a:List St) (an:gd a<=6000000) (y:ps.length<=6000000) (P:Nat->Prop) (w:World) (z B:Option Addr) (c o:Nat) (I:ed w P (.slice B a.length o) a):
  Calls prog 35 #[.agg #[.string (ak nm), .slice z ps.length c, .slice B a.length o]] w λe w'=>e= .returned (.int .i64 (jx ⟨nm,ps,a⟩:Int))/\au w w':=by
 have F:=aa w (.cells #[.string (ak nm), .slice z ps.length c, .slice B a.length o] 81);have ai:=G F;have J:=G (aq w 81 #[.string (ak nm), .slice z ps.length c, .slice B a.length o]);have V:=mf a;obtain⟨q,u⟩: ∃q,cN a=q:=⟨_,rfl⟩
 have aj:=G (λW (ad:au (w.alloc (.cells #[.string (ak nm), .slice z ps.length c, .slice B a.length o] 81)) W)=>u▸BH a Qa P W B _ o ((I.keep (.of_ext F) (Q:=P) (λb A _=>A)).keep (.of_ext ad) (Q:=P) (λb A _=>A)));have ah:=G (show jx ⟨nm,ps,a⟩=4*(8+ps.length+q) by rw[<-u];rfl);rw[u]at V;generalize ps.length=n at*;generalize a.length=m at*;clear I F u;go_enter func35,ntmps35;go_wp2_with fail;refine aB 10 3 [(6,λv=>v= .int .i64 (q:Int),λ_ _=>True)] mixed Qb ⟨λ_ _ _ _ _=>trivial,trivial⟩ ?_;repeat (first|(refine bS Qf ?_;simp only[bA,bx,bw,br,bo])|(refine sx ?_ (λR d=> ?_) ?_;rotate_left;(focus have af:=(J.out.ext d.un).cell;clear d;go_simp<;>with_reducible rfl);simp only[bA,bx,bw,br,bo]))
 refine so (λM d y ao ab=> ?_) ?_
 ·have Z:=aj.out M d.un;clear y d;go_simp;refine Z.mono ?_;rintro e am ⟨rfl,ac⟩;exact ab _ _ ac rfl trivial
 rintro _ rfl;simp only[bA,bx,bw,br,bo];repeat (first|(refine bS Qf ?_;simp only[bA,bx,bw,br,bo])|(refine sx ?_ (λR d=> ?_) ?_;rotate_left;(focus have af:=(J.out.ext d.un).cell;clear d;go_simp<;>with_reducible rfl);simp only[bA,bx,bw,br,bo]))
 intro al H y;clear y;simp only[ae,aU];have ag:=G (ai.out.trans H.un);clear H;go_wp2_with fail;go_ret;refine⟨congrArg (λK=>Ending.returned (.int .i64 K)) ?_,ag.out⟩;rw[ah.out];simp[IntKind.wrap,IntKind.signed,IntKind.bits];omega
def IQ (xs:List St):Prop:= ∀(P:Nat->Prop) (w:World) (A:Option Addr) (n c:Nat),BT w->ed w P (.slice A n c) xs->Calls prog 68 #[.slice A n c] w λe w'=>e= .returned (.bool (nB xs))/\au w w'
theorem Ba {l:List St} {j:Nat} (a:j<l.length):nB (l.drop j)=(Jl l[j]||nB (l.drop (j+1))):=by
 rw[ap a,nB]
theorem Cs {l:List Ex} {j:Nat} (d:j<l.length):(l.drop j).any (λa=>decide (7<eh a))=(decide (7<eh l[j])||(l.drop (j+1)).any (λa=>decide (7<eh a))):=by
 rw[ap d,iu]
theorem uu (xs:List St) (bL:gd xs<=1073741824) (aU: ∀s∈xs,IQ s.body/\IQ s.els):IQ xs:=by
 intro P w bY n c aT aI;obtain⟨bX,c',bl,bq⟩:=aI.form;injection bl with bk bj bi;subst bk bj bi;have bp:=fd xs;have aN:=G aI;have be:=G aU;have aB:=G aT;have a5:=G (λs (bm:s∈xs)=>show gD s.ex<=1073741824 by have:=cI bm;have:=s.wt_eq;omega);obtain⟨N,ap⟩: ∃N,xs.length=N:=⟨_,rfl⟩
 have bc:=G ap;rw[ap]at aN bp;obtain⟨z,aF⟩: ∃bt,nB xs=bt:=⟨_,rfl⟩
 have bB:=G (show nB (xs.drop 0)=z from aF);have bv:=G (aG w);rw[ap,aF];clear aI bq aU ap aF aT;go_enter func68,ntmps68;go_wp2_with fail
 go_loopw [9] (λM wr=> ∃(j:Nat),M= .int .i64 (j:Int)/\j<=N/\Hid (nB (xs.drop j)=z)/\Hid (au w wr)) (λM _=>N-(intOf M).toNat)
 case atStart=>exact⟨0,rfl,aD _,bB,bv⟩
 case round=>
  obtain⟨j,rfl,bM,ba,V⟩:=hrel;generalize wr=aj at*;by_cases hlt:j<N
  ·have bn:(j:Int)<N:=Qa
   have am:j<xs.length:=by have:=bc.out;omega
   obtain⟨b,bK,e,bV,lv,rfl,o,bO,aw,av,aL,aX,aW,ab,ag,af⟩:=aN.out.at_ j am;have ao:=Ba am;have ar:=be.out _ (ay am);have an:=a5.out _ (ay am);obtain⟨a,aS⟩: ∃a,xs[j]=a:=⟨_,rfl⟩
   rw[aS]at aw av ab ag af ao ar an;clear aS;obtain⟨k,nm,F,K,J⟩:=a;simp only[St.k,St.nm,St.ex,St.body,St.els]at aw av ab ag af ar an;rw[Jl]at ao;have bx:=G (ba.out.symm.trans ao);obtain⟨H,aJ⟩: ∃m,F.length=m:=⟨_,rfl⟩
   obtain⟨aC,c1,rfl,_⟩:=ab.form;obtain⟨ai,c2,rfl,_⟩:=ag.form;obtain⟨ae,ac,rfl,_⟩:=af.form;rw[aJ]at aL ab;have bd:=G aJ;have bQ:H<=1073741824:=by have:=eg F;omega
   have e0:=(V.out.cell b _ o).trans aw;have bU:=(V.out.cell b _ o).trans av;have bT:=(V.out.cell b _ o).trans aL;have bS:=(V.out.cell b _ o).trans aX;have bR:=(V.out.cell b _ o).trans aW;have aV:=aa aj (.cells #[.int .i64 k, .string (ak nm), .slice aC H c1, .slice ai K.length c2, .slice ae J.length ac] 147);have aR:=G (aq aj 147 #[.int .i64 k, .string (ak nm), .slice aC H c1, .slice ai K.length c2, .slice ae J.length ac]);have ad:=G (V.out.trans aV);have bz:=G (ab.keep (.of_ext ad.out) (Q:=P) (λb o _=>o));have bA:=G (ag.keep (.of_ext ad.out) (Q:=P) (λb o _=>o));have a8:=G (af.keep (.of_ext ad.out) (Q:=P) (λb o _=>o));have aP:=G ar;have bw:=G an;have bC:=G (show(((F.drop 0).any (λa=>decide (7<eh a))||(nB K||nB J))||nB (xs.drop (j+1)))=z from bx.out.symm);have bu:=G (aG (aj.alloc (.cells #[.int .i64 k, .string (ak nm), .slice aC H c1, .slice ai K.length c2, .slice ae J.length ac] 147)));clear aw av aL aX aW ab ag af ar ao aV aJ an aN be a5;go_wp2_with fail
   go_loopw [16] (λM wr=> ∃(i:Nat),M= .int .i64 (i:Int)/\i<=H/\Hid ((((F.drop i).any (λa=>decide (7<eh a))||(nB K||nB J))||nB (xs.drop (j+1)))=z)/\Hid (au (aj.alloc (.cells #[.int .i64 k, .string (ak nm), .slice aC H c1, .slice ai K.length c2, .slice ae J.length ac] 147)) wr)) (λM _=>H-(intOf M).toNat)
   case atStart=>exact⟨0,rfl,aD _,bC,bu⟩
   case round=>
    obtain⟨i,rfl,bN,aO,y⟩:=hrel;by_cases hli:i<H
    ·have bo:(i:Int)<H:=Qa
     have aE:i<F.length:=by have:=bd.out;omega
     obtain⟨b2,bJ,bW,rfl,Z,bP,a4,a3,a2,a1,aZ,aY,aH⟩:=bz.out.at_ i aE;have a7:=G (Cs aE);have bg:=em (ay aE);have bh:=jg F[i];have bb:=G (rt _ F[i] (ah _) (by have:=bw.out;omega));generalize F[i]=a at*;have bI:=(y.out.cell b2 _ Z).trans a4;have bH:=(y.out.cell b2 _ Z).trans a3;have bG:=(y.out.cell b2 _ Z).trans a2;have bF:=(y.out.cell b2 _ Z).trans a1;have bE:=(y.out.cell b2 _ Z).trans aZ;have bD:=(y.out.cell b2 _ Z).trans aY;obtain⟨B,az,rfl,_⟩:=aH.form;have a9:=G ((aH.keep (.of_ext y.out) (Q:=P) (λb o _=>o)).keep (.of_ext (aa _ (.cells #[.int .i64 a.k, .string (ak a.op), .string (ak a.nm), .string (ak a.tx), .int .i64 a.v, .slice B a.args.length az] 206))) (Q:=P) (λb o _=>o));have a6:=G (((aB.out.ext ad.out).ext y.out).ext (aa wr (.cells #[.int .i64 a.k, .string (ak a.op), .string (ak a.nm), .string (ak a.tx), .int .i64 a.v, .slice B a.args.length az] 206)));clear a4 a3 a2 a1 aZ aY aH bg bh;by_cases h7:7<eh a
     ·have br:(7:Int)<(eh a:Int):=Qa
      have u:=G (show z=true by rw[<-aO.out,a7.out,decide_eq_true h7];rfl);go_wp2_with (go_at_call 127;refine(bb.out P _ B _ az a9.out a6.out).mono ?_;rintro e al ⟨rfl,d⟩;have A:=G (((ad.out.trans y.out).alloc' _).trans d);clear d);go_ret;exact⟨by rw[u.out];rfl,A.out⟩
     ·have br: ¬(7:Int)<(eh a:Int):=Qa
      have u:=G (show(((F.drop (i+1)).any (λa=>decide (7<eh a))||(nB K||nB J))||nB (xs.drop (j+1)))=z by rw[<-aO.out,a7.out,decide_eq_false h7];rfl);go_wp2_with (go_at_call 127;refine(bb.out P _ B _ az a9.out a6.out).mono ?_;rintro e al ⟨rfl,d⟩;have A:=G ((y.out.alloc' _).trans d);clear d);go_roundw
      case rel=>exact⟨i+1,by go_num,by omega,u,A⟩
      case measure=>simp[intOf];omega
    ·have bo: ¬(i:Int)<H:=Qa
     have u:=G (show((nB K||nB J)||nB (xs.drop (j+1)))=z by
      have:=aO.out;rw[aK (l:=F) (by have:=bd.out;omega)]at this
      exact this)
     have ax:=(aR.out.ext y.out).cell;have aA:=G (ad.out.trans y.out);have I:=aP.out.1 P wr ai _ c2 (aB.out.ext aA.out) (bA.out.keep (.of_ext y.out) (Q:=P) (λb o _=>o));have I:=G I
     cases hr1:nB K with
     |true=>
      rw[hr1]at u I;have u:=G (show z=true from u.out.symm);go_wp2_with (go_at_call 68;refine I.out.mono ?_;rintro e al ⟨rfl,d⟩;have A:=G (aA.out.trans d);clear d I);go_ret;exact⟨by rw[u.out];rfl,A.out⟩
     |false=>
      rw[hr1]at u I
      cases hr2:nB J with
      |true=>
       rw[hr2]at u;have u:=G (show z=true from u.out.symm);go_wp2_with (first|(go_at_call 68;refine I.out.mono ?_;clear I;rintro e al ⟨rfl,d⟩;have A:=G (aA.out.trans d);have aQ:=G d;clear ax;have ax:=(aR.out.ext (y.out.trans d)).cell;clear d)|(go_at_call 68;have R:=aP.out.2 P _ ae _ ac (aB.out.ext A.out) (a8.out.keep (.of_ext (y.out.trans aQ.out)) (Q:=P) (λb o _=>o));rw[hr2]at R;refine R.mono ?_;clear R;rintro e bf ⟨rfl,d⟩;have aM:=G (A.out.trans d);clear d));go_ret;exact⟨by rw[u.out];rfl,aM.out⟩
      |false=>
       rw[hr2]at u;have u:=G (show nB (xs.drop (j+1))=z from u.out);go_wp2_with (first|(go_at_call 68;refine I.out.mono ?_;clear I;rintro e al ⟨rfl,d⟩;have A:=G (aA.out.trans d);have aQ:=G d;clear ax;have ax:=(aR.out.ext (y.out.trans d)).cell;clear d)|(go_at_call 68;have R:=aP.out.2 P _ ae _ ac (aB.out.ext A.out) (a8.out.keep (.of_ext (y.out.trans aQ.out)) (Q:=P) (λb o _=>o));rw[hr2]at R;refine R.mono ?_;clear R;rintro e bf ⟨rfl,d⟩;have aM:=G (A.out.trans d);clear d));go_roundw
       case rel=>exact⟨j+1,by go_num,by omega,u,aM⟩
       case measure=>simp[intOf];omega
  ·have bn: ¬(j:Int)<N:=Qa
   have u:=G (show z=false by
    have:=ba.out;rw[aK (by have:=bc.out;omega),nB]at this
    exact this.symm)
   go_wp2_with fail;go_ret;exact⟨by rw[u.out];rfl,V.out⟩
theorem mH: ∀(m:Nat) (xs:List St),gd xs<=m->gd xs<=1073741824->IQ xs
 |0,xs,h,hw=>uu xs hw (λs a=>by have:=cI a;have:=s.wt_eq;omega)
 |m+1,xs,h,hw=>uu xs hw (λs a=>⟨mH m s.body (by have:=cI a;have:=s.wt_eq;omega) (by have:=cI a;have:=s.wt_eq;omega),mH m s.els (by have:=cI a;have:=s.wt_eq;omega) (by have:=cI a;have:=s.wt_eq;omega)⟩)
theorem uS {d a h:Type} (x:Except Er d) (k:d->Except Er a) (l:a->Except Er h):CR.then (CR.then x k) l=CR.then x λo=>CR.then (k o) l:=by cases x<;>rfl
abbrev CB.U (X:CB) (k:Nat):Prop:=k=X.g\/X.S k
section
variable {X:CB} {gl:Gl} {lv:Value} {lo lo':Ls} {w W:World}
theorem CK.lt (d:CK X gl lv lo w):X.g<w.heap.size/\X.bi<w.heap.size/\X.ba<w.heap.size/\X.bf<w.heap.size:=⟨d.blk.lt,d.i.lt,d.a.lt,d.f.lt⟩
theorem sP {b:Nat} {t:TypeId} {h:Array Value} {L:KF} (d:aM w b t h) (a:cB w b L):False:=by
 obtain⟨es,c,a,_⟩:=a;unfold aM at d;rw[d]at a;cases a
theorem CK.newL (d:CK X gl lv lo w) (z:X.g≠1):CK X gl (.map (some w.heap.size)) gM ((w.alloc (.map #[] 0)).setCell ⟨X.g,5,none⟩ (.map (some w.heap.size))):=by
 obtain⟨I,H,G,F⟩:=d.lt;have h:=aa w (.map #[] 0);have y:X.bi≠X.g:=λe=>sP d.blk (e▸d.i);have ha:X.ba≠X.g:=λe=>sP d.blk (e▸d.a);have A:X.bf≠X.g:=λe=>sP d.blk (e▸d.f);have u:=kr w;refine⟨?_,(d.i.ext h).set y _,(d.a.ext h).set ha _,(d.f.ext h).set A _, .inr ⟨_,rfl,?_,by omega,by omega,by omega,by omega⟩,?_⟩
 ·have:=(d.blk.ext h).set 5 (.map (some w.heap.size));simpa using this
 ·refine(u.set (p:=⟨X.g,5,none⟩) (by show _≠X.g;omega) _).congr λs=> ?_;simp[F6,gM]
 ·obtain⟨t,fr,o⟩:=d.t.ext h;exact⟨t,fr,(Below.heap_setCell _ ⟨X.g,5,none⟩ _ _ (λe=>z e.symm)).trans o⟩
end
theorem zk {g:Gl} {lo:Ls} {l:List (List UInt8)} {j:Nat} (a:j<l.length):qD g lo (l.drop j)=if g.known lo l[j]=true then .error (l[j],9)else qD g (lo.add l[j]) (l.drop (j+1)):=by
 rw[ap a,qD]
theorem zl {g:Gl} {l:List Fc} {j:Nat} (a:j<l.length):oK g (l.drop j)=CR.then (qD g gM l[j].ps) λlo=>CR.then (iX g lo l[j].body) λ_=>oK g (l.drop (j+1)):=by
 rw[ap a,oK]
theorem wO {l:List Fc} {j:Nat} (a:j<l.length):i_ (l.drop j)=if 20<l[j].ps.length+cN l[j].body\/nB l[j].body=true then .error (l[j].nm,6)else i_ (l.drop (j+1)):=by
 rw[ap a,i_]
def JM (X:CB) (r:CR) (w:World) (e:Ending) (w':World):Prop:=Mv X.U w w'/\e=cG r
theorem z_ (p:Pg) (bG:oq p<=6000000) (X:CB) (bl:X.Ok) (bK:X.g≠1) (P:Nat->Prop) (w:World) (bM:pt w P X.sv p.vs) (a7:pE w P X.sf p.fs) (bn: ∀b,P b-> ¬X.U b) (aE:CK X yJ (.map none) gM w):
  Calls prog 30 #[X.p] w (JM X (uV p) w):=by
 have cg:= @run_makeMap prog;have a9:=G (x9 p bG X bl P w bM a7 (λb F cc=>bn b F (.inr cc)) aE);have ci:p.fs.length<=6000000:=by have:=sh p;omega
 have bZ:=G (λf (cp:f∈p.fs)=>show f.nm.length<=1073741824/\gd f.body<=6000000/\f.ps.length<=6000000/\ ∀I∈f.ps,I.length<=1073741824 by
  have am:=uk cp;have ag:=AP (f:=f);have bP:gd f.body<=f.wt:=by unfold Fc.wt;omega
  have bO:f.ps.length<=f.wt:=by
   have:=lC (λ_:List UInt8=>1) (λs=>s.length+1) f.ps (λv _=>by omega);rw[jj]at this;unfold Fc.wt;omega
  exact⟨by omega,by omega,by omega,λI aL=>by have:=Fb aL;omega⟩)
 obtain⟨M,bm⟩: ∃cB,uV p=cB:=⟨_,rfl⟩
 have bT:=G (show CR.then (zR p) (λg=>CR.then (oK g (p.fs.drop 0)) λ_=>i_ p.fs)=M from bm);rw[bm];clear bm bG;obtain⟨b6,z⟩:=p;generalize zR ⟨b6,z⟩=b7 at*;obtain⟨g,aF,aI,aH,aA,b8⟩:=X;simp only[CB.p]at*;obtain⟨H,a6⟩: ∃n,z.length=n:=⟨_,rfl⟩
 obtain⟨B,ao,cu⟩: ∃B ao,b8= .slice B H ao:=by obtain⟨cT,cz,J,_⟩:=a7;exact⟨cT,cz,by rw[J,a6]⟩
 subst cu;rw[a6]at ci;have bb:=G a6;have bY:=G (a7.keep (Q:=λb=>P b/\b<w.heap.size) ⟨ah _,λ_ _ _=>rfl⟩ (λb am ag=>⟨am,ag⟩));have ax:=G (λW (J:Mv (CB.U ⟨g,aF,aI,aH,aA, .slice B H ao⟩) w W)=>show dE (λb=>P b/\b<w.heap.size) w W from J.keepP (λk cl _=>bn k cl.1));have cY:=G bl;have cP:=G bK;clear bM a7 bn aE bl a6 bK
 cases b7 with
 |error q=>
  obtain⟨bf,m⟩:=q;have ad:=G (show M= .error (bf,m)from bT.out.symm);go_enter func30,ntmps30;go_wp2_with (go_at_call 63;refine a9.out.mono ?_;unfold JH bh;rintro e aR ⟨af,rfl⟩;have an:=G (af.mono (S':=CB.U ⟨g,aF,aI,aH,aA, .slice B H ao⟩) (λk _ J=> .inr J));clear af a9);exact⟨rfl,an.out,by rw[ad.out];rfl⟩
 |ok gl=>
  have cE:=G (show CR.then (oK gl (z.drop 0)) (λ_=>i_ z)=M from bT.out);go_enter func30,ntmps30;go_wp2_with (go_at_call 63;refine a9.out.mono ?_;unfold JH;rintro e aR ⟨af,rfl,bN⟩;have cJ:=G (af.mono (S':=CB.U ⟨g,aF,aI,aH,aA, .slice B H ao⟩) (λk _ J=> .inr J));have bX:=G bN;have A:=bX.out.blk.cell;clear af bN a9);clear A
  go_loopw [16] (λai wr=> ∃(j:Nat) (lv:Value) (lo:Ls),ai= .int .i64 (j:Int)/\j<=H/\Hid (CR.then (oK gl (z.drop j)) (λ_=>i_ z)=M)/\Hid (Mv (CB.U ⟨g,aF,aI,aH,aA, .slice B H ao⟩) w wr)/\Hid (CK ⟨g,aF,aI,aH,aA, .slice B H ao⟩ gl lv lo wr)) (λai _=>H-(intOf ai).toNat)
  case atStart=>exact⟨0,_,_,rfl,aD _,cE,cJ,bX⟩
  case round=>
   obtain⟨j,lv,lo,rfl,cW,bV,an,bd⟩:=hrel;generalize wr=a at*;by_cases hlt:j<H
   ·have ch:(j:Int)<H:=Qa
    have bj:j<z.length:=by have:=bb.out;omega
    obtain⟨b,a3,b9,cA,rfl,F,aN,av,am,ag,aj,al⟩:=nu bY.out j bj;have ab:=zl (g:=gl) bj;have aO:=bZ.out _ (ay bj);obtain⟨I,aL⟩: ∃I,z[j]=I:=⟨_,rfl⟩
    rw[aL]at av aj al ab aO;clear aL;obtain⟨nm,ps,u⟩:=I;simp only at av aj al ab aO;obtain⟨ce,cb,bg,bH⟩:=aO
    have bv:=G (show CR.then (qD gl gM (ps.drop 0)) (λlo=>CR.then (iX gl lo u) λ_=>CR.then (oK gl (z.drop (j+1))) λ_=>i_ z)=M by
     rw[<-bV.out,ab,uS]
     simp only[uS,aw])
    obtain⟨d,af⟩: ∃m,ps.length=m:=⟨_,rfl⟩
    obtain⟨V,ac,aW,aj⟩:=aj;rw[af]at aW bg;subst aW;have bW:=G af;obtain⟨R,K,rfl,_⟩:=al.form;have e0:=((ax.out _ an.out).cell _ aN F).trans av;have cy:=((ax.out _ an.out).cell _ aN F).trans am;have cx:=((ax.out _ an.out).cell _ aN F).trans ag;have ba:=G al;have cC:=G aj;have aY:=aa a (.cells #[.string (ak nm), .slice V d ac, .slice R u.length K] 81);have bC:=G (bd.out.ext aY);have az:=G (aq a 81 #[.string (ak nm), .slice V d ac, .slice R u.length K]);have cH:=G (an.out.alloc (.cells #[.string (ak nm), .slice V d ac, .slice R u.length K] 81));have a5:=aa (a.alloc (.cells #[.string (ak nm), .slice V d ac, .slice R u.length K] 81)) (.map #[] 0);have ck:=(bC.out.blk.ext a5).cell;have cj:=(bC.out.blk.ext a5).frozen;have co:g≠a.heap.size:=by have:=bd.out.lt.1;simp only at this;omega
    have cn:a.heap.size≠g:=λe=>co e.symm;have b5:=G ((az.out.ext a5).far (p:=⟨g,5,none⟩) cn (.map (some (a.heap.size+1))));have cw:=b5.out.cell
    have cM:=G (show CK ⟨g,aF,aI,aH,aA, .slice (some ⟨b,a3,none⟩) H ao⟩ gl (.map (some (a.heap.size+1))) gM (((a.alloc (.cells #[.string (ak nm), .slice V d ac, .slice R u.length K] 81)).alloc (.map #[] 0)).setCell ⟨g,5,none⟩ (.map (some (a.heap.size+1))))from by
     have:=bC.out.newL cP.out
     rwa [World.size_alloc]at this)
    have cI:=G ((cH.out.alloc (.map #[] 0)).set (p:=⟨g,5,none⟩) (λ_=> .inl rfl) (.map (some (a.heap.size+1))));have cR:=G (World.grownBy.refl (((a.alloc (.cells #[.string (ak nm), .slice V d ac, .slice R u.length K] 81)).alloc (.map #[] 0)).setCell ⟨g,5,none⟩ (.map (some (a.heap.size+1)))) (some (a.heap.size+1)));have cf:a.heap.size+1≠a.heap.size:=Qa
    have bR:=G (show w.heap.size<=a.heap.size from an.out.size);have a1:=G (λW (J:World.grownBy (((a.alloc (.cells #[.string (ak nm), .slice V d ac, .slice R u.length K] 81)).alloc (.map #[] 0)).setCell ⟨g,5,none⟩ (.map (some (a.heap.size+1)))) W (some (a.heap.size+1)))=>show Mv (CB.U ⟨g,aF,aI,aH,aA, .slice (some ⟨b,a3,none⟩) H ao⟩) w W from cI.out.tr (.of_grown (S:=λk=>k=a.heap.size+1) J (λk e=>by injection e with e;exact e.symm)) (λk am ag=>absurd ag (by have:=bR.out;omega)));clear av am ag al af a5;go_wp2_with fail;clear cw ck cj cg
    go_loopw [27] (λai wr=> ∃(i:Nat) (Z:Ls),ai= .int .i64 (i:Int)/\i<=d/\Hid (CR.then (qD gl Z (ps.drop i)) (λlo=>CR.then (iX gl lo u) λ_=>CR.then (oK gl (z.drop (j+1))) λ_=>i_ z)=M)/\Hid (World.grownBy (((a.alloc (.cells #[.string (ak nm), .slice V d ac, .slice R u.length K] 81)).alloc (.map #[] 0)).setCell ⟨g,5,none⟩ (.map (some (a.heap.size+1)))) wr (some (a.heap.size+1)))/\Hid (CK ⟨g,aF,aI,aH,aA, .slice (some ⟨b,a3,none⟩) H ao⟩ gl (.map (some (a.heap.size+1))) Z wr)) (λai _=>d-(intOf ai).toNat)
    case atStart=>exact⟨0,gM,rfl,aD _,bv,cR,cM⟩
    case round=>
     obtain⟨i,Z,rfl,cm,aJ,aP,a2⟩:=hrel;by_cases hli:i<d
     ·have bi:(i:Int)<d:=Qa
      have ar:i<ps.length:=by have:=bW.out;omega
      have cd: ∃b2 aV,V=some ⟨b2,aV,none⟩/\(P b2/\b2<w.heap.size)/\b2<w.heap.size/\w.cell? ⟨b2,aV+i,none⟩=some (.string (ak ps[i])):=by
       rcases cC.out with J|⟨_,_,b2,aV,am,ag,bP,bO⟩
       ·rw[J]at ar;simp at ar
       ·exact⟨b2,aV,am,ag,bP,bO i ar⟩
      obtain⟨b2,aV,rfl,cs,cr,ca⟩:=cd;have cU:=((ax.out _ (a1.out _ aP.out)).cell _ cs cr).trans ca;have ab:=zk (g:=gl) (lo:=Z) ar;have bF:=bH _ (ay ar);generalize ps[i]=I at*;have bJ:=a2.out.blk.cell
      cases hkn:gl.known Z I with
      |true=>
       have ad:=G (show M= .error (I,9) by rw[<-aJ.out,ab,hkn];rfl);go_wp2_with (first|(go_at_call 64;refine(eA _ gl _ Z _ a2.out I bF).mono ?_;rw[hkn];rintro e aQ ⟨rfl,y⟩;have cG:=G ((a1.out _ aP.out).trans (.of_ext y));clear y)|(go_at_call 65;refine(ew I 9 _).mono ?_;unfold bh;rintro e aQ ⟨rfl,y⟩;have aZ:=G (cG.out.trans (.of_ext y));clear y));exact⟨rfl,aZ.out,by rw[ad.out];rfl⟩
      |false=>
       have ct:qD gl Z (ps.drop i)=qD gl (Z.add I) (ps.drop (i+1)):=by rw[ab,hkn,if_neg Qd]
       go_wp2_with (first|(go_at_call 64;refine(eA _ gl _ Z _ a2.out I bF).mono ?_;rw[hkn];rintro e aQ ⟨rfl,y⟩;have cO:=G (aP.out.trans (y.grownBy _));have bB:=G (a2.out.ext y);clear bJ;have bJ:=bB.out.blk.cell;clear y)|(at_mapUpdate;refine eU Ff rfl _ _ _ rfl bB.out.ml.1 rfl Qj rfl _ rfl ?_;intro bD bI bk;have cL:=G (bB.out.add bI bk);have cQ:=G (cO.out.trans bk);clear bI bk));go_roundw
       case rel=>exact⟨i+1,Z.add I,by go_num,by omega,G (by rw[<-ct];exact aJ.out),cQ,cL⟩
       case measure=>simp[intOf];omega
     ·have bi: ¬(i:Int)<d:=Qa
      have bU:=G (show CR.then (iX gl Z u) (λ_=>CR.then (oK gl (z.drop (j+1))) λ_=>i_ z)=M by
       have:=aJ.out;rw[aK (l:=ps) (by have:=bW.out;omega),qD,fI]at this
       exact this)
      have cX:=(b5.out.grown aP.out (CG cf.symm)).cell;have cF:=G (a1.out _ aP.out);have A:=mF _ u (ah _) Qa _ gl (a.heap.size+1) Z (λb=>P b/\b<w.heap.size) wr R _ K a2.out (ba.out.keep (ax.out _ cF.out) (λb F _=>F)) (λb F e=>by have:=bR.out;omega);have be:=G A;clear A
      cases aC:iX gl Z u with
      |error q=>
       obtain⟨bf,m⟩:=q;have ad:=G (show M= .error (bf,m) by rw[<-bU.out,aC];rfl);go_wp2_with (go_at_call 66;have A:=be.out;rw[aC]at A;refine A.mono ?_;unfold qL bh;rintro e aQ ⟨aX,rfl⟩;have bz:=G (a1.out _ (aP.out.trans aX));clear aX A be);exact⟨rfl,bz.out,by rw[ad.out];rfl⟩
      |ok lo2=>
       have cD:=G (show CR.then (oK gl (z.drop (j+1))) (λ_=>i_ z)=M by rw[<-bU.out,aC];rfl);go_wp2_with (go_at_call 66;have A:=be.out;rw[aC]at A;refine A.mono ?_;unfold qL;rintro e aQ ⟨aX,rfl,bL⟩;have bz:=G (a1.out _ (aP.out.trans aX));have cK:=G bL;clear aX A be bL);go_roundw
       case rel=>exact⟨j+1,_,lo2,by go_num,by omega,cD,bz,cK⟩
       case measure=>simp[intOf];omega
   ·have ch: ¬(j:Int)<H:=Qa
    have bv:=G (show i_ (z.drop 0)=M by
     have:=bV.out;rw[aK (by have:=bb.out;omega),oK,fI]at this
     exact this)
    have A:=bd.out.blk.cell;go_wp2_with fail;clear A
    go_loopw [53] (λai wr=> ∃(i:Nat),ai= .int .i64 (i:Int)/\i<=H/\Hid (i_ (z.drop i)=M)/\Hid (au a wr)) (λai _=>H-(intOf ai).toNat)
    case atStart=>exact⟨0,rfl,aD _,bv,G (aG _)⟩
    case round=>
     obtain⟨i,rfl,cm,aJ,bt⟩:=hrel;by_cases hli:i<H
     ·have bi:(i:Int)<H:=Qa
      have ar:i<z.length:=by have:=bb.out;omega
      obtain⟨b,a3,b9,cA,rfl,F,aN,av,am,ag,aj,al⟩:=nu bY.out i ar;have ab:=wO ar;have aO:=bZ.out _ (ay ar);obtain⟨I,aL⟩: ∃I,z[i]=I:=⟨_,rfl⟩
      rw[aL]at av aj al ab aO;clear aL;obtain⟨nm,ps,u⟩:=I;simp only at av aj al ab aO;obtain⟨ce,cb,bg,bH⟩:=aO;obtain⟨d,af⟩: ∃m,ps.length=m:=⟨_,rfl⟩
      obtain⟨V,ac,aW,aj⟩:=aj;rw[af]at aW bg ab;subst aW;obtain⟨R,K,rfl,_⟩:=al.form;have bc:=G (an.out.trans (.of_ext bt.out));have e0:=((ax.out _ bc.out).cell _ aN F).trans av;have cy:=((ax.out _ bc.out).cell _ aN F).trans am;have cx:=((ax.out _ bc.out).cell _ aN F).trans ag;have aY:=aa wr (.cells #[.string (ak nm), .slice V d ac, .slice R u.length K] 81);have az:=G (aq wr 81 #[.string (ak nm), .slice V d ac, .slice R u.length K]);have bq:=G (bt.out.trans aY);have ba:=G ((al.keep (ax.out _ bc.out) (Q:=λb=>P b/\b<w.heap.size) (λb F _=>F)).keep (.of_ext aY) (Q:=λb=>P b/\b<w.heap.size) (λb F _=>F));have cq:=mf u;obtain⟨q,a4⟩: ∃q,cN u=q:=⟨_,rfl⟩
      obtain⟨r,aC⟩: ∃r,nB u=r:=⟨_,rfl⟩
      rw[a4,aC]at ab;rw[a4]at cq;have b4:=G (λW (J:au (wr.alloc (.cells #[.string (ak nm), .slice V d ac, .slice R u.length K] 81)) W)=>a4▸BH u Qa (λb=>P b/\b<w.heap.size) W R _ K (ba.out.keep (.of_ext J) (λb F _=>F)));have cS:=G (λW (J:au (wr.alloc (.cells #[.string (ak nm), .slice V d ac, .slice R u.length K] 81)) W)=>aC▸mH _ u (ah _) Qa (λb=>P b/\b<w.heap.size) W R _ K (bd.out.t.ext (bq.out.trans J)) (ba.out.keep (.of_ext J) (λb F _=>F)));have cV:IntKind.i64.wrap ((d:Int)+(q:Int))=(d:Int)+(q:Int):=Qc
      clear av am ag aj al af aY a4 aC;have bu:=G ab;clear ab;by_cases h20:20<d+q
      ·have bp:(20:Int)<(d:Int)+(q:Int):=Qa
       have cv:decide ((20:Int)<(d:Int)+(q:Int))=true:=decide_eq_true bp;have ad:=G (show M= .error (nm,6) by rw[<-aJ.out,bu.out,if_pos (.inl h20)]);go_wp2_with fail;refine aB 13 4 [(5,λv=>v= .int .i64 (q:Int),λ_ _=>True)] mixed Qb ⟨λ_ _ _ _ _=>trivial,trivial⟩ ?_;repeat (first|(refine bS Qf ?_;simp only[bA,bx,bw,br,bo])|(refine sx ?_ (λaR o=> ?_) ?_;rotate_left;(focus have aS:=(az.out.ext o.un).cell;clear o;go_simp<;>with_reducible rfl);simp only[bA,bx,bw,br,bo]))
       refine so (λaT o ap bQ aE=> ?_) ?_
       ·have A:=b4.out aT o.un;clear ap o;go_simp;refine A.mono ?_;rintro e bE ⟨rfl,y⟩;exact aE _ _ y rfl trivial
       rintro _ rfl;simp only[bA,bx,bw,br,bo];repeat (first|(refine bS Qf ?_;simp only[bA,bx,bw,br,bo])|(refine sx ?_ (λaR o=> ?_) ?_;rotate_left;(focus have aS:=(az.out.ext o.un).cell;clear o;go_simp<;>with_reducible rfl);simp only[bA,bx,bw,br,bo]))
       intro bD aM ap;clear ap;simp only[ae,aU];have aS:=(az.out.ext aM.un).cell;have a8:=G (bq.out.trans aM.un);clear aM;go_wp2_with (go_at_call 65;refine(ew nm 6 _).mono ?_;unfold bh;rintro e aQ ⟨rfl,y⟩;have aZ:=G (an.out.trans (.of_ext (a8.out.trans y)));clear y);exact⟨rfl,aZ.out,by rw[ad.out];rfl⟩
      ·have bp: ¬(20:Int)<(d:Int)+(q:Int):=Qa
       have cv:decide ((20:Int)<(d:Int)+(q:Int))=false:=decide_eq_false bp;go_wp2_with fail;refine aB 13 4 [(5,λv=>v= .int .i64 (q:Int),λ_ _=>True),(11,λv=>v= .bool r,λ_ _=>True)] mixed Qb ⟨λ_ _ _ _ _=>trivial,λ_ _ _ _ _=>trivial,trivial⟩ ?_;repeat (first|(refine bS Qf ?_;simp only[bA,bx,bw,br,bo])|(refine sx ?_ (λaR o=> ?_) ?_;rotate_left;(focus have aS:=(az.out.ext o.un).cell;clear o;go_simp<;>with_reducible rfl);simp only[bA,bx,bw,br,bo]))
       refine so (λaT o ap bQ aE=> ?_) ?_
       ·have A:=b4.out aT o.un;clear ap o;go_simp;refine A.mono ?_;rintro e bE ⟨rfl,y⟩;exact aE _ _ y rfl trivial
       rintro _ rfl;simp only[bA,bx,bw,br,bo];repeat (first|(refine bS Qf ?_;simp only[bA,bx,bw,br,bo])|(refine sx ?_ (λaR o=> ?_) ?_;rotate_left;(focus have aS:=(az.out.ext o.un).cell;clear o;go_simp<;>with_reducible rfl);simp only[bA,bx,bw,br,bo]))
       refine so (λaT o ap bQ aE=> ?_) ?_
       ·have A:=cS.out aT o.un;clear ap o;go_simp;refine A.mono ?_;rintro e bE ⟨rfl,y⟩;exact aE _ _ y rfl trivial
       rintro _ rfl;simp only[bA,bx,bw,br,bo];repeat (first|(refine bS Qf ?_;simp only[bA,bx,bw,br,bo])|(refine sx ?_ (λaR o=> ?_) ?_;rotate_left;(focus have aS:=(az.out.ext o.un).cell;clear o;go_simp<;>with_reducible rfl);simp only[bA,bx,bw,br,bo]))
       intro bD aM ap;clear ap;simp only[ae,aU];have aS:=(az.out.ext aM.un).cell;have a8:=G (bq.out.trans aM.un);clear aM
       cases r with
       |false=>
        have ad:=G (show i_ (z.drop (i+1))=M by rw[<-aJ.out,bu.out,if_neg Qg]);go_wp2_with fail;go_roundw
        case rel=>exact⟨i+1,by go_num,by omega,ad,a8⟩
        case measure=>simp[intOf];omega
       |true=>
        have ad:=G (show M= .error (nm,6) by rw[<-aJ.out,bu.out,if_pos (.inr rfl)]);go_wp2_with (go_at_call 65;refine(ew nm 6 _).mono ?_;unfold bh;rintro e aQ ⟨rfl,y⟩;have aZ:=G (an.out.trans (.of_ext (a8.out.trans y)));clear y);exact⟨rfl,aZ.out,by rw[ad.out];rfl⟩
     ·have bi: ¬(i:Int)<H:=Qa
      have ad:=G (show M= .ok () by
       have:=aJ.out;rw[aK (by have:=bb.out;omega),i_]at this
       exact this.symm)
      go_wp2_with fail;exact bodyPost_end (results_none rfl _ _ _) rfl ⟨an.out.trans (.of_ext bt.out),by rw[ad.out];rfl⟩
end
end Go.Proofs.YtoedmpgicdekmaaGreatDoor
