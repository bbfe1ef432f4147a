/- Parts of the proof. -/
import Derived.Test.YtddomeddabfinaaGreatDoorTt00
import Derived.Test.YtddomeddabfinaaGreatDoorTt22
import Derived.Test.YtddomeddabfinaaGreatDoorTt01
set_option maxRecDepth 100000
set_option maxHeartbeats 8000000
set_option linter.unusedVariables false
set_option linter.unusedSimpArgs false
set_option linter.unusedSectionVars false
namespace Go.Proofs.YtddomeddabfinaaGreatDoor
open IntKind(i64)
open Go.Proofs.Tryz
section
open Go.RowKit
structure CB.Ok (X:CB):Prop where
 gi:X.g≠X.bi
 ga:X.g≠X.ba
 gf:X.g≠X.bf
 ia:X.bi≠X.ba
 jf:X.bi≠X.bf
 af:X.ba≠X.bf
abbrev CB.S (X:CB) (k:Nat):Prop:=k=X.bi\/k=X.ba\/k=X.bf
section
variable {X:CB} {gl:Gl} {lo lo':Ls} {w W:World}
theorem BP {b:Nat} {L:KF} (j:BT w) (a:cd w b L):b≠0:=by
 rintro rfl;obtain⟨t,fr,h⟩:=j;obtain⟨es,c,a,_⟩:=a;rw[h]at a;cases a
theorem BT.grown {b:Nat} (o:BT w) (h:w.grownBy W (some b)) (j:b≠0):BT W:=by
 obtain⟨t,fr,a⟩:=o;exact⟨t,fr,(h.block _ (Array.getElem?_eq_some_iff.1 a).1 (λe=>j (by injection e with e;exact e.symm))).trans a⟩
theorem od {a b:Nat} (h:a≠b):some a≠some b:=λe=>h (by injection e)
theorem CK.addI {v:Vr} (o:X.Ok) (h:CK X gl (.map none) gc w) (z: ¬0<v.sz) (A:cd W X.bi ((DH gl).upd v.nm (.bool true))) (j:w.grownBy W (some X.bi)):CK X (gl.addV v) (.map none) gc W:=by
 have e:gl.addV v={gl with int:=λx=>x==v.nm||gl.int x}:=by unfold Gl.addV;rw[if_neg z]
 rw[e];refine⟨h.blk.grown j (od o.gi),A.congr λs=> ?_,h.a.grown j (od (gp o.ia)),h.f.grown j (od (gp o.jf)),.inl ⟨rfl,rfl⟩,h.t.grown j (BP h.t h.i)⟩;unfold KF.upd DH;by_cases e:s=v.nm
 ·subst e;simp
 ·simp[e]
theorem CK.addA {v:Vr} (o:X.Ok) (h:CK X gl (.map none) gc w) (z:0<v.sz) (A:cd W X.ba ((DI gl).upd v.nm (.int i64 v.sz))) (j:w.grownBy W (some X.ba)):CK X (gl.addV v) (.map none) gc W:=by
 have e:gl.addV v={gl with arr:=λx=>if x=v.nm then some v.sz else gl.arr x}:=by unfold Gl.addV;rw[if_pos z]
 rw[e];refine⟨h.blk.grown j (od o.ga),h.i.grown j (od o.ia),A.congr λs=> ?_,h.f.grown j (od (gp o.af)),.inl ⟨rfl,rfl⟩,h.t.grown j (BP h.t h.a)⟩;unfold KF.upd DI;by_cases e:s=v.nm
 ·subst e;simp
 ·simp[e]
theorem CK.addF {f:Fc} (o:X.Ok) (h:CK X gl (.map none) gc w) (z:cd W X.bf ((GN gl).upd f.nm (.int i64 (f.ps.length:Int)))) (j:w.grownBy W (some X.bf)):CK X (gl.addF f) (.map none) gc W:=by
 refine⟨h.blk.grown j (od o.gf),h.i.grown j (od o.jf),h.a.grown j (od o.af),z.congr λs=> ?_,.inl ⟨rfl,rfl⟩,h.t.grown j (BP h.t h.f)⟩;unfold KF.upd GN Gl.addF;by_cases e:s=f.nm
 ·subst e;simp
 ·simp[e]
end
theorem EF (p:Pg):p.vs.length<=jo p:=by
 have:=jv (λ_:Vr=>1) (λv=>v.nm.length+1) p.vs (λv _=>by omega);rw[gv]at this;unfold jo;omega
theorem zr (p:Pg):p.fs.length<=jo p:=by
 have:=jv (λ_:Fc=>1) (λf=>f.wt+1) p.fs (λv _=>by omega);rw[gv]at this;unfold jo;omega
theorem o8 {a:World} {P:Nat->Prop} {A:Option Addr} {n c:Nat} {ls:List Fc} (j:jl a P (.slice A n c) ls) (i:Nat) (z:i<ls.length):
  ∃b h o w,A=some ⟨b,h,none⟩/\b<a.heap.size/\P b/\a.cell? ⟨b,h+i*3,none⟩=some (.string (J ls[i].nm))/\a.cell? ⟨b,h+i*3+1,none⟩=some o/\a.cell? ⟨b,h+i*3+2,none⟩=some w/\mQ a P o ls[i].ps/\db a P w ls[i].body:=by
 obtain⟨ad,ac,V,j⟩:=j;injection V with X ab I;rcases j with j|⟨_,_,b,h,ha,hP,hb,o,w,hc⟩
 ·subst j;simp at z
 ·obtain⟨R,O,M,K,G⟩:=hc i z;exact⟨b,h,o i,w i,by rw[X];exact ha,hb,hP,R,O,M,K,G⟩
theorem CM {j:World} {P:Nat->Prop} {w:Option Addr} {n c:Nat} {ls:List Vr} (h:ik j P (.slice w n c) ls) (i:Nat) (o:i<ls.length):
  ∃b a,w=some ⟨b,a,none⟩/\b<j.heap.size/\P b/\j.cell? ⟨b,a+i*2,none⟩=some (.string (J ls[i].nm))/\j.cell? ⟨b,a+i*2+1,none⟩=some (.int i64 ls[i].sz):=by
 obtain⟨O,M,z,h⟩:=h;injection z with A K G;rcases h with h|⟨_,_,b,a,ha,hP,hb,hc⟩
 ·subst h;simp at o
 ·exact⟨b,a,by rw[A];exact ha,hb,hP,(hc i o).1,(hc i o).2⟩
theorem xK {g:Gl} {l:List Vr} {a:Nat} (h:a<l.length):kP g (l.drop a)=if g.known gc l[a].nm=true then .error (l[a].nm,9)else kP (g.addV l[a]) (l.drop (a+1)):=by
 rw[aD h,kP]
theorem xM {g:Gl} {l:List Fc} {a:Nat} (h:a<l.length):jq g (l.drop a)=if g.known gc l[a].nm=true then .error (l[a].nm,9)else jq (g.addF l[a]) (l.drop (a+1)):=by
 rw[aD h,jq]
def xL (g:Gl):Except Er Gl:=match g.fn bW with
 |none=> .error (bW,8)
 |some n=>if 0<n then .error (bW,16)else .ok g
def H5 (X:CB) (r:Except Er Gl) (w:World) (e:Ending) (w':World):Prop:=Mv X.S w w'/\match r with
 | .ok g=>e=.returned (.tuple #[])/\CK X g (.map none) gc w'
 | .error (nm,n)=>e=bq nm n
theorem xH (p:Pg) (bF:jo p<=6000000) (ar:CB) (br:ar.Ok) (P:Nat->Prop) (ab:World) (bc:ik ab P ar.sv p.vs) (bg:jl ab P ar.sf p.fs) (bt: ∀b,P b-> ¬ar.S b) (bf:CK ar ob (.map none) gc ab):
  Calls prog 71 #[ar.p] ab (H5 ar (ng p) ab):=by
 obtain⟨g,aM,aO,aF,bB,bC⟩:=ar;have bI:p.vs.length<=6000000:=by have:=EF p;omega
 have bJ:p.fs.length<=6000000:=by have:=zr p;omega
 have bT:=O (λv (bG:v∈p.vs)=>show v.nm.length<=1073741824 by have:=Aq bG;omega);have bZ:=O (λf (bL:f∈p.fs)=>show f.nm.length<=1073741824 by have:=oH bL;have:=wS (f:=f);omega);obtain⟨ag,bd⟩: ∃bR,ng p=bR:=⟨_,rfl⟩
 have bU:=O (show CR.then (kP ob (p.vs.drop 0)) (λg=>CR.then (jq g (p.fs.drop 0)) xL)=ag from bd);rw[bd];clear bd bF;obtain⟨vs,ap⟩:=p;simp only at*;obtain⟨K,a9⟩: ∃n,vs.length=n:=⟨_,rfl⟩
 obtain⟨M,ba⟩: ∃n,ap.length=n:=⟨_,rfl⟩
 obtain⟨R,G,bO⟩: ∃R G,bB=.slice R K G:=by obtain⟨R,G,aU,_⟩:=bc;exact⟨R,G,by rw[aU,a9]⟩
 obtain⟨B,aq,bN⟩: ∃B aq,bC=.slice B M aq:=by obtain⟨R,G,aU,_⟩:=bg;exact⟨R,G,by rw[aU,ba]⟩
 subst bO bN;rw[a9]at bI;rw[ba]at bJ;have bx:=O a9;have bz:=O ba;simp only[CB.p]at*;have bA: ∀W,Mv (CB.S ⟨g,aM,aO,aF,.slice R K G,.slice B M aq⟩) ab W->cR P ab W:=λW aU=>aU.keepP (λk bK _=>bt k bK);have aX:=O bA;have bS:=O bc;have bY:=O bg;have bj:=O br;have bV:=O (j6 (CB.S ⟨g,aM,aO,aF,.slice R K G,.slice B M aq⟩) ab);have bX:=O bf;have a3:=bf.blk.cell;clear bc bg bt bf br bA a9 ba;go_enter func71,ntmps71;go_wp2_with fail;clear a3
 go_loopw [14] (λaA wr=> ∃(w:Nat) (o:Gl),aA=.int i64 (w:Int)/\w<=K/\Hid (CR.then (kP o (vs.drop w)) (λg=>CR.then (jq g (ap.drop 0)) xL)=ag)/\Hid (Mv (CB.S ⟨g,aM,aO,aF,.slice R K G,.slice B M aq⟩) ab wr)/\Hid (CK ⟨g,aM,aO,aF,.slice R K G,.slice B M aq⟩ o (.map none) gc wr)) (λaA _=>K-(intOf aA).toNat)
 case atStart=>exact⟨0,ob,rfl,aI _,bU,bV,bX⟩
 case round=>
  obtain⟨w,o,rfl,bp,ah,z,aj⟩:=hrel;by_cases hlt:w<K
  ·have a2:(w:Int)<K:=Qa
   have aC:w<vs.length:=by have:=bx.out;omega
   obtain⟨b,bD,rfl,aJ,aK,af,aE⟩:=CM bS.out w aC;have aD:=xK (g:=o) aC;have ac:=bT.out _ (ay aC);obtain⟨y,aR⟩: ∃y,vs[w]=y:=⟨_,rfl⟩
   rw[aR]at af aE aD ac;clear aR;obtain⟨nm,A⟩:=y;simp only at af aE ac;have bQ:=((aX.out _ z.out).cell _ aK aJ).trans af;have bP:=((aX.out _ z.out).cell _ aK aJ).trans aE;have aS:=Z wr (.cells #[.string (J nm),.int i64 A] 85);have ak:=O (aj.out.ext aS);have aQ:=O (aw wr 85 #[.string (J nm),.int i64 A]);have aP:=O (z.out.alloc (.cells #[.string (J nm),.int i64 A] 85));clear af aE aS
   cases hkn:o.known gc nm with
   |true=>
    have al:=O (show ag=.error (nm,9) by rw[<-ah.out,aD];simp only[hkn,if_true];rfl);go_wp2_with (first|(go_at_call 72;refine(eE _ o _ gc _ ak.out nm ac).mono ?_;rw[hkn];rintro e an ⟨rfl,j⟩;have ai:=O (aP.out.trans (.of_ext j));have ad:=(aQ.out.ext j).cell;clear j)|(go_at_call 73;refine(eD nm 9 _).mono ?_;unfold bq;rintro e an ⟨rfl,j⟩;have aH:=O (ai.out.trans (.of_ext j));clear j));exact⟨rfl,by rw[al.out];exact⟨aH.out,rfl⟩⟩
   |false=>
    have a4:kP o (vs.drop w)=kP (o.addV ⟨nm,A⟩) (vs.drop (w+1)):=by rw[aD];simp only[hkn,aT,if_false]
    by_cases hz:0<A
    ·have bE:decide (0<A)=true:=decide_eq_true hz;go_wp2_with (go_at_call 72;refine(eE _ o _ gc _ ak.out nm ac).mono ?_;rw[hkn];rintro e an ⟨rfl,j⟩;have ai:=O (aP.out.trans (.of_ext j));have az:=O (aQ.out.ext j);have ad:=az.out.cell;have av:=O (ak.out.ext j);clear j);refine aB 8 1 [] mixed Qb trivial ?_;repeat (refine sx ?_ (λbo I=> ?_) ?_;rotate_left;(focus have ad:=(az.out.ext I.un).cell;have bv:=(av.out.ext I.un).blk.cell;clear I;go_simp<;>with_reducible rfl);simp only[a8,a7,a6,aZ,aY])
     intro bn V _;simp only[ae,au];have ax:=O (av.out.ext V.un);have aW:=O (ai.out.trans (.of_ext V.un));clear V ad;go_wp2_with (at_mapUpdate;refine cZ GK rfl _ _ _ rfl ax.out.a rfl Qg rfl _ rfl ?_;intro bm ao X;have a1:=O (ax.out.addA (v:=⟨nm,A⟩) bj.out hz ao X);have aV:=O (aW.out.trans (.of_grown X (λk e=>by injection e with e;exact .inr (.inl e.symm))));clear ao X);go_roundw
     case rel=>exact⟨w+1,o.addV ⟨nm,A⟩,by go_num,by omega,O (by rw[<-a4];exact ah.out),aV,a1⟩
     case measure=>simp[intOf];omega
    ·have bE:decide (0<A)=false:=decide_eq_false hz;go_wp2_with (go_at_call 72;refine(eE _ o _ gc _ ak.out nm ac).mono ?_;rw[hkn];rintro e an ⟨rfl,j⟩;have ai:=O (aP.out.trans (.of_ext j));have az:=O (aQ.out.ext j);have ad:=az.out.cell;have av:=O (ak.out.ext j);clear j);refine aB 6 1 [] mixed Qb trivial ?_;repeat (refine sx ?_ (λbo I=> ?_) ?_;rotate_left;(focus have ad:=(az.out.ext I.un).cell;have bv:=(av.out.ext I.un).blk.cell;clear I;go_simp<;>with_reducible rfl);simp only[a8,a7,a6,aZ,aY])
     intro bn V _;simp only[ae,au];have ax:=O (av.out.ext V.un);have aW:=O (ai.out.trans (.of_ext V.un));clear V ad;go_wp2_with (at_mapUpdate;refine cZ Es rfl _ _ _ rfl ax.out.i rfl Qg rfl _ rfl ?_;intro bm ao X;have a1:=O (ax.out.addI (v:=⟨nm,A⟩) bj.out (show ¬0<A by omega) ao X);have aV:=O (aW.out.trans (.of_grown X (λk e=>by injection e with e;exact .inl e.symm)));clear ao X);go_roundw
     case rel=>exact⟨w+1,o.addV ⟨nm,A⟩,by go_num,by omega,O (by rw[<-a4];exact ah.out),aV,a1⟩
     case measure=>simp[intOf];omega
  ·have a2: ¬(w:Int)<K:=Qa
   have bw:=O (show CR.then (jq o (ap.drop 0)) xL=ag by
    have:=ah.out;rw[aL (l:=vs) (by have:=bx.out;omega),kP,e_]at this
    exact this)
   have a3:=aj.out.blk.cell;go_wp2_with fail;clear a3
   go_loopw [49] (λaA wr=> ∃(w:Nat) (o:Gl),aA=.int i64 (w:Int)/\w<=M/\Hid (CR.then (jq o (ap.drop w)) xL=ag)/\Hid (Mv (CB.S ⟨g,aM,aO,aF,.slice R K G,.slice B M aq⟩) ab wr)/\Hid (CK ⟨g,aM,aO,aF,.slice R K G,.slice B M aq⟩ o (.map none) gc wr)) (λaA _=>M-(intOf aA).toNat)
   case atStart=>exact⟨0,o,rfl,aI _,bw,z,aj⟩
   case round=>
    clear ah z aj bw hlt a2 bp;obtain⟨w,o,rfl,bp,ah,z,aj⟩:=hrel;by_cases hlt:w<M
    ·have a2:(w:Int)<M:=Qa
     have aC:w<ap.length:=by have:=bz.out;omega
     obtain⟨b,bD,b0,b2,rfl,aJ,aK,af,aE,bu,be,a5⟩:=o8 bY.out w aC;have aD:=xM (g:=o) aC;have ac:=bZ.out _ (ay aC);obtain⟨y,aR⟩: ∃y,ap[w]=y:=⟨_,rfl⟩
     rw[aR]at af be a5 aD ac;clear aR;obtain⟨nm,ps,aN⟩:=y;simp only at af be a5 ac;obtain⟨bk,bh,rfl,_⟩:=be;obtain⟨bl,bi,rfl,_⟩:=a5.form;have bQ:=((aX.out _ z.out).cell _ aK aJ).trans af;have bP:=((aX.out _ z.out).cell _ aK aJ).trans aE;have b1:=((aX.out _ z.out).cell _ aK aJ).trans bu;have aS:=Z wr (.cells #[.string (J nm),.slice bk ps.length bh,.slice bl aN.length bi] 59);have ak:=O (aj.out.ext aS);have aQ:=O (aw wr 59 #[.string (J nm),.slice bk ps.length bh,.slice bl aN.length bi]);have aP:=O (z.out.alloc (.cells #[.string (J nm),.slice bk ps.length bh,.slice bl aN.length bi] 59));clear af aE bu aS a5
     cases hkn:o.known gc nm with
     |true=>
      have al:=O (show ag=.error (nm,9) by rw[<-ah.out,aD];simp only[hkn,if_true];rfl);go_wp2_with (first|(go_at_call 72;refine(eE _ o _ gc _ ak.out nm ac).mono ?_;rw[hkn];rintro e an ⟨rfl,j⟩;have ai:=O (aP.out.trans (.of_ext j));have ad:=(aQ.out.ext j).cell;clear j)|(go_at_call 73;refine(eD nm 9 _).mono ?_;unfold bq;rintro e an ⟨rfl,j⟩;have aH:=O (ai.out.trans (.of_ext j));clear j));exact⟨rfl,by rw[al.out];exact⟨aH.out,rfl⟩⟩
     |false=>
      have a4:jq o (ap.drop w)=jq (o.addF ⟨nm,ps,aN⟩) (ap.drop (w+1)):=by rw[aD];simp only[hkn,aT,if_false]
      go_wp2_with (go_at_call 72;refine(eE _ o _ gc _ ak.out nm ac).mono ?_;rw[hkn];rintro e an ⟨rfl,j⟩;have ai:=O (aP.out.trans (.of_ext j));have az:=O (aQ.out.ext j);have ad:=az.out.cell;have av:=O (ak.out.ext j);clear j);refine aB 9 1 [] mixed Qb trivial ?_;repeat (refine sx ?_ (λbo I=> ?_) ?_;rotate_left;(focus have ad:=(az.out.ext I.un).cell;have bv:=(av.out.ext I.un).blk.cell;clear I;go_simp<;>with_reducible rfl);simp only[a8,a7,a6,aZ,aY])
      intro bn V _;simp only[ae,au];have ax:=O (av.out.ext V.un);have aW:=O (ai.out.trans (.of_ext V.un));clear V ad;go_wp2_with (at_mapUpdate;refine cZ GK rfl _ _ _ rfl ax.out.f rfl Qg rfl _ rfl ?_;intro bm ao X;have a1:=O (ax.out.addF (f:=⟨nm,ps,aN⟩) bj.out ao X);have aV:=O (aW.out.trans (.of_grown X (λk e=>by injection e with e;exact .inr (.inr e.symm))));clear ao X);go_roundw
      case rel=>exact⟨w+1,o.addF ⟨nm,ps,aN⟩,by go_num,by omega,O (by rw[<-a4];exact ah.out),aV,a1⟩
      case measure=>simp[intOf];omega
    ·have a2: ¬(w:Int)<M:=Qa
     have aG:=O (show xL o=ag by
      have:=ah.out;rw[aL (by have:=bz.out;omega),jq,e_]at this
      exact this)
     have a3:=aj.out.blk.cell;have bb:(Instr.lookup 106 (.map (some aF)) (.string ⟨#[109,97,105,110]⟩) true).run prog wr=.ok (.tuple #[.int i64 (((o.fn bW).getD 0:Nat):Int),.bool (o.fn bW).isSome]) wr:=aj.out.lookF (s:=bW) Qc;unfold xL at aG
     cases hfm:o.fn bW with
     |none=>
      rw[hfm]at aG bb;simp only[eC,dq]at bb;have al:=O aG.out.symm;go_wp2_with (go_at_call 73;refine(show Calls prog 73 #[.string ⟨#[109,97,105,110]⟩,.int i64 8] _ _ from eD bW 8 _).mono ?_;unfold bq;rintro e an ⟨rfl,j⟩;have aH:=O (z.out.trans (.of_ext j));clear j);exact⟨rfl,by rw[al.out];exact⟨aH.out,rfl⟩⟩
     |some n=>
      rw[hfm]at aG bb;simp only[bM,c8]at bb aG;by_cases hn:0<n
      ·have bH:(0:Int)<n:=Qa
       have al:=O (show ag=.error (bW,16) by rw[<-aG.out,if_pos hn]);go_wp2_with (go_at_call 73;refine(show Calls prog 73 #[.string ⟨#[109,97,105,110]⟩,.int i64 16] _ _ from eD bW 16 _).mono ?_;unfold bq;rintro e an ⟨rfl,j⟩;have aH:=O (z.out.trans (.of_ext j));clear j);exact⟨rfl,by rw[al.out];exact⟨aH.out,rfl⟩⟩
      ·have bH: ¬(0:Int)<n:=Qa
       have al:=O (show ag=.ok o by rw[<-aG.out,if_neg hn]);go_wp2_with fail;exact bodyPost_end (results_none rfl _ _ _) rfl (by rw[al.out];exact⟨z.out,rfl,aj.out⟩)
mutual
theorem DT: ∀s:St,vY s<=s.wt
 | .mk k nm e b l=>by
  have:=lc b;have:=lc l;rw[vY,St.wt];split<;>omega
theorem lc: ∀l:List St,gk l<=fP l
 | []=>by simp[gk]
 |s::r=>by
  have:=DT s;have:=lc r;rw[gk,fP];omega
end
theorem yQ {l:List St} {a:Nat} (h:a<l.length):gk (l.drop a)=vY l[a]+gk (l.drop (a+1)):=by
 rw[aD h,gk]
def GF (xs:List St):Prop:= ∀(P:Nat->Prop) (w:World) (A:Option Addr) (n c:Nat),db w P (.slice A n c) xs->Calls prog 54 #[.slice A n c] w λe w'=>e=.returned (.int i64 (gk xs:Int))/\az w w'
theorem uf (xs:List St) (bG:fP xs<=1073741824) (a5: ∀s∈xs,GF s.body/\GF s.els):GF xs:=by
 intro P a3 bU n c aV;obtain⟨bT,bR,bq,bu⟩:=aV.form;injection bq with bp bo bn;subst bp bo bn;have bt:=dF xs;have bv:=lc xs;have bf:=O aV;have bB:=O a5;obtain⟨N,aA⟩: ∃N,xs.length=N:=⟨_,rfl⟩
 have bh:=O aA;rw[aA]at bf bt;obtain⟨aG,aU⟩: ∃bw,gk xs=bw:=⟨_,rfl⟩
 have bz:=O (show 0+gk (xs.drop 0)=aG by rw[<-aU];simp);have bx:=O (aS a3);have bJ:aG<=1073741824:=Qa
 rw[aA,aU];clear aV bu a5 aA aU bv;go_enter func54,ntmps54;go_wp2_with fail
 go_loopw [3,8] (λbl aM wr=> ∃(A m:Nat),aM=.int i64 (A:Int)/\bl=.int i64 (m:Int)/\A<=N/\Hid (m+gk (xs.drop A)=aG)/\Hid (az a3 wr)) (λ_ aM _=>N-(intOf aM).toNat)
 case atStart=>exact⟨0,0,rfl,rfl,aI _,bz,bx⟩
 case round=>
  obtain⟨A,m,rfl,rfl,bI,bg,X⟩:=hrel;by_cases hlt:A<N
  ·have br:(A:Int)<N:=Qa
   have aP:A<xs.length:=by have:=bh.out;omega
   obtain⟨b,bC,e,bS,bD,rfl,w,bK,aD,aC,bc,bb,ba,ax,ag,af⟩:=bf.out.at_ A aP;have av:=yQ aP;have aB:=bB.out _ (ay aP);obtain⟨y,a4⟩: ∃y,xs[A]=y:=⟨_,rfl⟩
   rw[a4]at aD aC ax ag af av aB;clear a4;obtain⟨k,nm,aE,al,ai⟩:=y;simp only[St.k,St.nm,St.ex,St.body,St.els]at aD aC ax ag af aB;rw[vY]at av;have ar:=bg.out;rw[av]at ar;have bP:=(X.out.cell b _ w).trans aD;have bO:=(X.out.cell b _ w).trans aC;have bN:=(X.out.cell b _ w).trans bc;have bM:=(X.out.cell b _ w).trans bb;have bL:=(X.out.cell b _ w).trans ba;obtain⟨aJ,aF,rfl,_⟩:=ax.form;obtain⟨ap,ak,rfl,_⟩:=ag.form;obtain⟨ao,aj,rfl,_⟩:=af.form;have a9:=Z wr (.cells #[.int i64 k,.string (J nm),.slice aJ aE.length aF,.slice ap al.length ak,.slice ao ai.length aj] 72);have ab:=O (aw wr 72 #[.int i64 k,.string (J nm),.slice aJ aE.length aF,.slice ap al.length ak,.slice ao ai.length aj]);have aH:=O (X.out.trans a9);have be:=O (ag.keep (.of_ext aH.out) (Q:=P) (λb w _=>w));have bd:=O (af.keep (.of_ext aH.out) (Q:=P) (λb w _=>w));have a2:=O aB;obtain⟨o,aT⟩: ∃d,gk al=d:=⟨_,rfl⟩
   obtain⟨j,aR⟩: ∃d,gk ai=d:=⟨_,rfl⟩
   rw[aT,aR]at ar;have bj:=O (λW (aW:az (wr.alloc (.cells #[.int i64 k,.string (J nm),.slice aJ aE.length aF,.slice ap al.length ak,.slice ao ai.length aj] 72)) W)=>aT▸a2.out.1 P W ap _ ak (be.out.keep (.of_ext aW) (Q:=P) (λb w _=>w)));have bi:=O (λW (aW:az (wr.alloc (.cells #[.int i64 k,.string (J nm),.slice aJ aE.length aF,.slice ap al.length ak,.slice ao ai.length aj] 72)) W)=>aR▸a2.out.2 P W ao _ aj (bd.out.keep (.of_ext aW) (Q:=P) (λb w _=>w)));have a1:=O ar;clear aD aC bc bb ba ax ag af aB a9 be bd a2 aT aR av ar;have I:m+(if k=1 then 1 else 0)+(o+j)<=1073741824:=by have:=a1.out;omega
   have ad: ∀aq:Nat,aq<=1073741824->IntKind.i64.wrap (aq:Int)=aq:=λaq bE=>by simp[IntKind.wrap,IntKind.signed,IntKind.bits];omega
   have bF:IntKind.i64.wrap ((o:Int)+(j:Int))=((o+j:Nat):Int):=by rw[<-Int.natCast_add];exact ad _ Qa
   by_cases hk:k=1
   ·subst hk;have I:m+1+(o+j)<=1073741824:=by simpa using I
    have bm:IntKind.i64.wrap ((m:Int)+1+((o+j:Nat):Int))=((m+1+(o+j):Nat):Int):=by rw[<-ad (m+1+(o+j)) I];congr 1
    clear ad;go_wp2_with fail;refine cD 9 4 [(3,λv=>v=.int i64 (o:Int),λ_ _=>True),(6,λv=>v=.int i64 (j:Int),λ_ _=>True)] [] [1,4] mixed Qb Qb Qb Qe ⟨λ_ _ _ _ _=>trivial,λ_ _ _ _ _=>trivial,trivial⟩ (λi aQ=>by cases aQ) ?_;repeat (first|(refine bQ Qe ?_;simp only[a8,a7,a6,aZ,aY])|(refine sx ?_ (λac a=> ?_) ?_;rotate_left;(focus have ah:=(ab.out.ext a.un).cell;clear a;go_simp<;>with_reducible rfl);simp only[a8,a7,a6,aZ,aY]))
    refine so (λK a G an z=> ?_) ?_
    ·have R:=bj.out K a.un;clear G a;go_simp;refine R.mono ?_;rintro e aK ⟨rfl,V⟩;exact z _ _ V rfl trivial
    rintro _ rfl;simp only[a8,a7,a6,aZ,aY];repeat (first|(refine bQ Qe ?_;simp only[a8,a7,a6,aZ,aY])|(refine sx ?_ (λac a=> ?_) ?_;rotate_left;(focus have ah:=(ab.out.ext a.un).cell;clear a;go_simp<;>with_reducible rfl);simp only[a8,a7,a6,aZ,aY]))
    refine so (λK a G an z=> ?_) ?_
    ·have R:=bi.out K a.un;clear G a;go_simp;refine R.mono ?_;rintro e aK ⟨rfl,V⟩;exact z _ _ V rfl trivial
    rintro _ rfl;simp only[a8,a7,a6,aZ,aY];repeat (first|(refine bQ Qe ?_;simp only[a8,a7,a6,aZ,aY])|(refine sx ?_ (λac a=> ?_) ?_;rotate_left;(focus have ah:=(ab.out.ext a.un).cell;clear a;go_simp<;>with_reducible rfl);simp only[a8,a7,a6,aZ,aY]))
    intro bk M G aO;clear G aO;simp only[ae,au];have aX:=O (aH.out.trans M.un);refine aN Qe Qd (λan z=> ?_);go_simp;refine z _ _ M ?_;clear z M;refine cz ?_;go_wp2_with fail;go_roundw
    case rel=>exact⟨A+1,m+1+(o+j),by go_num,congrArg (Value.int i64) Qf,by omega,O (by have:=a1.out;simp only[if_true]at this;omega),aX⟩
    case measure=>simp[intOf];omega
   ·have bH:=Ql.2 hk;have I:m+(o+j)<=1073741824:=by simpa[hk]using I
    have bm:IntKind.i64.wrap ((m:Int)+((o+j:Nat):Int))=((m+(o+j):Nat):Int):=by rw[<-ad (m+(o+j)) I];congr 1
    clear ad;go_wp2_with fail;refine cD 9 4 [(3,λv=>v=.int i64 (o:Int),λ_ _=>True),(6,λv=>v=.int i64 (j:Int),λ_ _=>True)] [] [1,4] mixed Qb Qb Qb Qe ⟨λ_ _ _ _ _=>trivial,λ_ _ _ _ _=>trivial,trivial⟩ (λi aQ=>by cases aQ) ?_;repeat (first|(refine bQ Qe ?_;simp only[a8,a7,a6,aZ,aY])|(refine sx ?_ (λac a=> ?_) ?_;rotate_left;(focus have ah:=(ab.out.ext a.un).cell;clear a;go_simp<;>with_reducible rfl);simp only[a8,a7,a6,aZ,aY]))
    refine so (λK a G an z=> ?_) ?_
    ·have R:=bj.out K a.un;clear G a;go_simp;refine R.mono ?_;rintro e aK ⟨rfl,V⟩;exact z _ _ V rfl trivial
    rintro _ rfl;simp only[a8,a7,a6,aZ,aY];repeat (first|(refine bQ Qe ?_;simp only[a8,a7,a6,aZ,aY])|(refine sx ?_ (λac a=> ?_) ?_;rotate_left;(focus have ah:=(ab.out.ext a.un).cell;clear a;go_simp<;>with_reducible rfl);simp only[a8,a7,a6,aZ,aY]))
    refine so (λK a G an z=> ?_) ?_
    ·have R:=bi.out K a.un;clear G a;go_simp;refine R.mono ?_;rintro e aK ⟨rfl,V⟩;exact z _ _ V rfl trivial
    rintro _ rfl;simp only[a8,a7,a6,aZ,aY];repeat (first|(refine bQ Qe ?_;simp only[a8,a7,a6,aZ,aY])|(refine sx ?_ (λac a=> ?_) ?_;rotate_left;(focus have ah:=(ab.out.ext a.un).cell;clear a;go_simp<;>with_reducible rfl);simp only[a8,a7,a6,aZ,aY]))
    intro bk M G aO;clear G aO;simp only[ae,au];have aX:=O (aH.out.trans M.un);refine aN Qe Qd (λan z=> ?_);go_simp;refine z _ _ M ?_;clear z M;refine cz ?_;go_wp2_with fail;go_roundw
    case rel=>exact⟨A+1,m+(o+j),by go_num,congrArg (Value.int i64) Qf,by omega,O (by have:=a1.out;rw[if_neg hk]at this;omega),aX⟩
    case measure=>simp[intOf];omega
  ·have br: ¬(A:Int)<N:=Qa
   have bA:=O (show m=aG by
    have:=bg.out;rw[aL (by have:=bh.out;omega),gk]at this
    omega)
   go_wp2_with fail;go_ret;exact⟨by rw[<-bA.out];rfl,X.out⟩
theorem k_: ∀(m:Nat) (xs:List St),fP xs<=m->fP xs<=1073741824->GF xs
 |0,xs,h,hw=>uf xs hw (λs a=>by have:=bO a;have:=s.wt_eq;omega)
 |m+1,xs,h,hw=>uf xs hw (λs a=>⟨k_ m s.body (by have:=bO a;have:=s.wt_eq;omega) (by have:=bO a;have:=s.wt_eq;omega),k_ m s.els (by have:=bO a;have:=s.wt_eq;omega) (by have:=bO a;have:=s.wt_eq;omega)⟩)
end
section
open Go.RowKit
theorem Bw (xs:List St) (a:fP xs<=1073741824):GF xs:=k_ _ xs (ak _) a
theorem uK (nm:List UInt8) (ps:List (List UInt8)) (a:List St) (aq:fP a<=6000000) (z:ps.length<=6000000) (P:Nat->Prop) (o:World) (A B:Option Addr) (c d:Nat) (R:db o P (.slice B a.length d) a):
  Calls prog 24 #[.agg #[.string (J nm),.slice A ps.length c,.slice B a.length d]] o λe w'=>e=.returned (.int i64 (i6 ⟨nm,ps,a⟩:Int))/\az o w':=by
 have K:=Z o (.cells #[.string (J nm),.slice A ps.length c,.slice B a.length d] 59);have al:=O K;have V:=O (aw o 59 #[.string (J nm),.slice A ps.length c,.slice B a.length d]);have ac:=lc a;obtain⟨q,w⟩: ∃q,gk a=q:=⟨_,rfl⟩
 have an:=O (λW (ah:az (o.alloc (.cells #[.string (J nm),.slice A ps.length c,.slice B a.length d] 59)) W)=>w▸Bw a Qa P W B _ d ((R.keep (.of_ext K) (Q:=P) (λb G _=>G)).keep (.of_ext ah) (Q:=P) (λb G _=>G)));have ak:=O (show i6 ⟨nm,ps,a⟩=4*(8+ps.length+q) by rw[<-w];rfl);rw[w]at ac;generalize ps.length=n at*;generalize a.length=m at*;clear R K w;go_enter func24,ntmps24;go_wp2_with fail;refine aB 10 3 [(6,λv=>v=.int i64 (q:Int),λ_ _=>True)] mixed Qb ⟨λ_ _ _ _ _=>trivial,trivial⟩ ?_;repeat (first|(refine bQ Qe ?_;simp only[a8,a7,a6,aZ,aY])|(refine sx ?_ (λab j=> ?_) ?_;rotate_left;(focus have ai:=(V.out.ext j.un).cell;clear j;go_simp<;>with_reducible rfl);simp only[a8,a7,a6,aZ,aY]))
 refine so (λI j z ar af=> ?_) ?_
 ·have ad:=an.out I j.un;clear z j;go_simp;refine ad.mono ?_;rintro e ap ⟨rfl,ag⟩;exact af _ _ ag rfl trivial
 rintro _ rfl;simp only[a8,a7,a6,aZ,aY];repeat (first|(refine bQ Qe ?_;simp only[a8,a7,a6,aZ,aY])|(refine sx ?_ (λab j=> ?_) ?_;rotate_left;(focus have ai:=(V.out.ext j.un).cell;clear j;go_simp<;>with_reducible rfl);simp only[a8,a7,a6,aZ,aY]))
 intro ao M z;clear z;simp only[ae,aQ];have aj:=O (al.out.trans M.un);clear M;go_wp2_with fail;go_ret;refine⟨congrArg (λX=>Ending.returned (.int i64 X)) ?_,aj.out⟩;rw[ak.out];simp[IntKind.wrap,IntKind.signed,IntKind.bits];omega
def GR (xs:List St):Prop:= ∀(P:Nat->Prop) (w:World) (A:Option Addr) (n c:Nat),BT w->db w P (.slice A n c) xs->Calls prog 75 #[.slice A n c] w λe w'=>e=.returned (.bool (m_ xs))/\az w w'
theorem AH {l:List St} {a:Nat} (h:a<l.length):m_ (l.drop a)=(GJ l[a]||m_ (l.drop (a+1))):=by
 rw[aD h,m_]
theorem BZ {l:List Ex} {a:Nat} (h:a<l.length):(l.drop a).any (λy=>decide (7<dZ y))=(decide (7<dZ l[a])||(l.drop (a+1)).any (λy=>decide (7<dZ y))):=by
 rw[aD h,j7]
theorem tO (xs:List St) (bT:fP xs<=1073741824) (a1: ∀s∈xs,GR s.body/\GR s.els):GR xs:=by
 intro P aX b8 n c aZ aN;obtain⟨b7,b4,br,bx⟩:=aN.form;injection br with bq bp bo;subst bq bp bo;have bw:=dF xs;have aR:=O aN;have bk:=O a1;have aG:=O aZ;have bb:=O (λs (bt:s∈xs)=>show gA s.ex<=1073741824 by have:=bO bt;have:=s.wt_eq;omega);obtain⟨N,ax⟩: ∃N,xs.length=N:=⟨_,rfl⟩
 have bi:=O ax;rw[ax]at aR bw;obtain⟨A,aK⟩: ∃bA,m_ xs=bA:=⟨_,rfl⟩
 have bH:=O (show m_ (xs.drop 0)=A from aK);have bC:=O (aS aX);rw[ax,aK];clear aN bx a1 ax aK aZ;go_enter func75,ntmps75;go_wp2_with fail
 go_loopw [9] (λI wr=> ∃(z:Nat),I=.int i64 (z:Int)/\z<=N/\Hid (m_ (xs.drop z)=A)/\Hid (az aX wr)) (λI _=>N-(intOf I).toNat)
 case atStart=>exact⟨0,rfl,aI _,bH,bC⟩
 case round=>
  obtain⟨z,rfl,bU,bg,ac⟩:=hrel;generalize wr=ap at*;by_cases hlt:z<N
  ·have bu:(z:Int)<N:=Qa
   have ar:z<xs.length:=by have:=bi.out;omega
   obtain⟨b,bR,e,b5,bS,rfl,j,bW,aC,aB,aP,a4,a3,ae,al,aj⟩:=aR.out.at_ z ar;have av:=AH ar;have aA:=bk.out _ (ay ar);have au:=bb.out _ (ay ar);obtain⟨y,aY⟩: ∃y,xs[z]=y:=⟨_,rfl⟩
   rw[aY]at aC aB ae al aj av aA au;clear aY;obtain⟨k,nm,K,X,V⟩:=y;simp only[St.k,St.nm,St.ex,St.body,St.els]at aC aB ae al aj aA au;rw[GJ]at av;have bE:=O (bg.out.symm.trans av);obtain⟨M,aO⟩: ∃m,K.length=m:=⟨_,rfl⟩
   obtain⟨aH,aE,rfl,_⟩:=ae.form;obtain⟨ao,an,rfl,_⟩:=al.form;obtain⟨ai,af,rfl,_⟩:=aj.form;rw[aO]at aP ae;have bj:=O aO;have bY:M<=1073741824:=by have:=dH K;omega
   have b3:=(ac.out.cell b _ j).trans aC;have b2:=(ac.out.cell b _ j).trans aB;have b1:=(ac.out.cell b _ j).trans aP;have b0:=(ac.out.cell b _ j).trans a4;have bZ:=(ac.out.cell b _ j).trans a3;have a2:=Z ap (.cells #[.int i64 k,.string (J nm),.slice aH M aE,.slice ao X.length an,.slice ai V.length af] 72);have aW:=O (aw ap 72 #[.int i64 k,.string (J nm),.slice aH M aE,.slice ao X.length an,.slice ai V.length af]);have ah:=O (ac.out.trans a2);have bF:=O (ae.keep (.of_ext ah.out) (Q:=P) (λb j _=>j));have bG:=O (al.keep (.of_ext ah.out) (Q:=P) (λb j _=>j));have be:=O (aj.keep (.of_ext ah.out) (Q:=P) (λb j _=>j));have aU:=O aA;have bD:=O au;have bI:=O (show(((K.drop 0).any (λy=>decide (7<dZ y))||(m_ X||m_ V))||m_ (xs.drop (z+1)))=A from bE.out.symm);have bB:=O (aS (ap.alloc (.cells #[.int i64 k,.string (J nm),.slice aH M aE,.slice ao X.length an,.slice ai V.length af] 72)));clear aC aB aP a4 a3 ae al aj aA av a2 aO au aR bk bb;go_wp2_with fail
   go_loopw [16] (λI wr=> ∃(i:Nat),I=.int i64 (i:Int)/\i<=M/\Hid ((((K.drop i).any (λy=>decide (7<dZ y))||(m_ X||m_ V))||m_ (xs.drop (z+1)))=A)/\Hid (az (ap.alloc (.cells #[.int i64 k,.string (J nm),.slice aH M aE,.slice ao X.length an,.slice ai V.length af] 72)) wr)) (λI _=>M-(intOf I).toNat)
   case atStart=>exact⟨0,rfl,aI _,bI,bB⟩
   case round=>
    obtain⟨i,rfl,bV,aT,w⟩:=hrel;by_cases hli:i<M
    ·have bv:(i:Int)<M:=Qa
     have aJ:i<K.length:=by have:=bj.out;omega
     obtain⟨ag,bQ,b6,rfl,ad,bX,ba,a9,a8,a7,a6,a5,aM⟩:=bF.out.at_ i aJ;have bd:=O (BZ aJ);have bm:=dG (ay aJ);have bn:=jj K[i];have bh:=O (qK _ K[i] (ak _) (by have:=bD.out;omega));generalize K[i]=y at*;have bP:=(w.out.cell ag _ ad).trans ba;have bN:=(w.out.cell ag _ ad).trans a9;have bM:=(w.out.cell ag _ ad).trans a8;have bL:=(w.out.cell ag _ ad).trans a7;have bK:=(w.out.cell ag _ ad).trans a6;have bJ:=(w.out.cell ag _ ad).trans a5;obtain⟨B,d,rfl,_⟩:=aM.form;have bf:=O ((aM.keep (.of_ext w.out) (Q:=P) (λb j _=>j)).keep (.of_ext (Z _ (.cells #[.int i64 y.k,.string (J y.op),.string (J y.nm),.string (J y.tx),.int i64 y.v,.slice B y.args.length d] 70))) (Q:=P) (λb j _=>j));have bc:=O (((aG.out.ext ah.out).ext w.out).ext (Z wr (.cells #[.int i64 y.k,.string (J y.op),.string (J y.nm),.string (J y.tx),.int i64 y.v,.slice B y.args.length d] 70)));clear ba a9 a8 a7 a6 a5 aM bm bn;by_cases h7:7<dZ y
     ·have bz:(7:Int)<(dZ y:Int):=Qa
      have o:=O (show A=true by rw[<-aT.out,bd.out,decide_eq_true h7];rfl);go_wp2_with (go_at_call 26;refine(bh.out P _ B _ d bf.out bc.out).mono ?_;rintro e aq ⟨rfl,a⟩;have G:=O (((ah.out.trans w.out).alloc' _).trans a);clear a);go_ret;exact⟨by rw[o.out];rfl,G.out⟩
     ·have bz: ¬(7:Int)<(dZ y:Int):=Qa
      have o:=O (show(((K.drop (i+1)).any (λy=>decide (7<dZ y))||(m_ X||m_ V))||m_ (xs.drop (z+1)))=A by rw[<-aT.out,bd.out,decide_eq_false h7];rfl);go_wp2_with (go_at_call 26;refine(bh.out P _ B _ d bf.out bc.out).mono ?_;rintro e aq ⟨rfl,a⟩;have G:=O ((w.out.alloc' _).trans a);clear a);go_roundw
      case rel=>exact⟨i+1,by go_num,by omega,o,G⟩
      case measure=>simp[intOf];omega
    ·have bv: ¬(i:Int)<M:=Qa
     have o:=O (show((m_ X||m_ V)||m_ (xs.drop (z+1)))=A by
      have:=aT.out;rw[aL (l:=K) (by have:=bj.out;omega)]at this
      exact this)
     have aD:=(aW.out.ext w.out).cell;have aF:=O (ah.out.trans w.out);have R:=aU.out.1 P wr ao _ an (aG.out.ext aF.out) (bG.out.keep (.of_ext w.out) (Q:=P) (λb j _=>j));have R:=O R
     cases hr1:m_ X with
     |true=>
      rw[hr1]at o R;have o:=O (show A=true from o.out.symm);go_wp2_with (go_at_call 75;refine R.out.mono ?_;rintro e aq ⟨rfl,a⟩;have G:=O (aF.out.trans a);clear a R);go_ret;exact⟨by rw[o.out];rfl,G.out⟩
     |false=>
      rw[hr1]at o R
      cases hr2:m_ V with
      |true=>
       rw[hr2]at o;have o:=O (show A=true from o.out.symm);go_wp2_with (first|(go_at_call 75;refine R.out.mono ?_;clear R;rintro e aq ⟨rfl,a⟩;have G:=O (aF.out.trans a);have aV:=O a;clear aD;have aD:=(aW.out.ext (w.out.trans a)).cell;clear a)|(go_at_call 75;have ab:=aU.out.2 P _ ai _ af (aG.out.ext G.out) (be.out.keep (.of_ext (w.out.trans aV.out)) (Q:=P) (λb j _=>j));rw[hr2]at ab;refine ab.mono ?_;clear ab;rintro e bl ⟨rfl,a⟩;have aQ:=O (G.out.trans a);clear a));go_ret;exact⟨by rw[o.out];rfl,aQ.out⟩
      |false=>
       rw[hr2]at o;have o:=O (show m_ (xs.drop (z+1))=A from o.out);go_wp2_with (first|(go_at_call 75;refine R.out.mono ?_;clear R;rintro e aq ⟨rfl,a⟩;have G:=O (aF.out.trans a);have aV:=O a;clear aD;have aD:=(aW.out.ext (w.out.trans a)).cell;clear a)|(go_at_call 75;have ab:=aU.out.2 P _ ai _ af (aG.out.ext G.out) (be.out.keep (.of_ext (w.out.trans aV.out)) (Q:=P) (λb j _=>j));rw[hr2]at ab;refine ab.mono ?_;clear ab;rintro e bl ⟨rfl,a⟩;have aQ:=O (G.out.trans a);clear a));go_roundw
       case rel=>exact⟨z+1,by go_num,by omega,o,aQ⟩
       case measure=>simp[intOf];omega
  ·have bu: ¬(z:Int)<N:=Qa
   have o:=O (show A=false by
    have:=bg.out;rw[aL (by have:=bi.out;omega),m_]at this
    exact this.symm)
   go_wp2_with fail;go_ret;exact⟨by rw[o.out];rfl,ac.out⟩
theorem mS: ∀(m:Nat) (xs:List St),fP xs<=m->fP xs<=1073741824->GR xs
 |0,xs,h,hw=>tO xs hw (λs a=>by have:=bO a;have:=s.wt_eq;omega)
 |m+1,xs,h,hw=>tO xs hw (λs a=>⟨mS m s.body (by have:=bO a;have:=s.wt_eq;omega) (by have:=bO a;have:=s.wt_eq;omega),mS m s.els (by have:=bO a;have:=s.wt_eq;omega) (by have:=bO a;have:=s.wt_eq;omega)⟩)
theorem ui {α a h:Type} (x:Except Er α) (k:α->Except Er a) (l:a->Except Er h):CR.then (CR.then x k) l=CR.then x λj=>CR.then (k j) l:=by cases x<;>rfl
abbrev CB.U (X:CB) (k:Nat):Prop:=k=X.g\/X.S k
section
variable {X:CB} {gl:Gl} {lv:Value} {lo lo':Ls} {w W:World}
theorem CK.lt (h:CK X gl lv lo w):X.g<w.heap.size/\X.bi<w.heap.size/\X.ba<w.heap.size/\X.bf<w.heap.size:=⟨h.blk.lt,h.i.lt,h.a.lt,h.f.lt⟩
theorem ic {b:Nat} {t:TypeId} {j:Array Value} {L:KF} (h:aU w b t j) (a:cd w b L):False:=by
 obtain⟨es,c,a,_⟩:=a;unfold aU at h;rw[h]at a;cases a
theorem CK.newL (h:CK X gl lv lo w) (G:X.g≠0):CK X gl (.map (some w.heap.size)) gc ((w.alloc (.map #[] 0)).setCell ⟨X.g,5,none⟩ (.map (some w.heap.size))):=by
 obtain⟨V,R,O,M⟩:=h.lt;have j:=Z w (.map #[] 0);have A:X.bi≠X.g:=λe=>ic h.blk (e▸h.i);have ha:X.ba≠X.g:=λe=>ic h.blk (e▸h.a);have K:X.bf≠X.g:=λe=>ic h.blk (e▸h.f);have z:=iw w;refine⟨?_,(h.i.ext j).set A _,(h.a.ext j).set ha _,(h.f.ext j).set K _,.inr ⟨_,rfl,?_,by omega,by omega,by omega,by omega⟩,?_⟩
 ·have:=(h.blk.ext j).set 5 (.map (some w.heap.size));simpa using this
 ·refine(z.set (p:=⟨X.g,5,none⟩) (by show _≠X.g;omega) _).congr λs=> ?_;simp[Fk,gc]
 ·obtain⟨t,fr,o⟩:=h.t.ext j;exact⟨t,fr,(Below.heap_setCell _ ⟨X.g,5,none⟩ _ _ (λe=>G e.symm)).trans o⟩
end
theorem yT {g:Gl} {lo:Ls} {l:List (List UInt8)} {a:Nat} (h:a<l.length):ou g lo (l.drop a)=if g.known lo l[a]=true then .error (l[a],9)else ou g (lo.add l[a]) (l.drop (a+1)):=by
 rw[aD h,ou]
theorem yU {g:Gl} {l:List Fc} {a:Nat} (h:a<l.length):ky g (l.drop a)=CR.then (ou g gc l[a].ps) λlo=>CR.then (gm g lo l[a].body) λ_=>ky g (l.drop (a+1)):=by
 rw[aD h,ky]
theorem vZ {l:List Fc} {a:Nat} (h:a<l.length):gJ (l.drop a)=if 20<l[a].ps.length+gk l[a].body\/m_ l[a].body=true then .error (l[a].nm,6)else gJ (l.drop (a+1)):=by
 rw[aD h,gJ]
def Ie (X:CB) (r:CR) (w:World) (e:Ending) (w':World):Prop:=Mv X.U w w'/\e=cu r
theorem zG (p:Pg) (bN:jo p<=6000000) (ax:CB) (bx:ax.Ok) (bS:ax.g≠0) (P:Nat->Prop) (z:World) (bU:ik z P ax.sv p.vs) (bi:jl z P ax.sf p.fs) (bA: ∀b,P b-> ¬ax.U b) (aJ:CK ax ob (.map none) gc z):
  Calls prog 37 #[ax.p] z (Ie ax (ig p) z):=by
 have ci:= @run_makeMap prog;have bk:=O (xH p bN ax bx P z bU bi (λb M ce=>bA b M (.inr ce)) aJ);have ck:p.fs.length<=6000000:=by have:=zr p;omega
 have b6:=O (λf (cr:f∈p.fs)=>show f.nm.length<=1073741824/\fP f.body<=6000000/\f.ps.length<=6000000/\ ∀y∈f.ps,y.length<=1073741824 by
  have aq:=oH cr;have al:=wS (f:=f);have bX:fP f.body<=f.wt:=by unfold Fc.wt;omega
  have bW:f.ps.length<=f.wt:=by
   have:=jv (λ_:List UInt8=>1) (λs=>s.length+1) f.ps (λv _=>by omega);rw[gv]at this;unfold Fc.wt;omega
  exact⟨by omega,by omega,by omega,λy aR=>by have:=Ar aR;omega⟩)
 obtain⟨I,bz⟩: ∃cE,ig p=cE:=⟨_,rfl⟩
 have b0:=O (show CR.then (ng p) (λg=>CR.then (ky g (p.fs.drop 0)) λ_=>gJ p.fs)=I from bz);rw[bz];clear bz bN;obtain⟨vs,G⟩:=p;generalize ng ⟨vs,G⟩=b9 at*;obtain⟨g,aK,aN,aM,aG,ca⟩:=ax;simp only[CB.p]at*;obtain⟨R,bh⟩: ∃n,G.length=n:=⟨_,rfl⟩
 obtain⟨B,av,cw⟩: ∃B av,ca=.slice B R av:=by obtain⟨cW,cC,V,_⟩:=bi;exact⟨cW,cC,by rw[V,bh]⟩
 subst cw;rw[bh]at ck;have bm:=O bh;have b5:=O (bi.keep (Q:=λb=>P b/\b<z.heap.size) ⟨ak _,λ_ _ _=>rfl⟩ (λb aq al=>⟨aq,al⟩));have aE:=O (λW (V:Mv (CB.U ⟨g,aK,aN,aM,aG,.slice B R av⟩) z W)=>show cR (λb=>P b/\b<z.heap.size) z W from V.keepP (λk cn _=>bA k cn.1));have c2:=O bx;have cS:=O bS;clear bU bi bA aJ bx bh bS
 cases b9 with
 |error q=>
  obtain⟨br,m⟩:=q;have ai:=O (show I=.error (br,m)from b0.out.symm);go_enter func37,ntmps37;go_wp2_with (go_at_call 71;refine bk.out.mono ?_;unfold H5 bq;rintro e a1 ⟨aj,rfl⟩;have ar:=O (aj.mono (S':=CB.U ⟨g,aK,aN,aM,aG,.slice B R av⟩) (λk _ V=> .inr V));clear aj bk);exact⟨rfl,ar.out,by rw[ai.out];rfl⟩
 |ok gl=>
  have cH:=O (show CR.then (ky gl (G.drop 0)) (λ_=>gJ G)=I from b0.out);go_enter func37,ntmps37;go_wp2_with (go_at_call 71;refine bk.out.mono ?_;unfold H5;rintro e a1 ⟨aj,rfl,bV⟩;have cM:=O (aj.mono (S':=CB.U ⟨g,aK,aN,aM,aG,.slice B R av⟩) (λk _ V=> .inr V));have b4:=O bV;have K:=b4.out.blk.cell;clear aj bV bk);clear K
  go_loopw [16] (λan wr=> ∃(ac:Nat) (bL:Value) (lo:Ls),an=.int i64 (ac:Int)/\ac<=R/\Hid (CR.then (ky gl (G.drop ac)) (λ_=>gJ G)=I)/\Hid (Mv (CB.U ⟨g,aK,aN,aM,aG,.slice B R av⟩) z wr)/\Hid (CK ⟨g,aK,aN,aM,aG,.slice B R av⟩ gl bL lo wr)) (λan _=>R-(intOf an).toNat)
  case atStart=>exact⟨0,_,_,rfl,aI _,cH,cM,b4⟩
  case round=>
   obtain⟨ac,bL,lo,rfl,c0,b2,ar,bo⟩:=hrel;generalize wr=a at*;by_cases hlt:ac<R
   ·have cj:(ac:Int)<R:=Qa
    have bv:ac<G.length:=by have:=bm.out;omega
    obtain⟨b,be,cb,cD,rfl,M,aU,aD,aq,al,ao,ap⟩:=o8 b5.out ac bv;have ag:=yU (g:=gl) bv;have aV:=b6.out _ (ay bv);obtain⟨y,aR⟩: ∃y,G[ac]=y:=⟨_,rfl⟩
    rw[aR]at aD ao ap ag aV;clear aR;obtain⟨nm,ps,w⟩:=y;simp only at aD ao ap ag aV;obtain⟨cg,cd,bt,bO⟩:=aV
    have bF:=O (show CR.then (ou gl gc (ps.drop 0)) (λlo=>CR.then (gm gl lo w) λ_=>CR.then (ky gl (G.drop (ac+1))) λ_=>gJ G)=I by
     rw[<-b2.out,ag,ui]
     simp only[ui,au])
    obtain⟨j,aj⟩: ∃m,ps.length=m:=⟨_,rfl⟩
    obtain⟨ad,ah,a5,ao⟩:=ao;rw[aj]at a5 bt;subst a5;have b3:=O aj;obtain⟨ab,X,rfl,_⟩:=ap.form;have cB:=((aE.out _ ar.out).cell _ aU M).trans aD;have cA:=((aE.out _ ar.out).cell _ aU M).trans aq;have cz:=((aE.out _ ar.out).cell _ aU M).trans al;have bl:=O ap;have cF:=O ao;have ba:=Z a (.cells #[.string (J nm),.slice ad j ah,.slice ab w.length X] 59);have bI:=O (bo.out.ext ba);have aF:=O (aw a 59 #[.string (J nm),.slice ad j ah,.slice ab w.length X]);have cK:=O (ar.out.alloc (.cells #[.string (J nm),.slice ad j ah,.slice ab w.length X] 59));have bg:=Z (a.alloc (.cells #[.string (J nm),.slice ad j ah,.slice ab w.length X] 59)) (.map #[] 0);have cm:=(bI.out.blk.ext bg).cell;have cl:=(bI.out.blk.ext bg).frozen;have cq:g≠a.heap.size:=by have:=bo.out.lt.1;simp only at this;omega
    have cp:a.heap.size≠g:=λe=>cq e.symm;have b8:=O ((aF.out.ext bg).far (p:=⟨g,5,none⟩) cp (.map (some (a.heap.size+1))));have cy:=b8.out.cell
    have cP:=O (show CK ⟨g,aK,aN,aM,aG,.slice (some ⟨b,be,none⟩) R av⟩ gl (.map (some (a.heap.size+1))) gc (((a.alloc (.cells #[.string (J nm),.slice ad j ah,.slice ab w.length X] 59)).alloc (.map #[] 0)).setCell ⟨g,5,none⟩ (.map (some (a.heap.size+1))))from by
     have:=bI.out.newL cS.out
     rwa [World.size_alloc]at this)
    have cL:=O ((cK.out.alloc (.map #[] 0)).set (p:=⟨g,5,none⟩) (λ_=> .inl rfl) (.map (some (a.heap.size+1))));have cU:=O (World.grownBy.refl (((a.alloc (.cells #[.string (J nm),.slice ad j ah,.slice ab w.length X] 59)).alloc (.map #[] 0)).setCell ⟨g,5,none⟩ (.map (some (a.heap.size+1)))) (some (a.heap.size+1)));have ch:a.heap.size+1≠a.heap.size:=Qa
    have bZ:=O (show z.heap.size<=a.heap.size from ar.out.size);have bc:=O (λW (V:World.grownBy (((a.alloc (.cells #[.string (J nm),.slice ad j ah,.slice ab w.length X] 59)).alloc (.map #[] 0)).setCell ⟨g,5,none⟩ (.map (some (a.heap.size+1)))) W (some (a.heap.size+1)))=>show Mv (CB.U ⟨g,aK,aN,aM,aG,.slice (some ⟨b,be,none⟩) R av⟩) z W from cL.out.tr (.of_grown (S:=λk=>k=a.heap.size+1) V (λk e=>by injection e with e;exact e.symm)) (λk aq al=>absurd al (by have:=bZ.out;omega)));clear aD aq al ap aj bg;go_wp2_with fail;clear cy cm cl ci
    go_loopw [27] (λan wr=> ∃(i:Nat) (af:Ls),an=.int i64 (i:Int)/\i<=j/\Hid (CR.then (ou gl af (ps.drop i)) (λlo=>CR.then (gm gl lo w) λ_=>CR.then (ky gl (G.drop (ac+1))) λ_=>gJ G)=I)/\Hid (World.grownBy (((a.alloc (.cells #[.string (J nm),.slice ad j ah,.slice ab w.length X] 59)).alloc (.map #[] 0)).setCell ⟨g,5,none⟩ (.map (some (a.heap.size+1)))) wr (some (a.heap.size+1)))/\Hid (CK ⟨g,aK,aN,aM,aG,.slice (some ⟨b,be,none⟩) R av⟩ gl (.map (some (a.heap.size+1))) af wr)) (λan _=>j-(intOf an).toNat)
    case atStart=>exact⟨0,gc,rfl,aI _,bF,cU,cP⟩
    case round=>
     obtain⟨i,af,rfl,co,aP,aW,bd⟩:=hrel;by_cases hli:i<j
     ·have bu:(i:Int)<j:=Qa
      have aC:i<ps.length:=by have:=b3.out;omega
      have cf: ∃aO a4,ad=some ⟨aO,a4,none⟩/\(P aO/\aO<z.heap.size)/\aO<z.heap.size/\z.cell? ⟨aO,a4+i,none⟩=some (.string (J ps[i])):=by
       rcases cF.out with V|⟨_,_,aO,a4,aq,al,bX,bW⟩
       ·rw[V]at aC;simp at aC
       ·exact⟨aO,a4,aq,al,bX,bW i aC⟩
      obtain⟨aO,a4,rfl,cu,ct,cc⟩:=cf;have cX:=((aE.out _ (bc.out _ aW.out)).cell _ cu ct).trans cc;have ag:=yT (g:=gl) (lo:=af) aC;have bM:=bO _ (ay aC);generalize ps[i]=y at*;have bR:=bd.out.blk.cell
      cases hkn:gl.known af y with
      |true=>
       have ai:=O (show I=.error (y,9) by rw[<-aP.out,ag,hkn];rfl);go_wp2_with (first|(go_at_call 72;refine(eE _ gl _ af _ bd.out y bM).mono ?_;rw[hkn];rintro e aX ⟨rfl,A⟩;have cJ:=O ((bc.out _ aW.out).trans (.of_ext A));clear A)|(go_at_call 73;refine(eD y 9 _).mono ?_;unfold bq;rintro e aX ⟨rfl,A⟩;have bb:=O (cJ.out.trans (.of_ext A));clear A));exact⟨rfl,bb.out,by rw[ai.out];rfl⟩
      |false=>
       have cv:ou gl af (ps.drop i)=ou gl (af.add y) (ps.drop (i+1)):=by rw[ag,hkn,if_neg Qc]
       go_wp2_with (first|(go_at_call 72;refine(eE _ gl _ af _ bd.out y bM).mono ?_;rw[hkn];rintro e aX ⟨rfl,A⟩;have cQ:=O (aW.out.trans (A.grownBy _));have bH:=O (bd.out.ext A);clear bR;have bR:=bH.out.blk.cell;clear A)|(at_mapUpdate;refine cZ Es rfl _ _ _ rfl bH.out.ml.1 rfl Qg rfl _ rfl ?_;intro bJ bP bw;have cO:=O (bH.out.add bP bw);have cT:=O (cQ.out.trans bw);clear bP bw));go_roundw
       case rel=>exact⟨i+1,af.add y,by go_num,by omega,O (by rw[<-cv];exact aP.out),cT,cO⟩
       case measure=>simp[intOf];omega
     ·have bu: ¬(i:Int)<j:=Qa
      have b1:=O (show CR.then (gm gl af w) (λ_=>CR.then (ky gl (G.drop (ac+1))) λ_=>gJ G)=I by
       have:=aP.out;rw[aL (l:=ps) (by have:=b3.out;omega),ou,e_]at this
       exact this)
      have c1:=(b8.out.grown aW.out (od ch.symm)).cell;have cI:=O (bc.out _ aW.out);have K:=mR _ w (ak _) Qa _ gl (a.heap.size+1) af (λb=>P b/\b<z.heap.size) wr ab _ X bd.out (bl.out.keep (aE.out _ cI.out) (λb M _=>M)) (λb M e=>by have:=bZ.out;omega);have bp:=O K;clear K
      cases aH:gm gl af w with
      |error q=>
       obtain⟨br,m⟩:=q;have ai:=O (show I=.error (br,m) by rw[<-b1.out,aH];rfl);go_wp2_with (go_at_call 74;have K:=bp.out;rw[aH]at K;refine K.mono ?_;unfold qm bq;rintro e aX ⟨a9,rfl⟩;have bG:=O (bc.out _ (aW.out.trans a9));clear a9 K bp);exact⟨rfl,bG.out,by rw[ai.out];rfl⟩
      |ok lo2=>
       have cG:=O (show CR.then (ky gl (G.drop (ac+1))) (λ_=>gJ G)=I by rw[<-b1.out,aH];rfl);go_wp2_with (go_at_call 74;have K:=bp.out;rw[aH]at K;refine K.mono ?_;unfold qm;rintro e aX ⟨a9,rfl,bT⟩;have bG:=O (bc.out _ (aW.out.trans a9));have cN:=O bT;clear a9 K bp bT);go_roundw
       case rel=>exact⟨ac+1,_,lo2,by go_num,by omega,cG,bG,cN⟩
       case measure=>simp[intOf];omega
   ·have cj: ¬(ac:Int)<R:=Qa
    have bF:=O (show gJ (G.drop 0)=I by
     have:=b2.out;rw[aL (by have:=bm.out;omega),ky,e_]at this
     exact this)
    have K:=bo.out.blk.cell;go_wp2_with fail;clear K
    go_loopw [53] (λan wr=> ∃(i:Nat),an=.int i64 (i:Int)/\i<=R/\Hid (gJ (G.drop i)=I)/\Hid (az a wr)) (λan _=>R-(intOf an).toNat)
    case atStart=>exact⟨0,rfl,aI _,bF,O (aS _)⟩
    case round=>
     obtain⟨i,rfl,co,aP,bD⟩:=hrel;by_cases hli:i<R
     ·have bu:(i:Int)<R:=Qa
      have aC:i<G.length:=by have:=bm.out;omega
      obtain⟨b,be,cb,cD,rfl,M,aU,aD,aq,al,ao,ap⟩:=o8 b5.out i aC;have ag:=vZ aC;have aV:=b6.out _ (ay aC);obtain⟨y,aR⟩: ∃y,G[i]=y:=⟨_,rfl⟩
      rw[aR]at aD ao ap ag aV;clear aR;obtain⟨nm,ps,w⟩:=y;simp only at aD ao ap ag aV;obtain⟨cg,cd,bt,bO⟩:=aV;obtain⟨j,aj⟩: ∃m,ps.length=m:=⟨_,rfl⟩
      obtain⟨ad,ah,a5,ao⟩:=ao;rw[aj]at a5 bt ag;subst a5;obtain⟨ab,X,rfl,_⟩:=ap.form;have bn:=O (ar.out.trans (.of_ext bD.out));have cB:=((aE.out _ bn.out).cell _ aU M).trans aD;have cA:=((aE.out _ bn.out).cell _ aU M).trans aq;have cz:=((aE.out _ bn.out).cell _ aU M).trans al;have ba:=Z wr (.cells #[.string (J nm),.slice ad j ah,.slice ab w.length X] 59);have aF:=O (aw wr 59 #[.string (J nm),.slice ad j ah,.slice ab w.length X]);have bC:=O (bD.out.trans ba);have bl:=O ((ap.keep (aE.out _ bn.out) (Q:=λb=>P b/\b<z.heap.size) (λb M _=>M)).keep (.of_ext ba) (Q:=λb=>P b/\b<z.heap.size) (λb M _=>M));have cs:=lc w;obtain⟨q,bf⟩: ∃q,gk w=q:=⟨_,rfl⟩
      obtain⟨r,aH⟩: ∃r,m_ w=r:=⟨_,rfl⟩
      rw[bf,aH]at ag;rw[bf]at cs;have b7:=O (λW (V:az (wr.alloc (.cells #[.string (J nm),.slice ad j ah,.slice ab w.length X] 59)) W)=>bf▸Bw w Qa (λb=>P b/\b<z.heap.size) W ab _ X (bl.out.keep (.of_ext V) (λb M _=>M)));have cV:=O (λW (V:az (wr.alloc (.cells #[.string (J nm),.slice ad j ah,.slice ab w.length X] 59)) W)=>aH▸mS _ w (ak _) Qa (λb=>P b/\b<z.heap.size) W ab _ X (bo.out.t.ext (bC.out.trans V)) (bl.out.keep (.of_ext V) (λb M _=>M)));have cY:IntKind.i64.wrap ((j:Int)+(q:Int))=(j:Int)+(q:Int):=Qf
      clear aD aq al ao ap aj ba bf aH;have bE:=O ag;clear ag;by_cases h20:20<j+q
      ·have bB:(20:Int)<(j:Int)+(q:Int):=Qa
       have cx:decide ((20:Int)<(j:Int)+(q:Int))=true:=decide_eq_true bB;have ai:=O (show I=.error (nm,6) by rw[<-aP.out,bE.out,if_pos (.inl h20)]);go_wp2_with fail;refine aB 13 4 [(5,λv=>v=.int i64 (q:Int),λ_ _=>True)] mixed Qb ⟨λ_ _ _ _ _=>trivial,trivial⟩ ?_;repeat (first|(refine bQ Qe ?_;simp only[a8,a7,a6,aZ,aY])|(refine sx ?_ (λa1 o=> ?_) ?_;rotate_left;(focus have a2:=(aF.out.ext o.un).cell;clear o;go_simp<;>with_reducible rfl);simp only[a8,a7,a6,aZ,aY]))
       refine so (λa3 o aA bY aJ=> ?_) ?_
       ·have K:=b7.out a3 o.un;clear aA o;go_simp;refine K.mono ?_;rintro e bK ⟨rfl,A⟩;exact aJ _ _ A rfl trivial
       rintro _ rfl;simp only[a8,a7,a6,aZ,aY];repeat (first|(refine bQ Qe ?_;simp only[a8,a7,a6,aZ,aY])|(refine sx ?_ (λa1 o=> ?_) ?_;rotate_left;(focus have a2:=(aF.out.ext o.un).cell;clear o;go_simp<;>with_reducible rfl);simp only[a8,a7,a6,aZ,aY]))
       intro bJ aT aA;clear aA;simp only[ae,aQ];have a2:=(aF.out.ext aT.un).cell;have bj:=O (bC.out.trans aT.un);clear aT;go_wp2_with (go_at_call 73;refine(eD nm 6 _).mono ?_;unfold bq;rintro e aX ⟨rfl,A⟩;have bb:=O (ar.out.trans (.of_ext (bj.out.trans A)));clear A);exact⟨rfl,bb.out,by rw[ai.out];rfl⟩
      ·have bB: ¬(20:Int)<(j:Int)+(q:Int):=Qa
       have cx:decide ((20:Int)<(j:Int)+(q:Int))=false:=decide_eq_false bB;go_wp2_with fail;refine aB 13 4 [(5,λv=>v=.int i64 (q:Int),λ_ _=>True),(11,λv=>v=.bool r,λ_ _=>True)] mixed Qb ⟨λ_ _ _ _ _=>trivial,λ_ _ _ _ _=>trivial,trivial⟩ ?_;repeat (first|(refine bQ Qe ?_;simp only[a8,a7,a6,aZ,aY])|(refine sx ?_ (λa1 o=> ?_) ?_;rotate_left;(focus have a2:=(aF.out.ext o.un).cell;clear o;go_simp<;>with_reducible rfl);simp only[a8,a7,a6,aZ,aY]))
       refine so (λa3 o aA bY aJ=> ?_) ?_
       ·have K:=b7.out a3 o.un;clear aA o;go_simp;refine K.mono ?_;rintro e bK ⟨rfl,A⟩;exact aJ _ _ A rfl trivial
       rintro _ rfl;simp only[a8,a7,a6,aZ,aY];repeat (first|(refine bQ Qe ?_;simp only[a8,a7,a6,aZ,aY])|(refine sx ?_ (λa1 o=> ?_) ?_;rotate_left;(focus have a2:=(aF.out.ext o.un).cell;clear o;go_simp<;>with_reducible rfl);simp only[a8,a7,a6,aZ,aY]))
       refine so (λa3 o aA bY aJ=> ?_) ?_
       ·have K:=cV.out a3 o.un;clear aA o;go_simp;refine K.mono ?_;rintro e bK ⟨rfl,A⟩;exact aJ _ _ A rfl trivial
       rintro _ rfl;simp only[a8,a7,a6,aZ,aY];repeat (first|(refine bQ Qe ?_;simp only[a8,a7,a6,aZ,aY])|(refine sx ?_ (λa1 o=> ?_) ?_;rotate_left;(focus have a2:=(aF.out.ext o.un).cell;clear o;go_simp<;>with_reducible rfl);simp only[a8,a7,a6,aZ,aY]))
       intro bJ aT aA;clear aA;simp only[ae,aQ];have a2:=(aF.out.ext aT.un).cell;have bj:=O (bC.out.trans aT.un);clear aT
       cases r with
       |false=>
        have ai:=O (show gJ (G.drop (i+1))=I by rw[<-aP.out,bE.out,if_neg Qh]);go_wp2_with fail;go_roundw
        case rel=>exact⟨i+1,by go_num,by omega,ai,bj⟩
        case measure=>simp[intOf];omega
       |true=>
        have ai:=O (show I=.error (nm,6) by rw[<-aP.out,bE.out,if_pos (.inr rfl)]);go_wp2_with (go_at_call 73;refine(eD nm 6 _).mono ?_;unfold bq;rintro e aX ⟨rfl,A⟩;have bb:=O (ar.out.trans (.of_ext (bj.out.trans A)));clear A);exact⟨rfl,bb.out,by rw[ai.out];rfl⟩
     ·have bu: ¬(i:Int)<R:=Qa
      have ai:=O (show I=.ok () by
       have:=aP.out;rw[aL (by have:=bm.out;omega),gJ]at this
       exact this.symm)
      go_wp2_with fail;exact bodyPost_end (results_none rfl _ _ _) rfl ⟨ar.out.trans (.of_ext bD.out),by rw[ai.out];rfl⟩
end
end Go.Proofs.YtddomeddabfinaaGreatDoor
