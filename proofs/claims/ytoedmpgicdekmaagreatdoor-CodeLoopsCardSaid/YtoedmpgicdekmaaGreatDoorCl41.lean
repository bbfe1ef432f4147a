/- Parts of the proof. -/
import Derived.Test.YtoedmpgicdekmaaGreatDoorCl00
import Derived.Test.YtoedmpgicdekmaaGreatDoorCl40
import Derived.Test.YtoedmpgicdekmaaGreatDoorCl35
set_option maxRecDepth 100000
set_option maxHeartbeats 8000000
set_option linter.unusedVariables false
set_option linter.unusedSimpArgs false
set_option linter.unusedSectionVars false
namespace Go.Proofs.YtoedmpgicdekmaaGreatDoor
open Go.Proofs.Tryz
section
open Go.RowKit
theorem yI {t:List UInt8} (d:0<t.length%4):lh (t++[0])=lh t:=by
 unfold lh;rw[aL]
 congr 1
 rw[ac,List.length_singleton];have a:(4-t.length%4)%4=(4-(t.length+1)%4)%4+1:=Qa
 rw[a,iZ];rfl
theorem AW {t:List UInt8} (d: ¬0<t.length%4):lh t=t:=by
 have a:(4-t.length%4)%4=0:=Qa
 unfold lh;rw[a];simp
theorem AV (t:List UInt8):(lh t).length<=t.length+3:=by unfold lh;simp;omega
theorem i'.txb {k:CC} {at_:List (Nm×Int)} {O:Nat->Prop} {w d:World} {s:CS} {vc vt vl vd vs v':Value} (h:i' k at_ vc vt vl vd vs w s) (z: ∀b,O b↔some b∈bJ k vc vt vl vd vs) (x:List UInt8)
  (y:gT d k.base 5 v' (s.tx++x)) (o:w.grownBy d vt.ownBlock) (a:v'.ownBlock=vt.ownBlock\/v'.ownBlock=some w.heap.size):
  aM d k.c 95 #[k.va,k.fa,vc,vt, .map (some k.bp), .map (some k.bs), .map (some k.ba),vl,vd,vs, .int .i64 s.frame]/\CP k at_ O w {s with tx:=s.tx++x} (d.setCell ⟨k.c,3,none⟩ v'):=by
 have u:=h.blk.grown o (fw h).2.2.1;refine⟨u,h.tx_cp z (by simpa using u.set 3 v') ?_ a ((jU o λb e=> .inr e).set (λ_=> .inl rfl) _)⟩;refine World.ownsRow.kept y (iK d k.c 3 _) ?_;rcases a with a|a
 ·exact .inr λe=>(fw h).2.2.1 (by rw[<-a];exact e.symm)
 ·exact .inr λe=>by
   have A:=(h.lo k.c (by simp[bJ])).2;rw[a]at e;injection e with e;omega
def IH (c:Nat) (w:World):Nat:=match w.cell? ⟨c,3,none⟩with
 |some (.slice _ n _)=>(4-n%4)%4
 | _=>0
theorem zO {k:CC} {at_:List (Nm×Int)} {O:Nat->Prop} {w:World} {s:CS} (m:CX k at_ O w s):IH k.c w=(4-s.tx.length%4)%4:=by
 obtain⟨_,vt,_,_,_,a,_⟩:=m;obtain⟨d,c,rfl⟩:=a.tx.form;unfold IH;rw[a.blk.cell 3];rfl
def Fk (at_ pl:List (Nm×Int)) (s:CS) (z:Int):py×Int:=
 if 3072<lW (4*s.code.length)+(lh s.tx).length+z then(⟨[],[],0,0⟩,6)
 else
  let code:=sY (lW (4*s.code.length)) (lh s.tx).length pl s.dats (sZ at_ s.calls s.code)
  if code.all eZ=true then(let f:py:=⟨code.flatMap kk,lh s.tx,z,0⟩;if(DC f).2=0 then(f,0)else(⟨[],[],0,0⟩,6))
  else(⟨[],[],0,0⟩,6)
theorem kf: ∀(l:List (Nat×Nm)) (i:Nat) (a:i<l.length) (j:Nat),j<2->(fO l)[i*2+j]? =(nz l[i])[j]?
 | [],i,a,j,hj=>by simp at a
 |x::l,0,a,j,hj=>by
  simp only[fO,bG,aY,aE,aF];rw[be (by simp[nz];omega)]
 |x::l,i+1,a,j,hj=>by
  have:=kf l i (by simpa using a) j hj;simp only[fO,bG,aP]at this⊢;rw[bD (by simp[nz];omega),<-this]
  congr 1
  simp[nz];omega
theorem yU {at_:List (Nm×Int)} {l:List (Nat×Nm)} {j:Nat} {c:List dl} (a:j<l.length):sZ at_ (l.drop j) c=sZ at_ (l.drop (j+1)) (c.modify l[j].1 (gL · (aR at_ l[j].2-l[j].1-1))):=by rw[ap a,sZ]
theorem yT {a tx:Int} {d:List (Nm×Int)} {l:List (Nat×Nm)} {j:Nat} {c:List dl} (h:j<l.length):sY a tx d (l.drop j) c=sY a tx d (l.drop (j+1)) (c.modify l[j].1 (addV · (if l[j].2=[]then a else a+(tx+aR d l[j].2)))):=by rw[ap h,sY]
def VB (c:List dl) (B:Int):Prop:= ∀x∈c,-B<=x.v/\x.v<=B
theorem VB.mono {c:List dl} {B D:Int} (d:VB c B) (e:B<=D):VB c D:=λx a=>by have:=d x a;omega
theorem VB.modify {c:List dl} {B:Int} (d:VB c B) (i:Nat) (f:dl->dl) (o: ∀x,-B<=x.v/\x.v<=B-> -B<=(f x).v/\(f x).v<=B):VB (c.modify i f) B:=by
 intro x h;obtain⟨j,a,rfl⟩:=List.mem_iff_getElem.1 h;rw[List.getElem_modify];rw[dS]at a;split
 ·exact o _ (d _ (ay a))
 ·exact d _ (ay a)
theorem wB (c:List dl) (i:Nat) (d:i<c.length) (f:dl->dl) (v:Int) (a:f c[i]=gL c[i] v):c.modify i f=c.modify i (gL · v):=by
 apply fR;intro j;rw[dZ,dZ];by_cases e:i=j
 ·subst e;simp[d,a]
 ·simp[e]
theorem wA (c:List dl) (i:Nat) (a b:Int):(c.modify i (gL · a)).modify i (gL · b)=c.modify i (gL · b):=by
 apply fR;intro j;rw[dZ,dZ,dZ];by_cases e:i=j
 ·simp[e,gL,Option.map_map,Function.comp_def]
 ·simp[e]
structure FQ (k:CC) (at_:List (Nm×Int)) (O0:Nat->Prop) (w0:World) (vc vt vl vd vs:Value) (pb:Nat) (t:TypeId) (cs:Array Value) (s:CS) (w:World):Prop where
 h:i' k at_ vc vt vl vd vs w s
 T:eb O0 w0 (λb=>some b∈bJ k vc vt vl vd vs) w
 x:LB (λb=>some b∈bJ k vc vt vl vd vs) w pb t cs
section
variable {k:CC} {at_:List (Nm×Int)} {O0:Nat->Prop} {w0 w w':World} {vc vt vl vd vs:Value} {pb:Nat} {t:TypeId} {cs:Array Value} {s:CS}
theorem FQ.ext (d:FQ k at_ O0 w0 vc vt vl vd vs pb t cs s w) (a:au w w'):FQ k at_ O0 w0 vc vt vl vd vs pb t cs s w':=
 ⟨d.h.keep a.size λb o=>a.obj (d.h.lo b o).2,d.T.ex a,d.x.ext a⟩
theorem FQ.setv {g d n:Nat} (a:FQ k at_ O0 w0 (.slice (some ⟨g,0,none⟩) n d) vt vl vd vs pb t cs s w) (y:s.code.length=n) (i:Nat) (z:i<n) (v:Int):
  FQ k at_ O0 w0 (.slice (some ⟨g,0,none⟩) n d) vt vl vd vs pb t cs {s with code:=s.code.modify i (gL · v)} (w.setCell ⟨g,i*5+4,none⟩ (.int .i64 v)):=by
 subst y;have u:=(fw a.h).2.1;have F:Mv (λb=>b=k.c\/Value.ownBlock (.slice (some ⟨g,0,none⟩) s.code.length d)=some b) w (w.setCell ⟨g,i*5+4,none⟩ (.int .i64 v)):=(gn _ _).set (p:=⟨g,i*5+4,none⟩) (λ_=> .inr rfl) _;have o:eb (λb=>some b∈bJ k (.slice (some ⟨g,0,none⟩) s.code.length d) vt vl vd vs) w (λb=>some b∈bJ k (.slice (some ⟨g,0,none⟩) s.code.length d) vt vl vd vs) (w.setCell ⟨g,i*5+4,none⟩ (.int .i64 v)):=
  ⟨(gn _ _).set (p:=⟨g,i*5+4,none⟩) (λ_=>by simp[bJ,Value.ownBlock]) _,λb A=> .inl A⟩
 refine⟨a.h.code_to (c':=s.code.modify i (gL · v)) (a.h.blk.far (p:=⟨g,i*5+4,none⟩) (λe=>u (by rw[e];rfl)) _) ?_ (.inl rfl) F,a.T.trans o,a.x.st o⟩;have:=a.h.code.stored (i*5+4) (.int .i64 v);rw[dS,mR _ _ _ z];simpa using this.1
end
theorem Mv.put4 {S:Nat->Prop} {a b:World} {g:Nat} (u:Mv S a b) (y:a.heap.size<=g) (x h d o:Value):Mv S a ((((b.setCell ⟨g,0,none⟩ x).setCell ⟨g,1,none⟩ h).setCell ⟨g,2,none⟩ d).setCell ⟨g,3,none⟩ o):=
 (((u.set (λe=>absurd e Qg) _).set (λe=>absurd e Qg) _).set (λe=>absurd e Qg) _).set (λe=>absurd e Qg) _
theorem nK (x:dl):(kk x).length=4:=by unfold kk;split<;>rfl
theorem qu: ∀(c:List dl),(c.flatMap kk).length=4*c.length
 | []=>rfl
 |x::l=>by rw[bG,ac,nK,qu l,ag];omega
theorem sS {c:List dl} {j:Nat} (a:j<c.length) (d:eZ c[j]=false): ¬c.all eZ=true:=λe=>by
 have:=List.all_eq_true.1 e _ (ay a);rw[d]at this;simp at this
theorem z' {c:List dl} {j:Nat} (a:j<c.length):(c.take (j+1)).flatMap kk=(c.take j).flatMap kk++kk c[j]:=by
 rw[aT a,ff];simp
theorem FQ.put4 {k:CC} {at_:List (Nm×Int)} {O0:Nat->Prop} {w0 w:World} {vc vt vl vd vs:Value} {pb:Nat} {t:TypeId} {cs:Array Value} {s:CS} (d:FQ k at_ O0 w0 vc vt vl vd vs pb t cs s w) (z:w0.heap.size<=pb) (x u o y:Value):
  i' k at_ vc vt vl vd vs ((((w.setCell ⟨pb,0,none⟩ x).setCell ⟨pb,1,none⟩ u).setCell ⟨pb,2,none⟩ o).setCell ⟨pb,3,none⟩ y) s/\Mv O0 w0 ((((w.setCell ⟨pb,0,none⟩ x).setCell ⟨pb,1,none⟩ u).setCell ⟨pb,2,none⟩ o).setCell ⟨pb,3,none⟩ y):=by
 refine⟨d.h.keep (by simp[World.setCell]) λb A=> ?_,d.T.1.put4 z _ _ _ _⟩;have a:b≠pb:=λe=>d.x.2 (e▸A);rw[Below.heap_setCell _ _ _ _ a,Below.heap_setCell _ _ _ _ a,Below.heap_setCell _ _ _ _ a,Below.heap_setCell _ _ _ _ a]
theorem gT.put4 {w:World} {base:Nat} {e:TypeId} {v:Value} {l:List UInt8} (d:gT w base e v l) {g:Nat} (u:g<base) (x o h a:Value):gT ((((w.setCell ⟨g,0,none⟩ x).setCell ⟨g,1,none⟩ o).setCell ⟨g,2,none⟩ h).setCell ⟨g,3,none⟩ a) base e v l:=by
 have q: ∀(w:World) (i:Nat) (a:Value),gT w base e v l->gT (w.setCell ⟨g,i,none⟩ a) base e v l:=λw i a d=>by
  refine World.ownsRow.kept d (iK w g i a) ?_;by_cases hv:v.ownBlock=none
  ·exact .inl hv
  ·exact .inr λe=>by have:=kq d g e;omega
 exact q _ _ _ (q _ _ _ (q _ _ _ (q _ _ _ d)))
theorem zn (k:CC) (at_:List (Nm×Int)) (O:Nat->Prop) (w:World) (s:CS) (H:Nat) (m:CX k at_ O w s) (cJ:ko k w) (cG:FT w) (d5:0<k.base) (dY:H<=100000000) (bB:s.big<=900000000)
  (cF:VB s.code 1000000000) (cB:0<s.code.length) (cI: ∀p∈s.calls,p.1<s.code.length/\p.2.length<=1000000000/\0<=aR at_ p.2/\aR at_ p.2<=1000000000)
  (cH: ∀p∈s.dats,p.1<s.code.length/\p.2.length<=1000000000/\0<=aR k.pl p.2/\aR k.pl p.2<=1000000000):
  Calls prog 34 #[.pointer (some ⟨k.c,0,none⟩), .int .i64 (H:Int)] w λe w'=>(∃af c B cM,e= .returned (.tuple #[(Fk at_ k.pl s H).1.val af B c cM, .int .i64 (Fk at_ k.pl s H).2])/\Sl w' af c (Fk at_ k.pl s H).1.code/\Sl w' B cM (Fk at_ k.pl s H).1.data)/\Mv O w w':=by
 have cS:=G (CQ.new m cJ 38 #[.slice none 0 0, .slice none 0 0, .int .i64 0, .int .i64 0]);have dK:=G m;have c7:=G cG;have cp:=G cF;have bS:=G cI;have bN:=G cH;have F:=G (show Fk at_ k.pl s H=if 3072<lW (4*s.code.length)+(lh s.tx).length+H then(⟨[],[],0,0⟩,6)else _ from rfl);have bu:=G bB;generalize Fk at_ k.pl s H=dA at*;clear m cJ cG cF cI cH bB;go_enter func34,ntmps34
 go_upto_region 1 with fail
 generalize World.alloc w _=d8 at*;have cV:=G (show lh s.tx=lh s.tx from rfl)
 go_loopw [] (λwr=> ∃(bF:Nat->Prop) (t1:List UInt8),Hid (CQ k at_ O w w.heap.size 38 #[.slice none 0 0, .slice none 0 0, .int .i64 0, .int .i64 0] bF {s with tx:=t1} wr)/\Hid (lh t1=lh s.tx)) (λwr=>IH k.c wr)
 case atStart=>exact⟨_,s.tx,cS,cV⟩
 case round=>
  obtain⟨bF,t1,ao,bI⟩:=hrel;clear cS cV;generalize wr=aH at*;obtain⟨vc,vt,vl,vd,vs,A,cE⟩:=id ao.out.m;obtain⟨R,M,rfl⟩:=A.tx.form;have ad:Hid (i' k at_ vc (.slice R t1.length M) vl vd vs aH {s with tx:=t1}):=G A;have bL:Hid (∀b,bF b↔some b∈bJ k vc (.slice R t1.length M) vl vd vs):=G cE;have u:=A.blk.cell;have dZ:t1.length<=900000010:=by
   have a1:=AV s.tx;have aY:=Fh bu.out;have bD:t1.length<=(lh t1).length:=by unfold lh;simp
   rw[bI.out]at bD;omega
  simp only at u;have c3:=G (show IH k.c aH=(4-t1.length%4)%4 from zO ao.out.m);clear A cE;by_cases hp:0<t1.length%4
  ·have ds:(0:Int)<(t1.length:Int)%4:=Qa
   have dG:=G (yI hp);have dJ:=G (show(4-(t1++[(0:UInt8)]).length%4)%4<(4-t1.length%4)%4 by simp;omega);clear hp;go_wp2_with (at_builtin;refine eF bt rfl _ _ rfl k.base _ t1 rfl (ad.out.tx.ext (aa aH _)) _ _ [0] rfl (p9 aH 5 0) Qg (by rw[World.size_alloc];have:=(fw ad.out).1;omega) ?_;intro ec c2 dV a9 aX cu;obtain⟨cd,d9,bD,cD⟩:=(ad.out.keep (aa aH _).size λb bB=>(aa aH _).obj (ad.out.lo b bB).2).txb bL.out [0] (by simpa using a9) aX cu;have a3:=G ((ao.out.ext (aa aH _)).nx bD cD);clear u;have u:=cd.cell;have a2:=cd.frozen;clear a9 aX cu cd bD cD ao ad bL);go_roundw
   case rel=>exact⟨_,t1++[0],a3,G (dG.out.trans bI.out)⟩
   case measure=>
    rw[c3.out];exact Nat.lt_of_le_of_lt (fC (zO a3.out.m)) dJ.out
  ·have ds: ¬(0:Int)<(t1.length:Int)%4:=Qa
   have cT:=G (show lh s.tx=t1 from bI.out.symm.trans (AW hp));rw[cT.out]at F;clear hp bI cT c3;obtain⟨eb,bj,rfl⟩:=ka ad.out.code;have cA:=aZ bu.out;have am:s.code=({s with tx:=t1}:CS).code:=rfl;have bi:s.calls=({s with tx:=t1}:CS).calls:=rfl;have bh:s.dats=({s with tx:=t1}:CS).dats:=rfl;have ci:t1=({s with tx:=t1}:CS).tx:=rfl;have cL:=qo bu.out;have cK:=sU bu.out;rw[am,bi,bh]at F cp bS bN;rw[am]at cA u ad cB;rw[bi]at cL;rw[bh]at cK;generalize ({s with tx:=t1}:CS)=d at*;subst ci;clear am bi bh bu;have dp:IntKind.i64.wrap (4*(d.code.length:Int))=4*(d.code.length:Int):=Qc
   have dr:(4*(d.code.length:Int)+127).tdiv 128=(4*(d.code.length:Int)+127)/128:=jm Qa;have dq:IntKind.i64.wrap (4*(d.code.length:Int)+128)=4*(d.code.length:Int)+128:=Qc
   have dn:IntKind.i64.wrap (4*(d.code.length:Int)+128-1)=4*(d.code.length:Int)+127:=Qc
   have dm:IntKind.i64.wrap ((4*(d.code.length:Int)+127)/128)=(4*(d.code.length:Int)+127)/128:=Qc
   obtain⟨U,al⟩: ∃U,(4*(d.code.length:Int)+127)/128*128=U:=⟨_,rfl⟩
   have cC:lW (4*d.code.length)=U:=al;rw[cC]at F;have d2:0<=U/\U<=4000000000:=Qa
   have dk:IntKind.i64.wrap U=U:=Qc
   have dj:IntKind.i64.wrap (U+(d.tx.length:Int))=U+d.tx.length:=Qc
   have di:IntKind.i64.wrap (U+(d.tx.length:Int)+H)=U+d.tx.length+H:=Qc
   clear cC;by_cases hfit:3072<U+(d.tx.length:Int)+H
   ·rw[if_pos hfit]at F;have bZ:=ao.out.x.1.cell;have a2:=ao.out.x.1.frozen;have aS:=G (ao.out.x.1.put4 (.slice none 0 0) (.slice none 0 0) (.int .i64 0) (.int .i64 0)).cell;have aN:=G (ao.out.T.1.put4 (ah _) (.slice none 0 0) (.slice none 0 0) (.int .i64 0) (.int .i64 0));go_wp2_with fail;have aO:=aS.out;exact bodyPost_ret (v:= .tuple #[.agg #[.slice none 0 0, .slice none 0 0, .int .i64 0, .int .i64 0], .int .i64 6]) (by simp[results,results34,go_sem,aO]) rfl ⟨⟨none,0,none,0,by rw[F.out];rfl,by rw[F.out];exact eI _,by rw[F.out];exact eI _⟩,aN.out⟩
   ·rw[if_neg hfit]at F
    go_upto_region 4 with fail
    clear dr dq dn dm;replace al:=G al;obtain⟨bk,bb,rfl⟩:=ka ad.out.calls;obtain⟨bG,ld,rfl⟩:=ka ad.out.dats;rcases ad.out.code.2 with⟨aE,d6⟩|⟨g,ap,cur,aE,_⟩
    ·omega
    injection aE with a1 _ aY;subst a1 aY;obtain rfl:bF=λb=>some b∈bJ k (.slice (some ⟨g,0,none⟩) d.code.length bj) (.slice R d.tx.length M) (.slice bk d.calls.length bb) (.slice bG d.dats.length ld) vs:=funext λb=>propext (bL.out b);have a3:=G (FQ.mk ad.out ao.out.T ao.out.x);clear ad bL ao
    go_upto_region 7 with fail
    have d1:U<=3072/\(d.tx.length:Int)<=3072/\(H:Int)<=3072:=Qa
    clear dp dk dj di hfit u;obtain⟨bW,bf⟩: ∃bW,sZ at_ d.calls d.code=bW:=⟨_,rfl⟩
    rw[bf]at F;replace bf:=G (show sZ at_ (d.calls.drop 0) d.code=bW from bf);obtain⟨N,cg⟩: ∃N,d.code.length=N:=⟨_,rfl⟩
    have c5:=G (show d.code.length=N/\VB d.code 1000000000 from⟨cg,cp.out⟩);obtain⟨aq,cf⟩: ∃N,d.calls.length=N:=⟨_,rfl⟩
    have a5:=G cf;rw[cg]at a3 cB cA bS bN al⊢;have cm:=G (show FQ k at_ O w (.slice (some ⟨g,0,none⟩) N bj) (.slice R d.tx.length M) (.slice bk d.calls.length bb) (.slice bG d.dats.length ld) vs w.heap.size 38 #[.slice none 0 0, .slice none 0 0, .int .i64 0, .int .i64 0] {d with code:=d.code} aH from a3.out);rw[cf]at cm cL⊢;clear a3 cg cf cp
    go_loopw [60] (λag wr=> ∃(j:Nat) (c2:List dl),ag= .int .i64 (j:Int)/\j<=aq/\Hid (FQ k at_ O w (.slice (some ⟨g,0,none⟩) N bj) (.slice R d.tx.length M) (.slice bk aq bb) (.slice bG d.dats.length ld) vs w.heap.size 38 #[.slice none 0 0, .slice none 0 0, .int .i64 0, .int .i64 0] {d with code:=c2} wr)/\Hid (sZ at_ (d.calls.drop j) c2=bW)/\Hid (c2.length=N/\VB c2 1000000000)) (λag _=>aq-(intOf ag).toNat)
    case atStart=>exact⟨0,d.code,rfl,aD _,cm,bf,c5⟩
    case round=>
     obtain⟨j,c2,rfl,cc,aV,bR,aF⟩:=hrel;clear cm bf c5;generalize wr=b4 at*;by_cases hlt:j<aq
     ·have aP:(j:Int)<(aq:Int):=Qa
      have aA:j<d.calls.length:=by rw[a5.out];exact hlt
      obtain⟨av,bc,b7,b6⟩:=bS.out _ (ay aA);have da:=G ((yU aA).symm.trans bR.out);have ai:=aV.out.h.calls;rw[show({d with code:=c2}:CS).calls=d.calls from rfl]at ai;rcases ai.2 with⟨_,aE⟩|⟨gl,cap',cur',aE,_⟩
      ·rw[a5.out]at aE;omega
      injection aE with a1 _ aY;subst a1 aY;have e0:b4.cell? ⟨gl,j*2,none⟩=some (.int .i64 (d.calls[j].1:Int)):=by
       have be:=ai;rw[a5.out]at be;rw[be.cellAt _ Qa,show j*2=j*2+0 from rfl,kf _ _ aA 0 Qa];rfl
      have am:b4.cell? ⟨gl,j*2+1,none⟩=some (.string (ak d.calls[j].2)):=by
       have be:=ai;rw[a5.out]at be;rw[be.cellAt _ Qa,kf _ _ aA 1 Qa];rfl
      generalize d.calls[j]=p at*;obtain⟨o,y⟩:=p;simp only at av bc b7 b6 e0 am da;clear ai;have ca:=ax bc (show 1000000000<=maxLen by decide)
      go_upto_region 9 with fail
      generalize aj:World.alloc b4 _=W1;obtain⟨V,ac,_⟩:=kZ aj;have aK:=eJ (aG W1);have I:=G (aV.out.ext (V.trans aK));have u:=I.out.h.blk.cell;have cq:=(ac.out.ext aK).cell;have df:(Instr.lookup 88 (.map (some k.ba)) (.string (ak y)) false).run prog W1.drew= .ok (.int .i64 (aR at_ y)) W1.drew:=by
       rw[(I.out.h.at_.look wu ca).1];unfold gx aR
       cases gA at_ y<;>rfl
      have aL:=G (I.out.setv aF.out.1 o av (aR at_ y-o-1));have dL:=G (show(c2.modify o (gL · (aR at_ y-o-1))).length=N/\VB (c2.modify o (gL · (aR at_ y-o-1))) 1000000000 from⟨by rw[dS];exact aF.out.1,aF.out.2.modify o _ λx _=>by simp only[gL];omega⟩);have z:=I.out.h.code;rw[show({d with code:=c2}:CS).code=c2 from rfl,aF.out.1]at z;have c1: ∃ct,W1.drew.cell? ⟨g,o*5+4,none⟩=some ct:=⟨_,by rw[z.cellAt _ Qa,fL _ _ (by rw[aF.out.1];exact av) 4 Qa];rfl⟩
      obtain⟨ct,c1⟩:=c1;have ch:=z.frozenAt (o*5+4);generalize aR at_ y=an at*;have dw:(o:Int)<(N:Int):=Qa
      have b8:IntKind.i64.wrap (an-o)=an-o:=Qc
      have dh:IntKind.i64.wrap (an-o-1)=an-o-1:=Qc
      clear aj V ac aK I aV z e0 am bR aF;go_region;all_goals
       go_wp2_with fail;go_roundw
       case rel=>exact⟨j+1,_,by go_num,by omega,aL,da,dL⟩
       case measure=>simp[intOf];omega
     ·have cb:aq=j:=Qa
      subst cb;have aP: ¬(aq:Int)<(aq:Int):=Qa
      have bl:=bR.out;rw[bQ (by have:=a5.out;omega),sZ]at bl;subst bl;clear bR hlt cc;have u:=aV.out.h.blk.cell;obtain⟨aQ,ce⟩: ∃N,d.dats.length=N:=⟨_,rfl⟩
      have bM:=G ce;rw[ce]at aV u cK;obtain⟨bX,bg⟩: ∃bX,sY U d.tx.length k.pl d.dats c2=bX:=⟨_,rfl⟩
      rw[bg]at F;replace bg:=G (show sY U d.tx.length k.pl (d.dats.drop 0) c2=bX from bg);have c4:=G (show c2.length=N/\VB c2 (1000000000+((0:Nat):Int)*1100000000)from⟨aF.out.1,by simpa using aF.out.2⟩);clear ce aF bS
      go_upto_region 12 with fail
      clear aP u
      go_loopw [89] (λag wr=> ∃(j:Nat) (c2:List dl),ag= .int .i64 (j:Int)/\j<=aQ/\Hid (FQ k at_ O w (.slice (some ⟨g,0,none⟩) N bj) (.slice R d.tx.length M) (.slice bk aq bb) (.slice bG aQ ld) vs w.heap.size 38 #[.slice none 0 0, .slice none 0 0, .int .i64 0, .int .i64 0] {d with code:=c2} wr)/\Hid (sY U d.tx.length k.pl (d.dats.drop j) c2=bX)/\Hid (c2.length=N/\VB c2 (1000000000+(j:Int)*1100000000))) (λag _=>aQ-(intOf ag).toNat)
      case atStart=>exact⟨0,c2,rfl,aD _,aV,bg,c4⟩
      case round=>
       obtain⟨j,c2,rfl,cc,I,bP,ab⟩:=hrel;clear aV bg c4;generalize wr=X at*;by_cases hlt:j<aQ
       ·have aP:(j:Int)<(aQ:Int):=Qa
        have aA:j<d.dats.length:=by rw[bM.out];exact hlt
        obtain⟨av,bc,b7,b6⟩:=bN.out _ (ay aA);have a7:=G ((yT aA).symm.trans bP.out);have ai:=I.out.h.dats;rw[show({d with code:=c2}:CS).dats=d.dats from rfl,bM.out]at ai;rcases ai.2 with⟨_,aE⟩|⟨gl,cap',cur',aE,_⟩
        ·omega
        injection aE with a1 _ aY;subst a1 aY;have e0:X.cell? ⟨gl,j*2,none⟩=some (.int .i64 (d.dats[j].1:Int)):=by
         rw[ai.cellAt _ Qa,show j*2=j*2+0 from rfl,kf _ _ aA 0 Qa];rfl
        have am:X.cell? ⟨gl,j*2+1,none⟩=some (.string (ak d.dats[j].2)):=by
         rw[ai.cellAt _ Qa,kf _ _ aA 1 Qa];rfl
        generalize d.dats[j]=p at*;obtain⟨o,y⟩:=p;simp only at av bc b7 b6 e0 am a7;clear ai;have ca:=ax bc (show 1000000000<=maxLen by decide)
        go_upto_region 14 with fail
        generalize aj:World.alloc X _=W1;obtain⟨V,ac,_⟩:=kZ aj;have aK:=eJ (aG W1);have aU:=G (I.out.ext (V.trans aK));have u:=aU.out.h.blk.cell;have cq:=(ac.out.ext aK).cell;have z:=aU.out.h.code;rw[show({d with code:=c2}:CS).code=c2 from rfl,ab.out.1]at z;have bd:o<c2.length:=by rw[ab.out.1];exact av
        have c1:W1.drew.cell? ⟨g,o*5+4,none⟩=some (.int .i64 c2[o].v):=by rw[z.cellAt _ Qa,fL _ _ bd 4 Qa];rfl
        have ch:=z.frozenAt (o*5+4);have cw:=ab.out.2 _ (ay bd);have aL:=G (show FQ k at_ O w _ _ _ _ _ _ _ _ {d with code:=c2.modify o (gL · (c2[o].v+U))} (W1.setCell ⟨g,o*5+4,none⟩ (.int .i64 (c2[o].v+U))).drew from aU.out.setv ab.out.1 o av (c2[o].v+U))
        have ck:=G (show aM (W1.setCell ⟨g,o*5+4,none⟩ (.int .i64 (c2[o].v+U))).drew _ _ _ from(ac.out.ext aK).far (p:=⟨g,o*5+4,none⟩) (λe=>by
         have:=(I.out.h.lo g (by simp[bJ,Value.ownBlock])).2;simp only at e
         omega) _)
        have bH:=G (λcN=>wB c2 o bd (addV · cN) (c2[o].v+cN) rfl);generalize c2[o].v=J at*;have dw:(o:Int)<(N:Int):=Qa
        have b8:IntKind.i64.wrap (J+U)=J+U:=Qc
        clear aj V ac aK aU I z e0 am bP;go_region;generalize World.drew (World.setCell W1 _ _)=cj at*;clear u c1 ch cq b8;have de:=ck.out.cell;by_cases hne:y=[]
        ·subst hne;rw[if_pos rfl,bH.out]at a7;have co:=G (show(c2.modify o (gL · (J+U))).length=N/\VB (c2.modify o (gL · (J+U))) (1000000000+((j+1:Nat):Int)*1100000000)from⟨by rw[dS];exact ab.out.1,(ab.out.2.mono Qa).modify o _ λx _=>by simp only[gL];omega⟩);clear bH ab cw bd;go_wp2_with fail;go_roundw
         case rel=>exact⟨j+1,_,by go_num,by omega,aL,a7,co⟩
         case measure=>simp[intOf];omega
        ·rw[if_neg hne,bH.out]at a7;have du:(y==[])=false:=Qn.2 hne;have dt:y.isEmpty=false:=by cases y with|nil=>exact absurd rfl hne|cons an l=>rfl
         clear hne
         go_upto_region 16 with fail
         have cP:=G (λW (A:au cj W)=>show(Instr.lookup 88 (.map (some k.bp)) (.string (ak y)) false).run prog W= .ok (.int .i64 (aR k.pl y)) W by
          rw[((aL.out.ext A).h.pl.look wu ca).1];unfold gx aR
          cases gA k.pl y<;>rfl)
         have bz:(c2.modify o (gL · (J+U))).length=N:=by rw[dS];exact ab.out.1
         have cy:o<(c2.modify o (gL · (J+U))).length:=by rw[bz];exact av
         have CK:=G (λW (A:au cj W)=>show W.cell? ⟨g,o*5+4,none⟩=some (.int .i64 (J+U))/\W.frozen? ⟨g,o*5+4,none⟩=false by
          have z:=(aL.out.ext A).h.code;rw[show({d with code:=c2.modify o (gL · (J+U))}:CS).code=c2.modify o (gL · (J+U))from rfl,bz]at z;refine⟨?_,z.frozenAt _⟩;rw[z.cellAt _ Qa,fL _ _ cy 4 Qa]
          simp[mS,gL])
         have cU:=G (λW (A:au cj W)=>show FQ k at_ O w (.slice (some ⟨g,0,none⟩) N bj) (.slice R d.tx.length M) (.slice bk aq bb) (.slice (some ⟨gl,0,none⟩) aQ ld) vs w.heap.size 38 #[.slice none 0 0, .slice none 0 0, .int .i64 0, .int .i64 0] {d with code:=c2.modify o (gL · (J+U+(d.tx.length+aR k.pl y)))} (W.setCell ⟨g,o*5+4,none⟩ (.int .i64 (J+U+(d.tx.length+aR k.pl y)))) by
          have:=(aL.out.ext A).setv bz o av (J+U+(d.tx.length+aR k.pl y));simp only at this;rw[wA]at this
          exact this)
         rw[show J+(U+(d.tx.length+aR k.pl y))=J+U+(d.tx.length+aR k.pl y) by omega]at a7;have co:=G (show(c2.modify o (gL · (J+U+(d.tx.length+aR k.pl y)))).length=N/\VB (c2.modify o (gL · (J+U+(d.tx.length+aR k.pl y)))) (1000000000+((j+1:Nat):Int)*1100000000)from⟨by rw[dS];exact ab.out.1,(ab.out.2.mono Qa).modify o _ λx _=>by simp only[gL];omega⟩);generalize aR k.pl y=an at*;have b8:IntKind.i64.wrap ((d.tx.length:Int)+an)=d.tx.length+an:=Qc
         have dh:IntKind.i64.wrap (J+U+((d.tx.length:Int)+an))=J+U+(d.tx.length+an):=Qc
         clear de bz cy bH ab cw bd du dt;refine aB 25 1 [] mixed Qb trivial ?_;repeat (refine sx ?_ (λdW al=> ?_) ?_;rotate_left;(focus have u:=(aL.out.ext al.un).h.blk.cell;have dT:=(ck.out.ext al.un).cell;have df:=cP.out _ al.un;have c1:=(CK.out _ al.un).1;clear al;go_simp<;>with_reducible rfl);simp only[bA,bx,bw,br,bo])
         intro cr b9 _;simp only[ae,aw];have dH:=G (cU.out cr b9.un);obtain⟨c1,ch⟩:=CK.out cr b9.un;clear b9 CK cU cP aL ck;go_wp2_with fail;go_roundw
         case rel=>exact⟨j+1,_,by go_num,by omega,dH,a7,co⟩
         case measure=>simp[intOf];omega
       ·have cb:j=aQ:=Qa
        subst cb;have aP: ¬(j:Int)<(j:Int):=Qa
        have bl:=bP.out;rw[bQ (by have:=bM.out;omega),sY]at bl;subst bl;clear bP hlt cc a5 bM bN aP
        have c6:=G (show FT X from by
         obtain⟨t,fr,A⟩:=c7.out;refine⟨t,fr,(I.out.T.1.block _ (Array.getElem?_eq_some_iff.1 A).1 λe=> ?_).trans A⟩;have:=(dK.out.lt e).1
         omega)
        have cz:=ab.out.1;have bm:=G cz;clear ab c7;have u:=I.out.h.blk.cell;rw[show({d with code:=c2}:CS).frame=d.frame from rfl]at u
        go_upto_region 19 with fail
        generalize aj:World.alloc X _=W1;obtain⟨V,ac,_⟩:=kZ aj;have c9:=G V;have u:=((I.out.ext V).h.blk).cell;rw[show({d with code:=c2}:CS).frame=d.frame from rfl]at u;have cZ:=G (show gT W1 (X.heap.size+1) 5 (.slice none 0 0) ((c2.take 0).flatMap kk)from World.ownsRow_nil _ _ _ _);have dd:=G (show(c2.take 0).all eZ=true from rfl);clear aj V cz
        go_upto_region 20 with fail
        clear u
        go_loopw [146] (λag wr=> ∃(i:Nat) (af:Option Addr) (n ap:Nat),ag= .int .i64 (i:Int)/\i<=N/\Hid (n=4*i)/\Hid (au X wr)/\Hid (aM wr X.heap.size 38 #[.slice af n ap, .slice R d.tx.length M, .int .i64 (H:Int), .int .i64 0])/\Hid (gT wr (X.heap.size+1) 5 (.slice af n ap) ((c2.take i).flatMap kk))/\Hid ((c2.take i).all eZ=true)) (λag _=>N-(intOf ag).toNat)
        case atStart=>exact⟨0,none,0,0,rfl,aD _,G rfl,c9,ac,cZ,dd⟩
        case round=>
         obtain⟨i,af,n,ap,rfl,dy,dD,aW,bV,a4,bv⟩:=hrel;clear cZ dd c9 ac;generalize wr=aI at*;by_cases hlt:i<N
         ·have aP:(i:Int)<(N:Int):=Qa
          have aJ:i<c2.length:=by rw[bm.out];exact hlt
          have aU:=G (I.out.ext aW.out);have z:=aU.out.h.code;rw[show({d with code:=c2}:CS).code=c2 from rfl,bm.out]at z;have e0:aI.cell? ⟨g,i*5,none⟩=some (.int .i64 c2[i].op):=by rw[z.cellAt _ Qa,show i*5=i*5+0 from rfl,fL _ _ aJ 0 Qa];rfl
          have am:aI.cell? ⟨g,i*5+1,none⟩=some (.int .i64 c2[i].a):=by rw[z.cellAt _ Qa,fL _ _ aJ 1 Qa];rfl
          have bi:aI.cell? ⟨g,i*5+2,none⟩=some (.int .i64 c2[i].b):=by rw[z.cellAt _ Qa,fL _ _ aJ 2 Qa];rfl
          have bh:aI.cell? ⟨g,i*5+3,none⟩=some (.int .i64 c2[i].c):=by rw[z.cellAt _ Qa,fL _ _ aJ 3 Qa];rfl
          have ci:aI.cell? ⟨g,i*5+4,none⟩=some (.int .i64 c2[i].v):=by rw[z.cellAt _ Qa,fL _ _ aJ 4 Qa];rfl
          have bn:=G (λW (A:au X W)=>wJ c2[i] W (c6.out.ext A));have dF:=G (z' aJ);have dc:=G (show(c2.take (i+1)).all eZ=((c2.take i).all eZ&&eZ c2[i]) by rw[aT aJ,iU];simp);have c0:=G (fun(A:eZ c2[i]=false)=>sS aJ A);have cn:=G (show((c2.take i).flatMap kk).length=4*i by rw[qu,bC];omega);generalize (c2.take i).flatMap kk=L at*;have cv:c2[i].val= .agg #[.int .i64 c2[i].op, .int .i64 c2[i].a, .int .i64 c2[i].b, .int .i64 c2[i].c, .int .i64 c2[i].v]:=rfl;rw[cv]at bn;clear cv z;have az:eZ c2[i]=true\/eZ c2[i]=false:=by cases eZ c2[i]<;>simp
          generalize c2[i]=x at*
          go_upto_region 22 with fail
          generalize aj:World.alloc aI _=W1;obtain⟨V,ac,_⟩:=kZ aj;have bq:=G (aW.out.trans V);have db:=G (bV.out.ext V);have cY:=G (a4.out.ext V);have u:=ac.out.cell;clear aj V ac e0 am bi bh ci bV a4 aW aU;rcases az with az|az
          ·have d0:L.length<=4000000000:=by rw[cn.out];omega
           have dP:=G (show(c2.take (i+1)).all eZ=true by rw[dc.out,bv.out,az];rfl);have dC:=G (show L.length+(kk x).length=4*(i+1) by rw[cn.out,nK];omega);clear dc bv c0 cn
           go_upto_region 25 with(go_at_call 74;refine(bn.out _ bq.out).mono ?_;rintro e b5 ⟨Z,aC⟩;rcases aC with⟨_,d7,rfl,cx⟩|⟨aC,_⟩;rotate_left;(rw[az]at aC;cases aC);have ar:=G (bq.out.trans Z);have cR:=G cx;have bU:=G (db.out.ext Z);have bK:=G (cY.out.ext Z);clear Z cx bn u db cY bq)
           have u:=bU.out.cell;have dX:=bU.out.lt;clear az;go_wp2_with (at_builtin;refine eF bt rfl _ _ rfl (X.heap.size+1) _ L rfl bK.out _ _ (kk x) (by rw[nK];rfl) cR.out (by rw[nK];omega) Qa ?_;intro bY bE dU a9 aX _;have cX:=G a9;have c8:=G (ar.out.grown aX λk dv=>by have:=kq bK.out k dv;omega);have bT:=G (bU.out.grown aX λe=>by have:=kq bK.out _ e.symm;omega);clear a9 aX u bK ar bU cR;have u:=bT.out.cell;have a2:=bT.out.frozen);have dO:=G (bT.out.set 0 (.slice bY (L.length+(kk x).length) bE));have dN:=G (c8.out.set (p:=⟨X.heap.size,0,none⟩) (ah _) (.slice bY (L.length+(kk x).length) bE));have cW:=G (show gT _ _ _ _ _ from ownsRow_setCell_below cX.out (a:=⟨X.heap.size,0,none⟩) (dR _) (.slice bY (L.length+(kk x).length) bE));rw[<-dF.out]at cW;clear bT c8 cX u a2;go_roundw
           case rel=>exact⟨i+1,bY,_,bE,by go_num,by omega,dC,dN,G (by simpa using dO.out),cW,dP⟩
           case measure=>simp[intOf];omega
          ·have cl:=G (show dA=(⟨[],[],0,0⟩,6) by rw[F.out,if_neg (c0.out az)])
           go_upto_region 23 with(go_at_call 74;refine(bn.out _ bq.out).mono ?_;rintro e b5 ⟨Z,aC⟩;rcases aC with⟨aC,_⟩|⟨_,rfl⟩;(rw[az]at aC;cases aC);have ar:=G (bq.out.trans Z);clear Z bn u)
           have K:=G (I.out.ext ar.out);have bZ:=K.out.x.1.cell;have a2:=K.out.x.1.frozen;have aS:=G (K.out.x.1.put4 (.slice none 0 0) (.slice none 0 0) (.int .i64 0) (.int .i64 0)).cell;have aN:=G (K.out.T.1.put4 (ah _) (.slice none 0 0) (.slice none 0 0) (.int .i64 0) (.int .i64 0));clear K az;go_wp2_with fail;have aO:=aS.out;exact bodyPost_ret (v:= .tuple #[.agg #[.slice none 0 0, .slice none 0 0, .int .i64 0, .int .i64 0], .int .i64 6]) (by simp[results,results34,go_sem,aO]) rfl ⟨⟨none,0,none,0,by rw[cl.out];rfl,by rw[cl.out];exact eI _,by rw[cl.out];exact eI _⟩,aN.out⟩
         ·have dx:i=N:=Qa
          have aP: ¬(i:Int)<(N:Int):=Qa
          have cQ:=G (show c2.take i=c2 from bO (by have:=bm.out;omega));rw[cQ.out]at a4 bv;rw[if_pos bv.out]at F;have d3:N<=768:=by have:=al.out;omega
          have dM:=G (show(c2.flatMap kk).length<=4000 by rw[qu,bm.out];omega);have dE:=G (show gT aI k.base 5 (.slice R d.tx.length M) d.tx from(I.out.ext aW.out).h.tx);generalize c2.flatMap kk=a8 at*;obtain rfl:=a4.out.sl.1;have a6:=G (λW (A:au aI W)=>Bj ⟨a8,d.tx,H,0⟩ af R ap M W (c6.out.ext (aW.out.trans A)) (a4.out.sl.2.ext A) (dE.out.sl.2.ext A) (by have:=dM.out;simp only;omega) Qi);simp only[py.val]at a6;generalize DC ⟨a8,d.tx,H,0⟩=dB at*;obtain⟨ea,cO⟩:=dB;simp only at a6 F;have u:=bV.out.cell;clear dD hlt dy dx cQ bv bm;by_cases hM:cO=0
          ·subst hM;rw[if_pos rfl]at F
           go_upto_region 30 with(go_at_call 24;refine(a6.out _ (aG _)).mono ?_;rintro e b5 ⟨Z,dQ,dg,dz,rfl,_⟩;have ar:=G Z;clear Z a6 u)
           have K:=G (I.out.ext (aW.out.trans ar.out));have bZ:=K.out.x.1.cell;have a2:=K.out.x.1.frozen;have u:=(bV.out.ext ar.out).cell;have aS:=G (K.out.x.1.put4 (.slice af a8.length ap) (.slice R d.tx.length M) (.int .i64 H) (.int .i64 0)).cell;have aN:=G (K.out.put4 (ah _) (.slice af a8.length ap) (.slice R d.tx.length M) (.int .i64 H) (.int .i64 0));have dI:=G ((a4.out.ext ar.out).put4 (g:=w.heap.size) (by have:=I.out.x.1.lt;omega) (.slice af a8.length ap) (.slice R d.tx.length M) (.int .i64 H) (.int .i64 0));clear K;go_wp2_with fail;have aO:=aS.out;exact bodyPost_ret (v:= .tuple #[.agg #[.slice af a8.length ap, .slice R d.tx.length M, .int .i64 H, .int .i64 0], .int .i64 0]) (by simp[results,results34,go_sem,aO]) rfl ⟨⟨af,ap,R,M,by rw[F.out];rfl,by rw[F.out];exact dI.out.sl.2,by rw[F.out];exact gT.sl aN.out.1.tx|>.2⟩,aN.out.2⟩
          ·rw[if_neg hM]at F;have d4:(cO==0)=false:=Qn.2 hM;clear hM
           go_upto_region 29 with(go_at_call 24;refine(a6.out _ (aG _)).mono ?_;rintro e b5 ⟨Z,dQ,dg,dz,rfl,_⟩;have ar:=G Z;clear Z a6 u)
           have K:=G (I.out.ext (aW.out.trans ar.out));have bZ:=K.out.x.1.cell;have a2:=K.out.x.1.frozen;have aS:=G (K.out.x.1.put4 (.slice none 0 0) (.slice none 0 0) (.int .i64 0) (.int .i64 0)).cell;have aN:=G (K.out.T.1.put4 (ah _) (.slice none 0 0) (.slice none 0 0) (.int .i64 0) (.int .i64 0));clear K;go_wp2_with fail;have aO:=aS.out;exact bodyPost_ret (v:= .tuple #[.agg #[.slice none 0 0, .slice none 0 0, .int .i64 0, .int .i64 0], .int .i64 6]) (by simp[results,results34,go_sem,aO]) rfl ⟨⟨none,0,none,0,by rw[F.out];rfl,by rw[F.out];exact eI _,by rw[F.out];exact eI _⟩,aN.out⟩
end
end Go.Proofs.YtoedmpgicdekmaaGreatDoor
