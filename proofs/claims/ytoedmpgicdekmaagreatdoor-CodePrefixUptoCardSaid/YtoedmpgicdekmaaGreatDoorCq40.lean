/-
  Parts of the proof: CoR CoS.
-/
import Derived.Test.YtoedmpgicdekmaaGreatDoorCq00
import Derived.Test.YtoedmpgicdekmaaGreatDoorCq39
import Derived.Test.YtoedmpgicdekmaaGreatDoorCq34
set_option maxRecDepth 100000
set_option maxHeartbeats 8000000
set_option linter.unusedVariables false
set_option linter.unusedSimpArgs false
set_option linter.unusedSectionVars false
namespace Go.Proofs.YtoedmpgicdekmaaGreatDoor
open Go.Proofs.Tryz
section
open Go.RowKit
theorem wB {t:List UInt8} (h:0<t.length%4):jT (t++[0])=jT t:=by
 unfold jT;rw[aJ]
 congr 1
 rw[ab,List.length_singleton];have h1:(4-t.length%4)%4=(4-(t.length+1)%4)%4+1:=by omega
 rw[h1,List.replicate_succ];rfl
theorem yS {t:List UInt8} (h: ¬0<t.length%4):jT t=t:=by
 have h1:(4-t.length%4)%4=0:=by omega
 unfold jT;rw[h1];simp
theorem yR (t:List UInt8):(jT t).length<=t.length+3:=by unfold jT;simp;omega
theorem gV.txb {k:CC} {at_:List (Nm×Int)} {O:Nat->Prop} {w w1:World} {s:CS} {vc vt vl vd vs v':Value} (h:gV k at_ vc vt vl vd vs w s) (hO: ∀b,O b↔some b∈bw k vc vt vl vd vs) (x:List UInt8)
  (hn:fZ w1 k.base 5 v' (s.tx++x)) (hg:w.grownBy w1 vt.ownBlock) (hA:v'.ownBlock=vt.ownBlock\/v'.ownBlock=some w.heap.size):
  aP w1 k.c 95 #[k.va,k.fa,vc,vt, .map (some k.bp), .map (some k.bs), .map (some k.ba),vl,vd,vs, .int .i64 s.frame]/\CP k at_ O w {s with tx:=s.tx++x} (w1.setCell ⟨k.c,3,none⟩ v'):=by
 have hb:=h.blk.grown hg (eE h).2.2.1;refine⟨hb,h.tx_cp hO (by simpa using hb.set 3 v') ?_ hA ((iJ hg fun b e=> .inr e).set (fun _=> .inl rfl) _)⟩;refine World.ownsRow.kept hn (gJ w1 k.c 3 _) ?_;rcases hA with hA|hA
 ·exact .inr fun e=>(eE h).2.2.1 (by rw[<-hA];exact e.symm)
 ·exact .inr fun e=>by
   have h5:=(h.lo k.c (by simp[bw])).2;rw[hA]at e;injection e with e;omega
def Fo (c:Nat) (w:World):Nat:=match w.cell? ⟨c,3,none⟩with
 |some (.slice _ n _)=>(4-n%4)%4
 | _=>0
theorem xJ {k:CC} {at_:List (Nm×Int)} {O:Nat->Prop} {w:World} {s:CS} (m:CX k at_ O w s):Fo k.c w=(4-s.tx.length%4)%4:=by
 obtain⟨_,vt,_,_,_,h,_⟩:=m;obtain⟨A,c,rfl⟩:=h.tx.form;unfold Fo;rw[h.blk.cell 3];rfl
def CJ (at_ pl:List (Nm×Int)) (s:CS) (z:Int):kN×Int:=
 if 3072<j7 (4*s.code.length)+(jT s.tx).length+z then(⟨[],[],0,0⟩,6)
 else
  let code:=qT (j7 (4*s.code.length)) (jT s.tx).length pl s.dats (qU at_ s.calls s.code)
  if code.all em=true then(let f:kN:=⟨code.flatMap jd,jT s.tx,z,0⟩;if(Bt f).2=0 then(f,0)else(⟨[],[],0,0⟩,6))
  else(⟨[],[],0,0⟩,6)
theorem i_: ∀(l:List (Nat×Nm)) (i:Nat) (h:i<l.length) (j:Nat),j<2->(eU l)[i*2+j]? =(lM l[i])[j]?
 | [],i,h,j,hj=>by simp at h
 |x::l,0,h,j,hj=>by
  simp only[eU,br,aV,be,aE];rw[aX (by simp[lM];omega)]
 |x::l,i+1,h,j,hj=>by
  have:=i_ l i (by simpa using h) j hj;simp only[eU,br,aL]at this⊢;rw[bx (by simp[lM];omega),<-this]
  congr 1
  simp[lM];omega
theorem wM {at_:List (Nm×Int)} {l:List (Nat×Nm)} {j:Nat} {c:List cQ} (h:j<l.length):qU at_ (l.drop j) c=qU at_ (l.drop (j+1)) (c.modify l[j].1 (fU · (aN at_ l[j].2-l[j].1-1))):=by rw[am h,qU]
theorem wL {d tx:Int} {pl:List (Nm×Int)} {l:List (Nat×Nm)} {j:Nat} {c:List cQ} (h:j<l.length):qT d tx pl (l.drop j) c=qT d tx pl (l.drop (j+1)) (c.modify l[j].1 (addV · (if l[j].2=[]then d else d+(tx+aN pl l[j].2)))):=by rw[am h,qT]
def VB (c:List cQ) (B:Int):Prop:= ∀x∈c,-B<=x.v/\x.v<=B
theorem VB.mono {c:List cQ} {B D:Int} (h:VB c B) (e:B<=D):VB c D:=fun x hx=>by have:=h x hx;omega
theorem VB.modify {c:List cQ} {B:Int} (h:VB c B) (i:Nat) (f:cQ->cQ) (hf: ∀x,-B<=x.v/\x.v<=B-> -B<=(f x).v/\(f x).v<=B):VB (c.modify i f) B:=by
 intro x hx;obtain⟨j,hj,rfl⟩:=List.mem_iff_getElem.1 hx;rw[List.getElem_modify];rw[dx]at hj;split
 ·exact hf _ (h _ (ap hj))
 ·exact h _ (ap hj)
theorem uh (c:List cQ) (i:Nat) (h:i<c.length) (f:cQ->cQ) (v:Int) (hf:f c[i]=fU c[i] v):c.modify i f=c.modify i (fU · v):=by
 apply eY;intro j;rw[dD,dD];by_cases e:i=j
 ·subst e;simp[h,hf]
 ·simp[e]
theorem ug (c:List cQ) (i:Nat) (a b:Int):(c.modify i (fU · a)).modify i (fU · b)=c.modify i (fU · b):=by
 apply eY;intro j;rw[dD,dD,dD];by_cases e:i=j
 ·simp[e,fU,Option.map_map,Function.comp_def]
 ·simp[e]
structure FQ (k:CC) (at_:List (Nm×Int)) (O0:Nat->Prop) (w0:World) (vc vt vl vd vs:Value) (pb:Nat) (t:TypeId) (cs:Array Value) (s:CS) (w:World):Prop where
 h:gV k at_ vc vt vl vd vs w s
 T:dF O0 w0 (fun b=>some b∈bw k vc vt vl vd vs) w
 x:LB (fun b=>some b∈bw k vc vt vl vd vs) w pb t cs
section
variable {k:CC} {at_:List (Nm×Int)} {O0:Nat->Prop} {w0 w w':World} {vc vt vl vd vs:Value} {pb:Nat} {t:TypeId} {cs:Array Value} {s:CS}
theorem FQ.ext (h:FQ k at_ O0 w0 vc vt vl vd vs pb t cs s w) (he:au w w'):FQ k at_ O0 w0 vc vt vl vd vs pb t cs s w':=
 ⟨h.h.keep he.size fun b hb=>he.obj (h.h.lo b hb).2,h.T.ex he,h.x.ext he⟩
theorem FQ.setv {g cap n:Nat} (h:FQ k at_ O0 w0 (.slice (some ⟨g,0,none⟩) n cap) vt vl vd vs pb t cs s w) (hn:s.code.length=n) (i:Nat) (hi:i<n) (v:Int):
  FQ k at_ O0 w0 (.slice (some ⟨g,0,none⟩) n cap) vt vl vd vs pb t cs {s with code:=s.code.modify i (fU · v)} (w.setCell ⟨g,i*5+4,none⟩ (.int .i64 v)):=by
 subst hn;have hne:=(eE h.h).2.1;have hM:Mv (fun b=>b=k.c\/Value.ownBlock (.slice (some ⟨g,0,none⟩) s.code.length cap)=some b) w (w.setCell ⟨g,i*5+4,none⟩ (.int .i64 v)):=(fA _ _).set (p:=⟨g,i*5+4,none⟩) (fun _=> .inr rfl) _;have hS:dF (fun b=>some b∈bw k (.slice (some ⟨g,0,none⟩) s.code.length cap) vt vl vd vs) w (fun b=>some b∈bw k (.slice (some ⟨g,0,none⟩) s.code.length cap) vt vl vd vs) (w.setCell ⟨g,i*5+4,none⟩ (.int .i64 v)):=
  ⟨(fA _ _).set (p:=⟨g,i*5+4,none⟩) (fun _=>by simp[bw,Value.ownBlock]) _,fun b hb=> .inl hb⟩
 refine⟨h.h.code_to (c':=s.code.modify i (fU · v)) (h.h.blk.far (p:=⟨g,i*5+4,none⟩) (fun e=>hne (by rw[e];rfl)) _) ?_ (.inl rfl) hM,h.T.trans hS,h.x.st hS⟩;have:=h.h.code.stored (i*5+4) (.int .i64 v);rw[dx,lr _ _ _ hi];simpa using this.1
end
end
section
open Go.RowKit
theorem Mv.put4 {S:Nat->Prop} {a b:World} {g:Nat} (h:Mv S a b) (hg:a.heap.size<=g) (x y z u:Value):Mv S a ((((b.setCell ⟨g,0,none⟩ x).setCell ⟨g,1,none⟩ y).setCell ⟨g,2,none⟩ z).setCell ⟨g,3,none⟩ u):=
 (((h.set (fun e=>absurd e (by simp;omega)) _).set (fun e=>absurd e (by simp;omega)) _).set (fun e=>absurd e (by simp;omega)) _).set (fun e=>absurd e (by simp;omega)) _
theorem lU (x:cQ):(jd x).length=4:=by unfold jd;split<;>rfl
theorem oD: ∀(c:List cQ),(c.flatMap jd).length=4*c.length
 | []=>rfl
 |x::l=>by rw[br,ab,lU,oD l,ae];omega
theorem qO {c:List cQ} {j:Nat} (hj:j<c.length) (h:em c[j]=false): ¬c.all em=true:=fun e=>by
 have:=List.all_eq_true.1 e _ (ap hj);rw[h]at this;simp at this
theorem xX {c:List cQ} {j:Nat} (hj:j<c.length):(c.take (j+1)).flatMap jd=(c.take j).flatMap jd++jd c[j]:=by
 rw[aM hj,eq];simp
theorem FQ.put4 {k:CC} {at_:List (Nm×Int)} {O0:Nat->Prop} {w0 w:World} {vc vt vl vd vs:Value} {pb:Nat} {t:TypeId} {cs:Array Value} {s:CS} (h:FQ k at_ O0 w0 vc vt vl vd vs pb t cs s w) (hp:w0.heap.size<=pb) (x y z u:Value):
  gV k at_ vc vt vl vd vs ((((w.setCell ⟨pb,0,none⟩ x).setCell ⟨pb,1,none⟩ y).setCell ⟨pb,2,none⟩ z).setCell ⟨pb,3,none⟩ u) s/\Mv O0 w0 ((((w.setCell ⟨pb,0,none⟩ x).setCell ⟨pb,1,none⟩ y).setCell ⟨pb,2,none⟩ z).setCell ⟨pb,3,none⟩ u):=by
 refine⟨h.h.keep (by simp[World.setCell]) fun b hb=> ?_,h.T.1.put4 hp _ _ _ _⟩;have hne:b≠pb:=fun e=>h.x.2 (e▸hb);rw[Below.heap_setCell _ _ _ _ hne,Below.heap_setCell _ _ _ _ hne,Below.heap_setCell _ _ _ _ hne,Below.heap_setCell _ _ _ _ hne]
theorem fZ.put4 {w:World} {base:Nat} {e:TypeId} {v:Value} {l:List UInt8} (h:fZ w base e v l) {g:Nat} (hg:g<base) (x y z u:Value):fZ ((((w.setCell ⟨g,0,none⟩ x).setCell ⟨g,1,none⟩ y).setCell ⟨g,2,none⟩ z).setCell ⟨g,3,none⟩ u) base e v l:=by
 have q: ∀(w:World) (i:Nat) (u:Value),fZ w base e v l->fZ (w.setCell ⟨g,i,none⟩ u) base e v l:=fun w i u h=>by
  refine World.ownsRow.kept h (gJ w g i u) ?_;by_cases hv:v.ownBlock=none
  ·exact .inl hv
  ·exact .inr fun e=>by have:=ji h g e;omega
 exact q _ _ _ (q _ _ _ (q _ _ _ (q _ _ _ h)))
theorem xh (k:CC) (at_:List (Nm×Int)) (O:Nat->Prop) (w:World) (s:CS) (z:Nat) (m:CX k at_ O w s) (ev:jh k w) (hF:FT w) (hFl:0<k.base) (hz:z<=100000000) (hb:s.big<=900000000)
  (hI:VB s.code 1000000000) (hc0:0<s.code.length) (hC: ∀p∈s.calls,p.1<s.code.length/\p.2.length<=1000000000/\0<=aN at_ p.2/\aN at_ p.2<=1000000000)
  (hD: ∀p∈s.dats,p.1<s.code.length/\p.2.length<=1000000000/\0<=aN k.pl p.2/\aN k.pl p.2<=1000000000):
  Calls prog 34 #[.pointer (some ⟨k.c,0,none⟩), .int .i64 (z:Int)] w fun e w'=>(∃A c B d,e= .returned (.tuple #[(CJ at_ k.pl s z).1.val A B c d, .int .i64 (CJ at_ k.pl s z).2])/\Sl w' A c (CJ at_ k.pl s z).1.code/\Sl w' B d (CJ at_ k.pl s z).1.data)/\Mv O w w':=by
 have HQ0:=G (CQ.new m ev 38 #[.slice none 0 0, .slice none 0 0, .int .i64 0, .int .i64 0]);have HM:=G m;have HFT:=G hF;have HI:=G hI;have HC:=G hC;have HD:=G hD;have HR:=G (show CJ at_ k.pl s z=if 3072<j7 (4*s.code.length)+(jT s.tx).length+z then(⟨[],[],0,0⟩,6)else _ from rfl);have HB:=G hb;generalize CJ at_ k.pl s z=R at*;clear m ev hF hI hC hD hb;go_enter func34,ntmps34
 go_upto_region 1 with fail
 generalize World.alloc w _=W0 at*;have HP0:=G (show jT s.tx=jT s.tx from rfl)
 go_loopw [] (fun wr=> ∃(O1:Nat->Prop) (t1:List UInt8),Hid (CQ k at_ O w w.heap.size 38 #[.slice none 0 0, .slice none 0 0, .int .i64 0, .int .i64 0] O1 {s with tx:=t1} wr)/\Hid (jT t1=jT s.tx)) (fun wr=>Fo k.c wr)
 case atStart=>exact⟨_,s.tx,HQ0,HP0⟩
 case round=>
  obtain⟨O1,t1,HQ1,HP1⟩:=hrel;clear HQ0 HP0;generalize wr=wz at*;obtain⟨vc,vt,vl,vd,vs,h,hO⟩:=id HQ1.out.m;obtain⟨At,ct,rfl⟩:=h.tx.form;have H1:Hid (gV k at_ vc (.slice At t1.length ct) vl vd vs wz {s with tx:=t1}):=G h;have HO:Hid (∀b,O1 b↔some b∈bw k vc (.slice At t1.length ct) vl vd vs):=G hO;have c0:=h.blk.cell;have htl:t1.length<=900000010:=by
   have h1:=yR s.tx;have h2:=CG HB.out;have h3:t1.length<=(jT t1).length:=by unfold jT;simp
   rw[HP1.out]at h3;omega
  simp only at c0;have HN:=G (show Fo k.c wz=(4-t1.length%4)%4 from xJ HQ1.out.m);clear h hO;by_cases hp:0<t1.length%4
  ·have hp1:(0:Int)<(t1.length:Int)%4:=by omega
   have HPn:=G (wB hp);have HM1:=G (show(4-(t1++[(0:UInt8)]).length%4)%4<(4-t1.length%4)%4 by simp;omega);clear hp;go_wp2_with (at_builtin;refine dZ bt rfl _ _ rfl k.base _ t1 rfl (H1.out.tx.ext (aa wz _)) _ _ [0] rfl (nV wz 5 0) (by simp;omega) (by rw[World.size_alloc];have:=(eE H1.out).1;omega) ?_;intro A2 c2 w2 q1 q2 q3;obtain⟨hb1,O3,h3,hS3⟩:=(H1.out.keep (aa wz _).size fun b hb=>(aa wz _).obj (H1.out.lo b hb).2).txb HO.out [0] (by simpa using q1) q2 q3;have HQ2:=G ((HQ1.out.ext (aa wz _)).nx h3 hS3);clear c0;have c0:=hb1.cell;have f0:=hb1.frozen;clear q1 q2 q3 hb1 h3 hS3 HQ1 H1 HO);go_roundw
   case rel=>exact⟨_,t1++[0],HQ2,G (HPn.out.trans HP1.out)⟩
   case measure=>
    rw[HN.out];exact Nat.lt_of_le_of_lt (eh (xJ HQ2.out.m)) HM1.out
  ·have hp1: ¬(0:Int)<(t1.length:Int)%4:=by omega
   have HPa:=G (show jT s.tx=t1 from HP1.out.symm.trans (yS hp));rw[HPa.out]at HR;clear hp HP1 HPa HN;obtain⟨C0,cc,rfl⟩:=i6 H1.out.code;have hcl:=aT HB.out;have e1:s.code=({s with tx:=t1}:CS).code:=rfl;have e2:s.calls=({s with tx:=t1}:CS).calls:=rfl;have e3:s.dats=({s with tx:=t1}:CS).dats:=rfl;have e4:t1=({s with tx:=t1}:CS).tx:=rfl;have e5:=oq HB.out;have e6:=qQ HB.out;rw[e1,e2,e3]at HR HI HC HD;rw[e1]at hcl c0 H1 hc0;rw[e2]at e5;rw[e3]at e6;generalize ({s with tx:=t1}:CS)=s1 at*;subst e4;clear e1 e2 e3 HB;have hw1:IntKind.i64.wrap (4*(s1.code.length:Int))=4*(s1.code.length:Int):=by simp[IntKind.wrap,IntKind.signed,IntKind.bits];omega
   have hq:(4*(s1.code.length:Int)+127).tdiv 128=(4*(s1.code.length:Int)+127)/128:=g_ (by omega);have hw0:IntKind.i64.wrap (4*(s1.code.length:Int)+128)=4*(s1.code.length:Int)+128:=by simp[IntKind.wrap,IntKind.signed,IntKind.bits];omega
   have hw2:IntKind.i64.wrap (4*(s1.code.length:Int)+128-1)=4*(s1.code.length:Int)+127:=by simp[IntKind.wrap,IntKind.signed,IntKind.bits];omega
   have hw3:IntKind.i64.wrap ((4*(s1.code.length:Int)+127)/128)=(4*(s1.code.length:Int)+127)/128:=by simp[IntKind.wrap,IntKind.signed,IntKind.bits];omega
   obtain⟨U,hU⟩: ∃U,(4*(s1.code.length:Int)+127)/128*128=U:=⟨_,rfl⟩
   have hU2:j7 (4*s1.code.length)=U:=hU;rw[hU2]at HR;have hUb:0<=U/\U<=4000000000:=by omega
   have hw4:IntKind.i64.wrap U=U:=by simp[IntKind.wrap,IntKind.signed,IntKind.bits];omega
   have hw5:IntKind.i64.wrap (U+(s1.tx.length:Int))=U+s1.tx.length:=by simp[IntKind.wrap,IntKind.signed,IntKind.bits];omega
   have hw6:IntKind.i64.wrap (U+(s1.tx.length:Int)+z)=U+s1.tx.length+z:=by simp[IntKind.wrap,IntKind.signed,IntKind.bits];omega
   clear hU2;by_cases hfit:3072<U+(s1.tx.length:Int)+z
   ·rw[if_pos hfit]at HR;have x0:=HQ1.out.x.1.cell;have f0:=HQ1.out.x.1.frozen;have HS:=G (HQ1.out.x.1.put4 (.slice none 0 0) (.slice none 0 0) (.int .i64 0) (.int .i64 0)).cell;have HMv:=G (HQ1.out.T.1.put4 (ah _) (.slice none 0 0) (.slice none 0 0) (.int .i64 0) (.int .i64 0));go_wp2_with fail;have hset:=HS.out;exact bodyPost_ret (v:= .tuple #[.agg #[.slice none 0 0, .slice none 0 0, .int .i64 0, .int .i64 0], .int .i64 6]) (by simp[results,results34,go_sem,hset]) rfl ⟨⟨none,0,none,0,by rw[HR.out];rfl,by rw[HR.out];exact d7 _,by rw[HR.out];exact d7 _⟩,HMv.out⟩
   ·rw[if_neg hfit]at HR
    go_upto_region 4 with fail
    clear hq hw0 hw2 hw3;replace hU:=G hU;obtain⟨Lc,lc,rfl⟩:=i6 H1.out.calls;obtain⟨Ld,ld,rfl⟩:=i6 H1.out.dats;rcases H1.out.code.2 with⟨h0,h00⟩|⟨g,cap,cur,h0,_⟩
    ·omega
    injection h0 with h1 _ h2;subst h1 h2;obtain rfl:O1=fun b=>some b∈bw k (.slice (some ⟨g,0,none⟩) s1.code.length cc) (.slice At s1.tx.length ct) (.slice Lc s1.calls.length lc) (.slice Ld s1.dats.length ld) vs:=funext fun b=>propext (HO.out b);have HQ2:=G (FQ.mk H1.out HQ1.out.T HQ1.out.x);clear H1 HO HQ1
    go_upto_region 7 with fail
    have hfb:U<=3072/\(s1.tx.length:Int)<=3072/\(z:Int)<=3072:=by omega
    clear hw1 hw4 hw5 hw6 hfit c0;obtain⟨CF,hCF⟩: ∃CF,qU at_ s1.calls s1.code=CF:=⟨_,rfl⟩
    rw[hCF]at HR;replace hCF:=G (show qU at_ (s1.calls.drop 0) s1.code=CF from hCF);obtain⟨N,hN⟩: ∃N,s1.code.length=N:=⟨_,rfl⟩
    have HL0:=G (show s1.code.length=N/\VB s1.code 1000000000 from⟨hN,HI.out⟩);obtain⟨NC,hNC⟩: ∃N,s1.calls.length=N:=⟨_,rfl⟩
    have HNC:=G hNC;rw[hN]at HQ2 hc0 hcl HC HD hU⊢;have HQ3:=G (show FQ k at_ O w (.slice (some ⟨g,0,none⟩) N cc) (.slice At s1.tx.length ct) (.slice Lc s1.calls.length lc) (.slice Ld s1.dats.length ld) vs w.heap.size 38 #[.slice none 0 0, .slice none 0 0, .int .i64 0, .int .i64 0] {s1 with code:=s1.code} wz from HQ2.out);rw[hNC]at HQ3 e5⊢;clear HQ2 hN hNC HI
    go_loopw [60] (fun vi wr=> ∃(j:Nat) (c2:List cQ),vi= .int .i64 (j:Int)/\j<=NC/\Hid (FQ k at_ O w (.slice (some ⟨g,0,none⟩) N cc) (.slice At s1.tx.length ct) (.slice Lc NC lc) (.slice Ld s1.dats.length ld) vs w.heap.size 38 #[.slice none 0 0, .slice none 0 0, .int .i64 0, .int .i64 0] {s1 with code:=c2} wr)/\Hid (qU at_ (s1.calls.drop j) c2=CF)/\Hid (c2.length=N/\VB c2 1000000000)) (fun vi _=>NC-(intOf vi).toNat)
    case atStart=>exact⟨0,s1.code,rfl,aC _,HQ3,hCF,HL0⟩
    case round=>
     obtain⟨j,c2,rfl,hj,HQ4,HC2,HL2⟩:=hrel;clear HQ3 hCF HL0;generalize wr=wy at*;by_cases hlt:j<NC
     ·have hlt':(j:Int)<(NC:Int):=by omega
      have hjx:j<s1.calls.length:=by rw[HNC.out];exact hlt
      obtain⟨k1,k2,k3,k4⟩:=HC.out _ (ap hjx);have HC3:=G ((wM hjx).symm.trans HC2.out);have hrow:=HQ4.out.h.calls;rw[show({s1 with code:=c2}:CS).calls=s1.calls from rfl]at hrow;rcases hrow.2 with⟨_,h0⟩|⟨gl,cap',cur',h0,_⟩
      ·rw[HNC.out]at h0;omega
      injection h0 with h1 _ h2;subst h1 h2;have e0:wy.cell? ⟨gl,j*2,none⟩=some (.int .i64 (s1.calls[j].1:Int)):=by
       have hc:=hrow;rw[HNC.out]at hc;rw[hc.cellAt _ (by omega),show j*2=j*2+0 from rfl,i_ _ _ hjx 0 (by omega)];rfl
      have e1:wy.cell? ⟨gl,j*2+1,none⟩=some (.string (an s1.calls[j].2)):=by
       have hc:=hrow;rw[HNC.out]at hc;rw[hc.cellAt _ (by omega),i_ _ _ hjx 1 (by omega)];rfl
      generalize s1.calls[j]=p at*;obtain⟨pi,pn⟩:=p;simp only at k1 k2 k3 k4 e0 e1 HC3;clear hrow;have hnm:=ax k2 (show 1000000000<=maxLen by decide)
      go_upto_region 9 with fail
      generalize hW:World.alloc wy _=W1;obtain⟨hE1,y0,_⟩:=jm hW;have hDr:=d9 (aG W1);have HQ5:=G (HQ4.out.ext (hE1.trans hDr));have c0:=HQ5.out.h.blk.cell;have y1:=(y0.out.ext hDr).cell;have r1:(Instr.lookup 88 (.map (some k.ba)) (.string (an pn)) false).run prog W1.drew= .ok (.int .i64 (aN at_ pn)) W1.drew:=by
       rw[(HQ5.out.h.at_.look ud hnm).1];unfold fF aN
       cases ge at_ pn<;>rfl
      have HP:=G (HQ5.out.setv HL2.out.1 pi k1 (aN at_ pn-pi-1));have HL3:=G (show(c2.modify pi (fU · (aN at_ pn-pi-1))).length=N/\VB (c2.modify pi (fU · (aN at_ pn-pi-1))) 1000000000 from⟨by rw[dx];exact HL2.out.1,HL2.out.2.modify pi _ fun x _=>by simp only[fU];omega⟩);have hcode:=HQ5.out.h.code;rw[show({s1 with code:=c2}:CS).code=c2 from rfl,HL2.out.1]at hcode;have c1: ∃u,W1.drew.cell? ⟨g,pi*5+4,none⟩=some u:=⟨_,by rw[hcode.cellAt _ (by omega),eR _ _ (by rw[HL2.out.1];exact k1) 4 (by omega)];rfl⟩
      obtain⟨u,c1⟩:=c1;have f1:=hcode.frozenAt (pi*5+4);generalize aN at_ pn=a at*;have hin:(pi:Int)<(N:Int):=by omega
      have hwa:IntKind.i64.wrap (a-pi)=a-pi:=by simp[IntKind.wrap,IntKind.signed,IntKind.bits];omega
      have hwb:IntKind.i64.wrap (a-pi-1)=a-pi-1:=by simp[IntKind.wrap,IntKind.signed,IntKind.bits];omega
      clear hW hE1 y0 hDr HQ5 HQ4 hcode e0 e1 HC2 HL2;go_region;all_goals
       go_wp2_with fail;go_roundw
       case rel=>exact⟨j+1,_,by go_num,by omega,HP,HC3,HL3⟩
       case measure=>simp[intOf];omega
     ·have hjN:NC=j:=by omega
      subst hjN;have hlt': ¬(NC:Int)<(NC:Int):=by omega
      have HSx:=HC2.out;rw[bJ (by have:=HNC.out;omega),qU]at HSx;subst HSx;clear HC2 hlt hj;have c0:=HQ4.out.h.blk.cell;obtain⟨ND,hND⟩: ∃N,s1.dats.length=N:=⟨_,rfl⟩
      have HND:=G hND;rw[hND]at HQ4 c0 e6;obtain⟨CD,hCD⟩: ∃CD,qT U s1.tx.length k.pl s1.dats c2=CD:=⟨_,rfl⟩
      rw[hCD]at HR;replace hCD:=G (show qT U s1.tx.length k.pl (s1.dats.drop 0) c2=CD from hCD);have HL5:=G (show c2.length=N/\VB c2 (1000000000+((0:Nat):Int)*1100000000)from⟨HL2.out.1,by simpa using HL2.out.2⟩);clear hND HL2 HC
      go_upto_region 12 with fail
      clear hlt' c0
      go_loopw [89] (fun vi wr=> ∃(j:Nat) (c2:List cQ),vi= .int .i64 (j:Int)/\j<=ND/\Hid (FQ k at_ O w (.slice (some ⟨g,0,none⟩) N cc) (.slice At s1.tx.length ct) (.slice Lc NC lc) (.slice Ld ND ld) vs w.heap.size 38 #[.slice none 0 0, .slice none 0 0, .int .i64 0, .int .i64 0] {s1 with code:=c2} wr)/\Hid (qT U s1.tx.length k.pl (s1.dats.drop j) c2=CD)/\Hid (c2.length=N/\VB c2 (1000000000+(j:Int)*1100000000))) (fun vi _=>ND-(intOf vi).toNat)
      case atStart=>exact⟨0,c2,rfl,aC _,HQ4,hCD,HL5⟩
      case round=>
       obtain⟨j,c2,rfl,hj,HQ5,HC5,HL6⟩:=hrel;clear HQ4 hCD HL5;generalize wr=wx at*;by_cases hlt:j<ND
       ·have hlt':(j:Int)<(ND:Int):=by omega
        have hjx:j<s1.dats.length:=by rw[HND.out];exact hlt
        obtain⟨k1,k2,k3,k4⟩:=HD.out _ (ap hjx);have HC6:=G ((wL hjx).symm.trans HC5.out);have hrow:=HQ5.out.h.dats;rw[show({s1 with code:=c2}:CS).dats=s1.dats from rfl,HND.out]at hrow;rcases hrow.2 with⟨_,h0⟩|⟨gl,cap',cur',h0,_⟩
        ·omega
        injection h0 with h1 _ h2;subst h1 h2;have e0:wx.cell? ⟨gl,j*2,none⟩=some (.int .i64 (s1.dats[j].1:Int)):=by
         rw[hrow.cellAt _ (by omega),show j*2=j*2+0 from rfl,i_ _ _ hjx 0 (by omega)];rfl
        have e1:wx.cell? ⟨gl,j*2+1,none⟩=some (.string (an s1.dats[j].2)):=by
         rw[hrow.cellAt _ (by omega),i_ _ _ hjx 1 (by omega)];rfl
        generalize s1.dats[j]=p at*;obtain⟨pi,pn⟩:=p;simp only at k1 k2 k3 k4 e0 e1 HC6;clear hrow;have hnm:=ax k2 (show 1000000000<=maxLen by decide)
        go_upto_region 14 with fail
        generalize hW:World.alloc wx _=W1;obtain⟨hE1,y0,_⟩:=jm hW;have hDr:=d9 (aG W1);have HQ6:=G (HQ5.out.ext (hE1.trans hDr));have c0:=HQ6.out.h.blk.cell;have y1:=(y0.out.ext hDr).cell;have hcode:=HQ6.out.h.code;rw[show({s1 with code:=c2}:CS).code=c2 from rfl,HL6.out.1]at hcode;have hpl:pi<c2.length:=by rw[HL6.out.1];exact k1
        have c1:W1.drew.cell? ⟨g,pi*5+4,none⟩=some (.int .i64 c2[pi].v):=by rw[hcode.cellAt _ (by omega),eR _ _ hpl 4 (by omega)];rfl
        have f1:=hcode.frozenAt (pi*5+4);have hv:=HL6.out.2 _ (ap hpl);have HP:=G (show FQ k at_ O w _ _ _ _ _ _ _ _ {s1 with code:=c2.modify pi (fU · (c2[pi].v+U))} (W1.setCell ⟨g,pi*5+4,none⟩ (.int .i64 (c2[pi].v+U))).drew from HQ6.out.setv HL6.out.1 pi k1 (c2[pi].v+U))
        have HY:=G (show aP (W1.setCell ⟨g,pi*5+4,none⟩ (.int .i64 (c2[pi].v+U))).drew _ _ _ from(y0.out.ext hDr).far (p:=⟨g,pi*5+4,none⟩) (fun e=>by
         have:=(HQ5.out.h.lo g (by simp[bw,Value.ownBlock])).2;simp only at e
         omega) _)
        have HSU:=G (fun V=>uh c2 pi hpl (addV · V) (c2[pi].v+V) rfl);generalize c2[pi].v=v0 at*;have hin:(pi:Int)<(N:Int):=by omega
        have hwa:IntKind.i64.wrap (v0+U)=v0+U:=by simp[IntKind.wrap,IntKind.signed,IntKind.bits];omega
        clear hW hE1 y0 hDr HQ6 HQ5 hcode e0 e1 HC5;go_region;generalize World.drew (World.setCell W1 _ _)=W2 at*;clear c0 c1 f1 y1 hwa;have y2:=HY.out.cell;by_cases hne:pn=[]
        ·subst hne;rw[if_pos rfl,HSU.out]at HC6;have HL7:=G (show(c2.modify pi (fU · (v0+U))).length=N/\VB (c2.modify pi (fU · (v0+U))) (1000000000+((j+1:Nat):Int)*1100000000)from⟨by rw[dx];exact HL6.out.1,(HL6.out.2.mono (by omega)).modify pi _ fun x _=>by simp only[fU];omega⟩);clear HSU HL6 hv hpl;go_wp2_with fail;go_roundw
         case rel=>exact⟨j+1,_,by go_num,by omega,HP,HC6,HL7⟩
         case measure=>simp[intOf];omega
        ·rw[if_neg hne,HSU.out]at HC6;have hne1:(pn==[])=false:=beq_eq_false_iff_ne.2 hne;have hne2:pn.isEmpty=false:=by cases pn with|nil=>exact absurd rfl hne|cons a l=>rfl
         clear hne
         go_upto_region 16 with fail
         have LK:=G (fun W (h:au W2 W)=>show(Instr.lookup 88 (.map (some k.bp)) (.string (an pn)) false).run prog W= .ok (.int .i64 (aN k.pl pn)) W by
          rw[((HP.out.ext h).h.pl.look ud hnm).1];unfold fF aN
          cases ge k.pl pn<;>rfl)
         have hl3:(c2.modify pi (fU · (v0+U))).length=N:=by rw[dx];exact HL6.out.1
         have hpl3:pi<(c2.modify pi (fU · (v0+U))).length:=by rw[hl3];exact k1
         have CK:=G (fun W (h:au W2 W)=>show W.cell? ⟨g,pi*5+4,none⟩=some (.int .i64 (v0+U))/\W.frozen? ⟨g,pi*5+4,none⟩=false by
          have hcode:=(HP.out.ext h).h.code;rw[show({s1 with code:=c2.modify pi (fU · (v0+U))}:CS).code=c2.modify pi (fU · (v0+U))from rfl,hl3]at hcode;refine⟨?_,hcode.frozenAt _⟩;rw[hcode.cellAt _ (by omega),eR _ _ hpl3 4 (by omega)]
          simp[lu,fU])
         have HP2:=G (fun W (h:au W2 W)=>show FQ k at_ O w (.slice (some ⟨g,0,none⟩) N cc) (.slice At s1.tx.length ct) (.slice Lc NC lc) (.slice (some ⟨gl,0,none⟩) ND ld) vs w.heap.size 38 #[.slice none 0 0, .slice none 0 0, .int .i64 0, .int .i64 0] {s1 with code:=c2.modify pi (fU · (v0+U+(s1.tx.length+aN k.pl pn)))} (W.setCell ⟨g,pi*5+4,none⟩ (.int .i64 (v0+U+(s1.tx.length+aN k.pl pn)))) by
          have:=(HP.out.ext h).setv hl3 pi k1 (v0+U+(s1.tx.length+aN k.pl pn));simp only at this;rw[ug]at this
          exact this)
         rw[show v0+(U+(s1.tx.length+aN k.pl pn))=v0+U+(s1.tx.length+aN k.pl pn) by omega]at HC6;have HL7:=G (show(c2.modify pi (fU · (v0+U+(s1.tx.length+aN k.pl pn)))).length=N/\VB (c2.modify pi (fU · (v0+U+(s1.tx.length+aN k.pl pn)))) (1000000000+((j+1:Nat):Int)*1100000000)from⟨by rw[dx];exact HL6.out.1,(HL6.out.2.mono (by omega)).modify pi _ fun x _=>by simp only[fU];omega⟩);generalize aN k.pl pn=a at*;have hwa:IntKind.i64.wrap ((s1.tx.length:Int)+a)=s1.tx.length+a:=by simp[IntKind.wrap,IntKind.signed,IntKind.bits];omega
         have hwb:IntKind.i64.wrap (v0+U+((s1.tx.length:Int)+a))=v0+U+(s1.tx.length+a):=by simp[IntKind.wrap,IntKind.signed,IntKind.bits];omega
         clear y2 hl3 hpl3 HSU HL6 hv hpl hne1 hne2;refine ay 25 1 [] mixed (by kernel_rfl) trivial ?_;repeat (refine sx ?_ (fun w1 hU=> ?_) ?_;rotate_left;(focus have c0:=(HP.out.ext hU.un).h.blk.cell;have y3:=(HY.out.ext hU.un).cell;have r1:=LK.out _ hU.un;have c1:=(CK.out _ hU.un).1;clear hU;go_simp<;>with_reducible rfl);simp only[bH,bG,bF,bE,bD])
         intro w7 hw7 _;simp only[ac,aq];have HP3:=G (HP2.out w7 hw7.un);obtain⟨c1,f1⟩:=CK.out w7 hw7.un;clear hw7 CK HP2 LK HP HY;go_wp2_with fail;go_roundw
         case rel=>exact⟨j+1,_,by go_num,by omega,HP3,HC6,HL7⟩
         case measure=>simp[intOf];omega
       ·have hjN:j=ND:=by omega
        subst hjN;have hlt': ¬(j:Int)<(j:Int):=by omega
        have HSx:=HC5.out;rw[bJ (by have:=HND.out;omega),qT]at HSx;subst HSx;clear HC5 hlt hj HNC HND HD hlt'
        have HFx:=G (show FT wx from by
         obtain⟨t,fr,h⟩:=HFT.out;refine⟨t,fr,(HQ5.out.T.1.block _ (Array.getElem?_eq_some_iff.1 h).1 fun e=> ?_).trans h⟩;have:=(HM.out.lt e).1
         omega)
        have hl2:=HL6.out.1;have HN2:=G hl2;clear HL6 HFT;have c0:=HQ5.out.h.blk.cell;rw[show({s1 with code:=c2}:CS).frame=s1.frame from rfl]at c0
        go_upto_region 19 with fail
        generalize hW:World.alloc wx _=W1;obtain⟨hE1,y0,_⟩:=jm hW;have HE1:=G hE1;have c0:=((HQ5.out.ext hE1).h.blk).cell;rw[show({s1 with code:=c2}:CS).frame=s1.frame from rfl]at c0;have HO0:=G (show fZ W1 (wx.heap.size+1) 5 (.slice none 0 0) ((c2.take 0).flatMap jd)from World.ownsRow_nil _ _ _ _);have HA0:=G (show(c2.take 0).all em=true from rfl);clear hW hE1 hl2
        go_upto_region 20 with fail
        clear c0
        go_loopw [146] (fun vi wr=> ∃(i:Nat) (A:Option Addr) (n cap:Nat),vi= .int .i64 (i:Int)/\i<=N/\Hid (n=4*i)/\Hid (au wx wr)/\Hid (aP wr wx.heap.size 38 #[.slice A n cap, .slice At s1.tx.length ct, .int .i64 (z:Int), .int .i64 0])/\Hid (fZ wr (wx.heap.size+1) 5 (.slice A n cap) ((c2.take i).flatMap jd))/\Hid ((c2.take i).all em=true)) (fun vi _=>N-(intOf vi).toNat)
        case atStart=>exact⟨0,none,0,0,rfl,aC _,G rfl,HE1,y0,HO0,HA0⟩
        case round=>
         obtain⟨i,A,n,cap,rfl,hi,HZ1,HE2,HB2,HO2,HA2⟩:=hrel;clear HO0 HA0 HE1 y0;generalize wr=wv at*;by_cases hlt:i<N
         ·have hlt':(i:Int)<(N:Int):=by omega
          have hix:i<c2.length:=by rw[HN2.out];exact hlt
          have HQ6:=G (HQ5.out.ext HE2.out);have hcode:=HQ6.out.h.code;rw[show({s1 with code:=c2}:CS).code=c2 from rfl,HN2.out]at hcode;have e0:wv.cell? ⟨g,i*5,none⟩=some (.int .i64 c2[i].op):=by rw[hcode.cellAt _ (by omega),show i*5=i*5+0 from rfl,eR _ _ hix 0 (by omega)];rfl
          have e1:wv.cell? ⟨g,i*5+1,none⟩=some (.int .i64 c2[i].a):=by rw[hcode.cellAt _ (by omega),eR _ _ hix 1 (by omega)];rfl
          have e2:wv.cell? ⟨g,i*5+2,none⟩=some (.int .i64 c2[i].b):=by rw[hcode.cellAt _ (by omega),eR _ _ hix 2 (by omega)];rfl
          have e3:wv.cell? ⟨g,i*5+3,none⟩=some (.int .i64 c2[i].c):=by rw[hcode.cellAt _ (by omega),eR _ _ hix 3 (by omega)];rfl
          have e4:wv.cell? ⟨g,i*5+4,none⟩=some (.int .i64 c2[i].v):=by rw[hcode.cellAt _ (by omega),eR _ _ hix 4 (by omega)];rfl
          have HEn:=G (fun W (h:au wx W)=>up c2[i] W (HFx.out.ext h));have HTk:=G (xX hix);have HAk:=G (show(c2.take (i+1)).all em=((c2.take i).all em&&em c2[i]) by rw[aM hix,gP];simp);have HNl:=G (fun(h:em c2[i]=false)=>qO hix h);have HLn:=G (show((c2.take i).flatMap jd).length=4*i by rw[oD,aW];omega);generalize (c2.take i).flatMap jd=L at*;have hvl:c2[i].val= .agg #[.int .i64 c2[i].op, .int .i64 c2[i].a, .int .i64 c2[i].b, .int .i64 c2[i].c, .int .i64 c2[i].v]:=rfl;rw[hvl]at HEn;clear hvl hcode;have hlg:em c2[i]=true\/em c2[i]=false:=by cases em c2[i]<;>simp
          generalize c2[i]=x at*
          go_upto_region 22 with fail
          generalize hW:World.alloc wv _=W1;obtain⟨hE1,y0,_⟩:=jm hW;have HE3:=G (HE2.out.trans hE1);have HB3:=G (HB2.out.ext hE1);have HO3:=G (HO2.out.ext hE1);have c0:=y0.out.cell;clear hW hE1 y0 e0 e1 e2 e3 e4 HB2 HO2 HE2 HQ6;rcases hlg with hlg|hlg
          ·have hle:L.length<=4000000000:=by rw[HLn.out];omega
           have HAl:=G (show(c2.take (i+1)).all em=true by rw[HAk.out,HA2.out,hlg];rfl);have HZ2:=G (show L.length+(jd x).length=4*(i+1) by rw[HLn.out,lU];omega);clear HAk HA2 HNl HLn
           go_upto_region 25 with(go_at_call 74;refine(HEn.out _ HE3.out).mono ?_;rintro e w5 ⟨hE,hR⟩;rcases hR with⟨_,g5,rfl,hs5⟩|⟨hR,_⟩;rotate_left;(rw[hlg]at hR;cases hR);have HE5:=G (HE3.out.trans hE);have HS5:=G hs5;have HB5:=G (HB3.out.ext hE);have HO5:=G (HO3.out.ext hE);clear hE hs5 HEn c0 HB3 HO3 HE3)
           have c0:=HB5.out.cell;have hz5:=HB5.out.lt;clear hlg;go_wp2_with (at_builtin;refine dZ bt rfl _ _ rfl (wx.heap.size+1) _ L rfl HO5.out _ _ (jd x) (by rw[lU];rfl) HS5.out (by rw[lU];omega) (by omega) ?_;intro A6 c6 w6 q1 q2 _;have HO6:=G q1;have HE6:=G (HE5.out.grown q2 fun k hk=>by have:=ji HO5.out k hk;omega);have HB6:=G (HB5.out.grown q2 fun e=>by have:=ji HO5.out _ e.symm;omega);clear q1 q2 c0 HO5 HE5 HB5 HS5;have c0:=HB6.out.cell;have f0:=HB6.out.frozen);have HB7:=G (HB6.out.set 0 (.slice A6 (L.length+(jd x).length) c6));have HE7:=G (HE6.out.set (p:=⟨wx.heap.size,0,none⟩) (ah _) (.slice A6 (L.length+(jd x).length) c6));have HO7:=G (show fZ _ _ _ _ _ from ownsRow_setCell_below HO6.out (a:=⟨wx.heap.size,0,none⟩) (dt _) (.slice A6 (L.length+(jd x).length) c6));rw[<-HTk.out]at HO7;clear HB6 HE6 HO6 c0 f0;go_roundw
           case rel=>exact⟨i+1,A6,_,c6,by go_num,by omega,HZ2,HE7,G (by simpa using HB7.out),HO7,HAl⟩
           case measure=>simp[intOf];omega
          ·have HRb:=G (show R=(⟨[],[],0,0⟩,6) by rw[HR.out,if_neg (HNl.out hlg)])
           go_upto_region 23 with(go_at_call 74;refine(HEn.out _ HE3.out).mono ?_;rintro e w5 ⟨hE,hR⟩;rcases hR with⟨hR,_⟩|⟨_,rfl⟩;(rw[hlg]at hR;cases hR);have HE5:=G (HE3.out.trans hE);clear hE HEn c0)
           have HQ7:=G (HQ5.out.ext HE5.out);have x0:=HQ7.out.x.1.cell;have f0:=HQ7.out.x.1.frozen;have HS:=G (HQ7.out.x.1.put4 (.slice none 0 0) (.slice none 0 0) (.int .i64 0) (.int .i64 0)).cell;have HMv:=G (HQ7.out.T.1.put4 (ah _) (.slice none 0 0) (.slice none 0 0) (.int .i64 0) (.int .i64 0));clear HQ7 hlg;go_wp2_with fail;have hset:=HS.out;exact bodyPost_ret (v:= .tuple #[.agg #[.slice none 0 0, .slice none 0 0, .int .i64 0, .int .i64 0], .int .i64 6]) (by simp[results,results34,go_sem,hset]) rfl ⟨⟨none,0,none,0,by rw[HRb.out];rfl,by rw[HRb.out];exact d7 _,by rw[HRb.out];exact d7 _⟩,HMv.out⟩
         ·have hiN:i=N:=by omega
          have hlt': ¬(i:Int)<(N:Int):=by omega
          have HT:=G (show c2.take i=c2 from bh (by have:=HN2.out;omega));rw[HT.out]at HO2 HA2;rw[if_pos HA2.out]at HR;have hN7:N<=768:=by have:=hU.out;omega
          have HL:=G (show(c2.flatMap jd).length<=4000 by rw[oD,HN2.out];omega);have HTx:=G (show fZ wv k.base 5 (.slice At s1.tx.length ct) s1.tx from(HQ5.out.ext HE2.out).h.tx);generalize c2.flatMap jd=CL at*;obtain rfl:=HO2.out.sl.1;have HMk:=G (fun W (h:au wv W)=>zc ⟨CL,s1.tx,z,0⟩ A At cap ct W (HFx.out.ext (HE2.out.trans h)) (HO2.out.sl.2.ext h) (HTx.out.sl.2.ext h) (by have:=HL.out;simp only;omega) (by simp only;omega));simp only[kN.val]at HMk;generalize Bt ⟨CL,s1.tx,z,0⟩=M at*;obtain⟨M1,M2⟩:=M;simp only at HMk HR;have c0:=HB2.out.cell;clear HZ1 hlt hi hiN HT HA2 HN2;by_cases hM:M2=0
          ·subst hM;rw[if_pos rfl]at HR
           go_upto_region 30 with(go_at_call 24;refine(HMk.out _ (aG _)).mono ?_;rintro e w5 ⟨hE,A8,n8,c8,rfl,_⟩;have HE5:=G hE;clear hE HMk c0)
           have HQ7:=G (HQ5.out.ext (HE2.out.trans HE5.out));have x0:=HQ7.out.x.1.cell;have f0:=HQ7.out.x.1.frozen;have c0:=(HB2.out.ext HE5.out).cell;have HS:=G (HQ7.out.x.1.put4 (.slice A CL.length cap) (.slice At s1.tx.length ct) (.int .i64 z) (.int .i64 0)).cell;have HMv:=G (HQ7.out.put4 (ah _) (.slice A CL.length cap) (.slice At s1.tx.length ct) (.int .i64 z) (.int .i64 0));have HOv:=G ((HO2.out.ext HE5.out).put4 (g:=w.heap.size) (by have:=HQ5.out.x.1.lt;omega) (.slice A CL.length cap) (.slice At s1.tx.length ct) (.int .i64 z) (.int .i64 0));clear HQ7;go_wp2_with fail;have hset:=HS.out;exact bodyPost_ret (v:= .tuple #[.agg #[.slice A CL.length cap, .slice At s1.tx.length ct, .int .i64 z, .int .i64 0], .int .i64 0]) (by simp[results,results34,go_sem,hset]) rfl ⟨⟨A,cap,At,ct,by rw[HR.out];rfl,by rw[HR.out];exact HOv.out.sl.2,by rw[HR.out];exact fZ.sl HMv.out.1.tx|>.2⟩,HMv.out.2⟩
          ·rw[if_neg hM]at HR;have hM1:(M2==0)=false:=beq_eq_false_iff_ne.2 hM;clear hM
           go_upto_region 29 with(go_at_call 24;refine(HMk.out _ (aG _)).mono ?_;rintro e w5 ⟨hE,A8,n8,c8,rfl,_⟩;have HE5:=G hE;clear hE HMk c0)
           have HQ7:=G (HQ5.out.ext (HE2.out.trans HE5.out));have x0:=HQ7.out.x.1.cell;have f0:=HQ7.out.x.1.frozen;have HS:=G (HQ7.out.x.1.put4 (.slice none 0 0) (.slice none 0 0) (.int .i64 0) (.int .i64 0)).cell;have HMv:=G (HQ7.out.T.1.put4 (ah _) (.slice none 0 0) (.slice none 0 0) (.int .i64 0) (.int .i64 0));clear HQ7;go_wp2_with fail;have hset:=HS.out;exact bodyPost_ret (v:= .tuple #[.agg #[.slice none 0 0, .slice none 0 0, .int .i64 0, .int .i64 0], .int .i64 6]) (by simp[results,results34,go_sem,hset]) rfl ⟨⟨none,0,none,0,by rw[HR.out];rfl,by rw[HR.out];exact d7 _,by rw[HR.out];exact d7 _⟩,HMv.out⟩
end
end Go.Proofs.YtoedmpgicdekmaaGreatDoor
