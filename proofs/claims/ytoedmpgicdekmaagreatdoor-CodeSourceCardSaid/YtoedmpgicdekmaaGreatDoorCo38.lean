/- Parts of the proof. -/
import Derived.Test.YtoedmpgicdekmaaGreatDoorCo31
import Derived.Test.YtoedmpgicdekmaaGreatDoorCo37
set_option maxRecDepth 100000
set_option maxHeartbeats 8000000
set_option linter.all false
namespace Go.Proofs.YtoedmpgicdekmaaGreatDoor
open IntKind(i64)
open Go.Proofs.Tryz
section
open Go.RowKit
theorem zx {t:List UInt8} (d:0<t.length%4):lI (t++[0])=lI t:=by
 unfold lI;rw[aL]
 congr 1
 rw[H,iQ];have a:(4-t.length%4)%4=(4-(t.length+1)%4)%4+1:=J
 rw[a,jq];rfl
theorem BO {t:List UInt8} (d: ¬0<t.length%4):lI t=t:=by
 have a:(4-t.length%4)%4=0:=J
 unfold lI;rw[a];simp
theorem BN (t:List UInt8):(lI t).length<=t.length+3:=by unfold lI;simp;omega
theorem jt.txb {k:CC} {R:List (Nm×Int)} {O:Nat->Prop} {u d:World} {s:CS} {A h y z w v':Value} (o:jt k R A h y z w u s) (X: ∀b,O b↔some b∈bM k A h y z w) (x:List UInt8)
  (V:im d k.base 5 v' (s.tx++x)) (F:u.grownBy d h.ownBlock) (a:v'.ownBlock=h.ownBlock\/v'.ownBlock=some u.heap.size):
  aO d k.c 95 #[k.va,k.fa,A,h,.map (some k.bp),.map (some k.bs),.map (some k.ba),y,z,w,.int i64 s.frame]/\CP k R O u {s with tx:=s.tx++x} (d.setCell ⟨k.c,3,none⟩ v'):=by
 have G:=o.blk.grown F (fL o).2.2.1;refine⟨G,o.tx_cp X (by simpa using G.set 3 v') ?_ a ((ki F λb e=> .inr e).set (λ_=> .inl rfl) _)⟩;refine World.ownsRow.kept V (je d k.c 3 _) ?_;rcases a with a|a
 ·exact .inr λe=>(fL o).2.2.1 (by rw[<-a];exact e.symm)
 ·exact .inr λe=>by
   have aa:=(o.lo k.c (by simp[bM])).2;rw[a]at e;injection e with e;omega
def IU (c:Nat) (w:World):Nat:=match w.cell? ⟨c,3,none⟩with
 |some (.slice _ n _)=>(4-n%4)%4
 | _=>0
theorem AD {k:CC} {h:List (Nm×Int)} {O:Nat->Prop} {a:World} {s:CS} (m:CX k h O a s):IU k.c a=(4-s.tx.length%4)%4:=by
 obtain⟨_,o,_,_,_,d,_⟩:=m;obtain⟨u,c,rfl⟩:=d.tx.form;unfold IU;rw[d.blk.cell 3];rfl
def EL (at_ pl:List (Nm×Int)) (s:CS) (z:Int):pD×Int:=
 if 3072<mr (4*s.code.length)+(lI s.tx).length+z then(⟨[],[],0,0⟩,6)
 else
  let code:=tR (mr (4*s.code.length)) (lI s.tx).length pl s.dats (tS at_ s.calls s.code)
  if code.all ft=true then(let f:pD:=⟨code.flatMap kI,lI s.tx,z,0⟩;if(r_ f).2=0 then(f,0)else(⟨[],[],0,0⟩,6))
  else(⟨[],[],0,0⟩,6)
theorem kE: ∀(l:List (Nat×Nm)) (i:Nat) (a:i<l.length) (j:Nat),j<2->(f9 l)[i*2+j]? =(oo l[i])[j]?
 | [],i,a,j,hj=>by simp at a
 |x::l,0,a,j,hj=>by
  simp only[f9,bJ,aY,aE,aF];rw[br (by simp[oo];omega)]
 |x::l,i+1,a,j,hj=>by
  have:=kE l i (by simpa using a) j hj;simp only[f9,bJ,aP]at this⊢;rw[bH (by simp[oo];omega),<-this]
  congr 1
  simp[oo];omega
theorem zI {a:List (Nm×Int)} {l:List (Nat×Nm)} {j:Nat} {c:List dq} (d:j<l.length):tS a (l.drop j) c=tS a (l.drop (j+1)) (c.modify l[j].1 (gS · (aQ a l[j].2-l[j].1-1))):=by rw[ap d,tS]
theorem zH {a tx:Int} {d:List (Nm×Int)} {l:List (Nat×Nm)} {j:Nat} {c:List dq} (h:j<l.length):tR a tx d (l.drop j) c=tR a tx d (l.drop (j+1)) (c.modify l[j].1 (addV · (if l[j].2=[]then a else a+(tx+aQ d l[j].2)))):=by rw[ap h,tR]
def VB (c:List dq) (B:Int):Prop:= ∀x∈c,-B<=x.v/\x.v<=B
theorem VB.mono {c:List dq} {B D:Int} (d:VB c B) (e:B<=D):VB c D:=λx a=>by have:=d x a;omega
theorem VB.modify {c:List dq} {B:Int} (d:VB c B) (i:Nat) (f:dq->dq) (o: ∀x,-B<=x.v/\x.v<=B-> -B<=(f x).v/\(f x).v<=B):VB (c.modify i f) B:=by
 intro x h;obtain⟨j,a,rfl⟩:=List.mem_iff_getElem.1 h;rw[List.getElem_modify];rw[d6]at a;split
 ·exact o _ (d _ (ax a))
 ·exact d _ (ax a)
theorem xq (c:List dq) (i:Nat) (d:i<c.length) (f:dq->dq) (v:Int) (a:f c[i]=gS c[i] v):c.modify i f=c.modify i (gS · v):=by
 apply ge;intro j;rw[eg,eg];by_cases e:i=j
 ·subst e;simp[d,a]
 ·simp[e]
theorem xp (c:List dq) (i:Nat) (a b:Int):(c.modify i (gS · a)).modify i (gS · b)=c.modify i (gS · b):=by
 apply ge;intro j;rw[eg,eg,eg];by_cases e:i=j
 ·simp[e,gS,Option.map_map,Function.comp_def]
 ·simp[e]
structure FQ (k:CC) (at_:List (Nm×Int)) (O0:Nat->Prop) (w0:World) (vc vt vl vd vs:Value) (pb:Nat) (t:TypeId) (cs:Array Value) (s:CS) (w:World):Prop where
 h:jt k at_ vc vt vl vd vs w s
 T:eo O0 w0 (λb=>some b∈bM k vc vt vl vd vs) w
 x:LB (λb=>some b∈bM k vc vt vl vd vs) w pb t cs
section
variable {k:CC} {at_:List (Nm×Int)} {O0:Nat->Prop} {w0 w w':World} {vc vt vl vd vs:Value} {pb:Nat} {t:TypeId} {cs:Array Value} {s:CS}
theorem FQ.ext (d:FQ k at_ O0 w0 vc vt vl vd vs pb t cs s w) (a:au w w'):FQ k at_ O0 w0 vc vt vl vd vs pb t cs s w':=
 ⟨d.h.keep a.size λb o=>a.obj (d.h.lo b o).2,d.T.ex a,d.x.ext a⟩
theorem FQ.setv {g d n:Nat} (a:FQ k at_ O0 w0 (.slice (some ⟨g,0,none⟩) n d) vt vl vd vs pb t cs s w) (y:s.code.length=n) (i:Nat) (hi:i<n) (v:Int):
  FQ k at_ O0 w0 (.slice (some ⟨g,0,none⟩) n d) vt vl vd vs pb t cs {s with code:=s.code.modify i (gS · v)} (w.setCell ⟨g,i*5+4,none⟩ (.int i64 v)):=by
 subst y;have u:=(fL a.h).2.1;have A:Mv (λb=>b=k.c\/Value.ownBlock (.slice (some ⟨g,0,none⟩) s.code.length d)=some b) w (w.setCell ⟨g,i*5+4,none⟩ (.int i64 v)):=(gG _ _).set (p:=⟨g,i*5+4,none⟩) (λ_=> .inr rfl) _;have o:eo (λb=>some b∈bM k (.slice (some ⟨g,0,none⟩) s.code.length d) vt vl vd vs) w (λb=>some b∈bM k (.slice (some ⟨g,0,none⟩) s.code.length d) vt vl vd vs) (w.setCell ⟨g,i*5+4,none⟩ (.int i64 v)):=
  ⟨(gG _ _).set (p:=⟨g,i*5+4,none⟩) (λ_=>by simp[bM,Value.ownBlock]) _,λb z=> .inl z⟩
 refine⟨a.h.code_to (c':=s.code.modify i (gS · v)) (a.h.blk.far (p:=⟨g,i*5+4,none⟩) (λe=>u (by rw[e];rfl)) _) ?_ (.inl rfl) A,a.T.trans o,a.x.st o⟩;have:=a.h.code.stored (i*5+4) (.int i64 v);rw[d6,nC _ _ _ hi];simpa using this.1
end
end
section
structure CI (s:CS):Prop where
 v:VB s.code 1000000000
 c: ∀q∈s.calls,q.1<s.code.length/\q.2.length<=1000000000
 d: ∀q∈s.dats,q.1<s.code.length/\q.2.length<=1000000000
section
variable {s:CS}
theorem CI.add (o:CI s) (x:dq) (w: -1000000000<=x.v/\x.v<=1000000000):CI (s.add x):=by
 refine⟨λu a=> ?_,λq h=> ?_,λq h=> ?_⟩
 ·simp only[CS.add,fU,bR]at a;rcases a with a|rfl
  ·exact o.v u a
  ·exact w
 ·have:=o.c q h;simp only[CS.add,H,iQ];omega
 ·have:=o.d q h;simp only[CS.add,H,iQ];omega
theorem CI.vl (d:CI s) (op:Nat) (h v:Int) (a: -1000000000<=v/\v<=1000000000):CI (s.vl op h v):=d.add _ a
theorem CI.op (d:CI s) (a:Nat) (h b n:Int):CI (s.op a h b n):=d.add _ Qe
theorem CI.st (a:CI s) (r n:Int):CI (s.st r n):=by
 have b1: ∀n,-32768<=jQ n/\jQ n<=32767:=λn=>by unfold jQ;split<;>omega
 have h:=b1 n;have d: -32768<=EJ n/\EJ n<=32767:=b1 _;unfold CS.st;split
 ·exact a.vl _ _ _ J
 ·exact(a.vl _ _ _ J).vl _ _ _ J
theorem CI.inv (a:CI s) (r:Int):CI (s.inv r):=(a.vl _ _ _ J).op _ _ _ _
theorem CI.chk (a:CI s) (r m:Int):CI (s.chk r m):=(((((a.st _ _).op _ _ _ _).vl _ _ _ J).op _ _ _ _).op _ _ _ _).op _ _ _ _
theorem CI.call (u:CI s) (nm:Nm) (o:nm.length<=1000000000):CI (s.call nm):=by
 have h:=u.vl 20 14 0 J;refine⟨h.v,λq a=> ?_,h.d⟩;simp only[CS.call,fU,bR]at a;rcases a with a|rfl
 ·exact h.c q a
 ·exact⟨by simp[CS.call,CS.vl,CS.add],o⟩
theorem CI.dat (u:CI s) (r:Int) (nm:Nm) (o:nm.length<=1000000000):CI (s.dat r nm):=by
 have h:=u.vl 1 r 0 J;refine⟨h.v,h.c,λq a=> ?_⟩;simp only[CS.dat,fU,bR]at a;rcases a with a|rfl
 ·exact h.d q a
 ·exact⟨by simp[CS.dat,CS.vl,CS.add],o⟩
theorem CI.text (o:CI s) (r:Int) (t:List UInt8) (u:s.tx.length<=1000000000):CI (s.text r t):=by
 have h:=o.vl 1 r s.tx.length J;refine⟨h.v,h.c,λq a=> ?_⟩;simp only[CS.text,fU,bR]at a;rcases a with a|rfl
 ·exact h.d q a
 ·exact⟨by simp[CS.text,CS.vl,CS.add],by simp⟩
theorem CI.land (h:CI s) (i:Nat) (o:s.code.length<=900000000) (hi:i<=900000000):CI (s.land i):=by
 refine⟨h.v.modify i _ λx _=>by simp only[gS];omega,λq a=> ?_,λq a=> ?_⟩
 ·have:=h.c q a;simpa[CS.land]using this
 ·have:=h.d q a;simpa[CS.land]using this
theorem CI.decl (a:CI s) (nm:Nm):CI (s.decl nm):=⟨a.v,a.c,a.d⟩
theorem CI.ld (a:CI s) (d:Nat) (r:Int) (nm:Nm) (h:nm.length<=1000000000):CI (s.ld d r nm):=by
 unfold CS.ld;split
 ·exact a.op _ _ _ _
 ·exact(a.dat _ _ h).op _ _ _ _
theorem CI.elem (sz:Nm->Int) (d:CI s) (r:Int) (nm:Nm) (a:nm.length<=1000000000):CI (s.elem sz r nm):=((d.chk _ _).dat _ _ a).op _ _ _ _
theorem CI.back (a:CI s) (d: -1000000000<=s.frame/\s.frame<=1000000000):CI s.back:=((a.op _ _ _ _).op _ _ _ _).op _ _ _ _
theorem CI.biop (a:CI s) (op:Nm) (r:Int):CI (biop op r s):=by
 unfold Proofs.YtoedmpgicdekmaaGreatDoor.biop;simp only;split<;>split<;>first|exact(a.op _ _ _ _).inv _|exact a.op _ _ _ _
theorem CI.svL (a:Nat): ∀(k i:Nat) {s:CS},CI s->CI (svL a k i s)
 |0,i,s,h=>h
 |k+1,i,s,h=>CI.svL a k (i+1) (h.op _ _ _ _)
theorem CI.mvL (r:Nat): ∀(k i:Nat) {s:CS},CI s->CI (mvL r k i s)
 |0,i,s,h=>h
 |k+1,i,s,h=>CI.mvL r k (i+1) (h.op _ _ _ _)
theorem CI.caFin (d:CI s) (nm:Nm) (n r:Nat) (a:nm.length<=1000000000):CI (caFin nm n r s):=(CI.svL _ _ _ ((CI.mvL _ _ _ (CI.svL _ _ _ d)).call _ a)).op _ _ _ _
theorem CI.biM (a:CI s) (c:Int) (n r i:Nat):CI (biM c n r i s):=by
 unfold Proofs.YtoedmpgicdekmaaGreatDoor.biM;split
 ·exact a.vl _ _ _ J
 ·exact a.op _ _ _ _
end
theorem G6 {nm:Nm} {c:Int} {ls:List UInt8} (a:fX nm=some (c,ls)):0<=c/\c<=1000:=by
 unfold fX at a;rw[fP]at a;obtain⟨h,w,u⟩:=a;have o: ∀x∈sD,0<=x.2.1/\x.2.1<=1000:=Qd
 have d:=o h (dA w);rw[u]at d;exact d
variable (sz:Nm->Int)
theorem t6: ∀(ls:List UInt8) (o:List Ex) (a:Int) (s:CS),dU o<=1000000000->CI s->(mQ sz ls o a s).2.big<=900000000->CI (mQ sz ls o a s).2
 | _,[],a,s,_,h,_=>h
 |ls,x::l,a,s,hw,h,hb=>by
  rw[dU,ru]at hw;rw[mQ]at hb⊢;split at hb
  ·rename_i e;rw[if_pos e];exact t6 ls.tail l a s J h hb
  rename_i e;rw[if_neg e];split at hb
  ·rename_i d;rw[if_pos d];have w:=kh sz ls.tail l x.tx.length ((s.text 5 x.tx).st 6 x.tx.length);have u:=iX (s.text 5 x.tx) 6 x.tx.length;rw[cD]at u;exact t6 ls.tail l _ _ J ((h.text _ _ (Cd (B:=1000000000) J)).st _ _) hb
  ·rename_i d;rw[if_neg d];exact t6 ls.tail l _ _ J (h.dat _ _ J) hb
theorem Dg (c:Int) (u:0<=c/\c<=1000) (ls:List UInt8) (a:List Ex) (r:Nat) (s:CS) (o:dU a<=1000000000) (d:CI s) (w:(iT sz c ls a r s).big<=900000000):CI (iT sz c ls a r s):=by
 have y:=jC sz c ls a r s;have h:=t6 sz ls a 0 s o d J;unfold iT;simp only;have q: ∀{t:CS},CI t->CI (biM c (ua ls a) r 2 (biM c (ua ls a) r 1 (biM c (ua ls a) r 0 t))):=λd=>((d.biM _ _ _ _).biM _ _ _ _).biM _ _ _ _;split
 ·exact((((q (h.chk _ _)).op _ _ _ _).vl _ _ _ J).op _ _ _ _).op _ _ _ _
 ·exact(((q h).vl _ _ _ J).op _ _ _ _).op _ _ _ _
mutual
theorem Fb: ∀(x:Ex) (r:Nat) (s:CS),x.wt<=1000000000->CI s->(fu sz x r s).big<=900000000->CI (fu sz x r s)
 | .mk k op nm tx v a,r,s,hw,h,hb=>by
  rw[Ex.wt]at hw;rw[fu]at hb⊢;split at hb
  ·rename_i e;rw[if_pos e];exact h.st _ _
  rename_i R;rw[if_neg R];split at hb
  ·rename_i e;rw[if_pos e];exact h.ld _ _ _ J
  rename_i G;rw[if_neg G];split at hb
  ·rename_i e;rw[if_pos e];have X:=gW sz (eW sz a r s) r nm;rw[bh]at hb;exact(CI.elem sz (vR a r s J h J) _ _ J).op _ _ _ _
  rename_i F;rw[if_neg F];split at hb
  ·rename_i e;rw[if_pos e];split at hb
   ·rename_i c ls d;have o:=kh sz ls a 0 (mP sz ls a r s);have z:=jC sz c ls a r (mP sz ls a r s);exact Dg sz c (G6 d) ls a r _ J (G4 ls a r s J h J) hb
   ·rw[dl]at hb;exact(IA a r s J h J).caFin _ _ _ J
  rename_i A;rw[if_neg A];split at hb
  ·rename_i e;rw[if_pos e];split at hb
   ·rename_i d;rw[if_pos d];rw[bm]at hb;exact(vR a r s J h J).inv _
   ·rename_i d;rw[if_neg d];rw[bh,a7]at hb;exact((vR a r s J h J).vl _ _ _ J).op _ _ _ _
  rename_i d;rw[if_neg d];split at hb
  ·rename_i e;rw[if_pos e];have V:=nv sz a r s;split at hb
   ·rename_i y;rw[if_pos y];rw[bo,bm,bm]at hb;have o:=kZ sz a r ((eW sz a r s).vl 19 r 0);rw[a7]at o;have u:=vR a r s J h J;have c1:=Fd a r ((eW sz a r s).vl 19 r 0) J (u.vl _ _ _ J) J;exact((c1.inv _).inv _).land _ (aU (by rw[bm,bm];omega)) (aU J)
   rename_i y;rw[if_neg y];split at hb
   ·rename_i w;rw[if_pos w];rw[bm,bo,bm]at hb;have o:=kZ sz a r (((eW sz a r s).inv r).vl 19 r 0);rw[a7,bm]at o;have u:=vR a r s J h J;have c1:=Fd a r (((eW sz a r s).inv r).vl 19 r 0) J ((u.inv _).vl _ _ _ J) J;exact((c1.inv _).land _ (aU (by rw[bm];omega)) (aU (by rw[bm];omega))).inv _
   ·rename_i w;rw[if_neg w];have o:=kZ sz a (r+1) (eW sz a r s);have z:=mh op r (nI sz a (r+1) (eW sz a r s));have u:=vR a r s J h J;exact(Fd a (r+1) _ J u J).biop _ _
  ·rename_i e;rw[if_neg e];exact h
theorem vR: ∀(l:List Ex) (r:Nat) (s:CS),dU l<=1000000000->CI s->(eW sz l r s).big<=900000000->CI (eW sz l r s)
 | [],r,s,_,h,_=>h
 |x::l,r,s,hw,h,hb=>by rw[dU]at hw;rw[eW]at hb⊢;exact Fb x r s J h hb
theorem Fd: ∀(l:List Ex) (r:Nat) (s:CS),dU l<=1000000000->CI s->(nI sz l r s).big<=900000000->CI (nI sz l r s)
 | [],r,s,_,h,_=>h
 |x::l,r,s,hw,h,hb=>by rw[dU]at hw;rw[nI]at hb⊢;exact vR l r s J h hb
theorem IA: ∀(l:List Ex) (r:Nat) (s:CS),dU l<=1000000000->CI s->(p6 sz l r s).big<=900000000->CI (p6 sz l r s)
 | [],r,s,_,h,_=>h
 |x::l,r,s,hw,h,hb=>by
  rw[dU]at hw;rw[p6]at hb⊢;have:=tG sz l (r+1) (fu sz x r s);exact IA l (r+1) _ J (Fb x r s J h J) hb
theorem G4: ∀(ls:List UInt8) (l:List Ex) (r:Nat) (s:CS),dU l<=1000000000->CI s->(mP sz ls l r s).big<=900000000->CI (mP sz ls l r s)
 | _,[],r,s,_,h,_=>h
 |ls,x::l,r,s,hw,h,hb=>by
  rw[dU]at hw;rw[mP]at hb⊢;split at hb
  ·rename_i e;rw[if_pos e];have:=qO sz ls.tail l (r+1) (fu sz x r s);exact G4 ls.tail l (r+1) _ J (Fb x r s J h J) hb
  ·rename_i e;rw[if_neg e];exact G4 ls.tail l r s J h hb
end
end
section
def CF (s:CS):Prop:=CI s/\ -1000000000<=s.frame/\s.frame<=1000000000
theorem CF.of {s t:CS} (a:CF s) (e:t.sf=s.sf) (hi:CI t):CF t:=by
 have:t.frame=s.frame:=congrArg Prod.snd e;exact⟨hi,by rw[this];exact a.2⟩
variable (sz:Nm->Int)
theorem Di (l:List Ex) (s:CS) (h:dU l<=1000000000) (a:CF s) (d:(gO sz l s).big<=900000000):CF (gO sz l s):=by
 cases l with
 |nil=>exact a.of rfl (a.1.vl _ _ _ J)
 |cons x l=>
  rw[dU]at h;rw[gO]at d⊢;exact a.of (wT sz x 7 s) (Fb sz x 7 s J a.1 d)
theorem G5 (l:List Ex) (r:Nat) (s:CS) (d:dU l<=1000000000) (a:CF s) (h:(eW sz l r s).big<=900000000):CF (eW sz l r s):=a.of (s_ sz l r s) (vR sz l r s d a.1 h)
theorem JZ (l:List Ex) (r:Nat) (s:CS) (d:dU l<=1000000000) (a:CF s) (h:(nI sz l r s).big<=900000000):CF (nI sz l r s):=a.of (Bt sz l r s) (Fd sz l r s d a.1 h)
mutual
theorem JY: ∀(x:St) (s:CS),x.wt<=1000000000->CF s->(nH sz x s).big<=900000000->CF (nH sz x s)
 | .mk k nm ex b e,s,hw,h,hb=>by
  rw[St.wt]at hw;rw[nH]at hb⊢;have X:=nv sz ex 7 s;have G:=iD sz b ((eW sz ex 7 s).vl 19 7 0);rw[a7]at G;split at hb
  ·rename_i q;rw[if_pos q];split at hb
   ·rename_i d;rw[if_pos d];rw[bo]at hb;have a:=G5 sz ex 7 s J h J;have c1:=sB b ((eW sz ex 7 s).vl 19 7 0) J (a.of rfl (a.1.vl _ _ _ J)) J;exact c1.of rfl (c1.1.land _ (aU J) (aU J))
   ·rename_i d;rw[if_neg d];rw[bo]at hb;have F:=iD sz e (((dI sz b ((eW sz ex 7 s).vl 19 7 0)).vl 18 0 0).land (eW sz ex 7 s).code.length);rw[bo,a7]at F;have a:=G5 sz ex 7 s J h J;have c1:=sB b ((eW sz ex 7 s).vl 19 7 0) J (a.of rfl (a.1.vl _ _ _ J)) J;have c2:=c1.of (t:=((dI sz b ((eW sz ex 7 s).vl 19 7 0)).vl 18 0 0).land (eW sz ex 7 s).code.length) rfl ((c1.1.vl _ _ _ J).land _ (aU (by rw[a7];omega)) (aU J));have o:=sB e _ J c2 J;exact o.of rfl (o.1.land _ (aU J) (aU J))
  rename_i q;rw[if_neg q];split at hb
  ·rename_i d;rw[if_pos d];rw[bo,a7]at hb;have a:=G5 sz ex 7 s J h J;have c1:=sB b ((eW sz ex 7 s).vl 19 7 0) J (a.of rfl (a.1.vl _ _ _ J)) J;have I:=aU (s:=s) (B:=900000000) J;have aa:=aU (s:=dI sz b ((eW sz ex 7 s).vl 19 7 0)) (B:=900000000) J;have c2:=c1.of (t:=(dI sz b ((eW sz ex 7 s).vl 19 7 0)).vl 18 0 ((s.code.length:Int)-(dI sz b ((eW sz ex 7 s).vl 19 7 0)).code.length-1)) rfl (c1.1.vl _ _ _ J);exact c2.of rfl (c2.1.land _ (aU (by rw[a7];omega)) (aU J))
  rename_i d;rw[if_neg d];have V:=B5 sz ex s;split at hb
  ·rename_i A;rw[if_pos A];have u:=jU ((gO sz ex s).decl nm) 15 7 nm;rw[cf]at u;have a:=Di sz ex s J h J;have:(((gO sz ex s).decl nm).ld 15 7 nm).frame=(gO sz ex s).frame:=by
    have:=congrArg Prod.snd (uH ((gO sz ex s).decl nm) 15 7 nm);exact this
   exact⟨(a.1.decl nm).ld _ _ _ J,by rw[this];exact a.2⟩
  rename_i A;rw[if_neg A];split at hb
  ·rename_i z;rw[if_pos z];have u:=jU (gO sz ex s) 15 7 nm;have a:=Di sz ex s J h J;exact a.of (uH _ _ _ _) (a.1.ld _ _ _ J)
  rename_i z;rw[if_neg z];split at hb
  ·rename_i y;rw[if_pos y];have R:=kZ sz ex 7 ((gO sz ex s).op 15 7 15 28);have u:=gW sz (((nI sz ex 7 ((gO sz ex s).op 15 7 15 28)).op 3 8 7 0).op 14 7 15 28) 7 nm;simp only[bh]at R u hb;have a:=Di sz ex s J h J;have c1:=JZ sz ex 7 ((gO sz ex s).op 15 7 15 28) J (a.of rfl (a.1.op _ _ _ _)) J;have c2:=c1.of (t:=((nI sz ex 7 ((gO sz ex s).op 15 7 15 28)).op 3 8 7 0).op 14 7 15 28) rfl ((c1.1.op _ _ _ _).op _ _ _ _);have o:=c2.of (sZ sz _ 7 nm) (CI.elem sz c2.1 7 nm J);exact o.of rfl (o.1.op _ _ _ _)
  rename_i y;rw[if_neg y];split at hb
  ·rename_i w;rw[if_pos w];rw[dn,bh]at hb;have a:=Di sz ex s J h J;exact a.of rfl ((a.1.op _ _ _ _).back a.2)
  ·rename_i w;rw[if_neg w];exact Di sz ex s J h J
theorem sB: ∀(l:List St) (s:CS),eX l<=1000000000->CF s->(dI sz l s).big<=900000000->CF (dI sz l s)
 | [],s,_,h,_=>h
 |x::l,s,hw,h,hb=>by
  rw[eX]at hw;rw[dI]at hb⊢;have:=iD sz l (nH sz x s);exact sB l _ J (JY x s J h J) hb
end
end
section
theorem F3: ∀(l:List Nm) (i:Nat) (s:CS),CF s->CF (lf l i s)
 | [],i,s,h=>h
 |p::l,i,s,h=>by
  rw[lf];exact F3 l (i+1) _ ⟨(h.1.decl p).op _ _ _ _,h.2⟩
theorem IB: ∀(k i:Nat) (s:CS),CF s->CF (wh k i s)
 |0,i,s,h=>h
 |k+1,i,s,h=>by
  rw[wh];exact IB k (i+1) _ ⟨h.1.op _ _ _ _,h.2⟩
variable (sz:Nm->Int)
theorem JT (f:Fc) (s:CS) (F:eX f.body<=1000000000) (R:e_ f<=1000000000) (o:CI s) (h:(zY sz f s).big<=900000000):CI (zY sz f s):=by
 unfold zY at h⊢;simp only at h⊢;have A:CF ({s with slots:=[],frame:=(e_ f:Int)}:CS):=⟨⟨o.v,o.c,o.d⟩,by simp only;omega⟩
 generalize ({s with slots:=[],frame:=(e_ f:Int)}:CS)=w at*;have c1:=A.of (t:=((((w.op 3 15 15 (-(e_ f:Int))).vl 1 0 3071).op 12 0 0 15).op 7 0 0 0).op 15 14 15 0) rfl (((((A.1.op _ _ _ _).vl _ _ _ J).op _ _ _ _).op _ _ _ _).op _ _ _ _);generalize ((((w.op 3 15 15 (-(e_ f:Int))).vl 1 0 3071).op 12 0 0 15).op 7 0 0 0).op 15 14 15 0=a at*;have c2:=F3 f.ps 0 a c1;have G:=IB (cK f.body) f.ps.length ((lf f.ps 0 a).vl 1 0 0) (c2.of rfl (c2.1.vl _ _ _ J));generalize wh (cK f.body) f.ps.length ((lf f.ps 0 a).vl 1 0 0)=u at*;rw[dn,a7]at h;have z:=sB sz f.body u F G J;have y:=z.of (t:=(dI sz f.body u).vl 1 1 0) rfl (z.1.vl _ _ _ J);exact y.1.back y.2
theorem G3:CI eU:=by
 have h:CI GX:=⟨λx d=>absurd d (by simp[GX]),λq a=>absurd a (by simp[GX]),λq a=>absurd a (by simp[GX])⟩
 unfold eU;exact((((((h.call _ Qd).vl _ _ _ J).op _ _ _ _).vl _ _ _ J).vl _ _ _ J).vl _ _ _ J|>.op _ _ _ _).vl _ _ _ J
theorem F2: ∀(l:List Fc) (q:List (Nm×Int)×CS),(∀f∈l,eX f.body<=1000000000/\e_ f<=1000000000)->CI q.2->(∀j,(ig sz (l.take j) q).2.big<=900000000)->CI (ig sz l q).2
 | [],q,_,h,_=>h
 |f::l,q,hf,h,hb=>by
  rw[ig];obtain⟨o,d⟩:=hf f Qe;refine F2 l _ (λg a=>hf g (by simp[a])) (JT sz f q.2 o d h ?_) λj=> ?_
  ·have:=hb 1;simpa[ig]using this
  ·have:=hb (j+1);simpa[ig]using this
end
section
def Aq:List Ex->Nat| []=>0|x::_=>x.wt
def DG:List Ex->Nat| []=>0| _::l=>dU l
theorem Gc (a:List Ex):Aq a+DG a=dU a:=by cases a<;>simp[Aq,DG,dU]
theorem Gb (a:List Ex):Aq a<=dU a:=by have:=Gc a;omega
theorem Ex.wt_pos (x:Ex):1<=x.wt:=by rw[ru];omega
section
variable (sz:Nm->Int)
theorem sQ: ∀(ls:List UInt8) (h:List Ex) (a:Int) (s:CS),(mQ sz ls h a s).2.big<=s.big+4*dU h
 | _,[],a,s=>by simp[mQ,dU]
 |ls,x::l,a,s=>by
  have u:x.tx.length+1<=x.wt:=by rw[ru];omega
  rw[mQ,dU];split
  ·have:=sQ ls.tail l a s;omega
  split
  ·have d:=sQ ls.tail l x.tx.length ((s.text 5 x.tx).st 6 x.tx.length);have o:=iX (s.text 5 x.tx) 6 x.tx.length;rw[cD]at o;omega
  ·have d:=sQ ls.tail l (sz x.nm) (s.dat 5 x.nm);rw[cO]at d;omega
variable {M K:Nat}
mutual
theorem DM (d:4*M+40<=K): ∀(x:Ex) (r:Nat) (s:CS),r-7+x.wt<=M->(fu sz x r s).big<=s.big+x.wt*K
 | .mk k op nm tx v a,r,s,h=>by
  have y:(Ex.mk k op nm tx v a).wt=1+op.length+nm.length+tx.length+dU a:=by rw[Ex.wt]
  rw[y]at h⊢
  rw[show(1+op.length+nm.length+tx.length+dU a)*K=K+(op.length+nm.length+tx.length)*K+dU a*K by
   rw[show 1+op.length+nm.length+tx.length+dU a=1+(op.length+nm.length+tx.length)+dU a by omega,ef,ef,cE]]
  generalize (op.length+nm.length+tx.length)*K=z;have w:=Gc a;have A:Aq a*K+DG a*K=dU a*K:=by rw[<-ef,w]
  rw[fu];split
  ·have:=iX s r v;omega
  split
  ·have:=jU s 14 r nm;omega
  split
  ·have o:=AB d a r s J;have u:=gW sz (eW sz a r s) r nm;rw[bh];omega
  split
  ·split
   ·rename_i c ls _;have o:=Gf d ls a r s J;have u:=jC sz c ls a r (mP sz ls a r s);have F:=sQ sz ls a 0 (mP sz ls a r s);omega
   ·have o:=Ht d a r s J;have u:=d7 a;rw[dl];omega
  split
  ·have o:=AB d a r s J;split
   ·rw[bm];omega
   ·rw[bh,a7];omega
  split
  ·have G:=AB d a r s J;split
   ·have o:=DN d a r ((eW sz a r s).vl 19 r 0) J;simp only[bo,bm,a7]at o⊢;omega
   split
   ·have o:=DN d a r (((eW sz a r s).inv r).vl 19 r 0) J;simp only[bo,bm,a7]at o⊢;omega
   ·have o:=DN d a (r+1) (eW sz a r s) J;have u:=mh op r (nI sz a (r+1) (eW sz a r s));omega
  ·omega
theorem AB (d:4*M+40<=K): ∀(a:List Ex) (r:Nat) (s:CS),r-7+Aq a<=M->(eW sz a r s).big<=s.big+Aq a*K
 | [],r,s,h=>by simp[eW,Aq]
 |x::l,r,s,h=>by rw[eW,Aq];exact DM d x r s h
theorem DN (d:4*M+40<=K): ∀(a:List Ex) (r:Nat) (s:CS),r-7+DG a<=M->(nI sz a r s).big<=s.big+DG a*K
 | [],r,s,h=>by simp[nI,DG]
 |x::l,r,s,h=>by
  rw[nI,DG];rw[DG]at h;have o:=Gb l;have w:=AB d l r s J;have u:=Nat.mul_le_mul_right K o;omega
theorem Ht (d:4*M+40<=K): ∀(a:List Ex) (r:Nat) (s:CS),r-7+dU a<=M->(p6 sz a r s).big<=s.big+dU a*K
 | [],r,s,h=>by simp[p6,dU]
 |x::l,r,s,h=>by
  rw[dU]at h;have o:=x.wt_pos;have w:=DM d x r s J;have u:=Ht d l (r+1) (fu sz x r s) J;rw[p6,dU,ef];omega
theorem Gf (a:4*M+40<=K): ∀(ls:List UInt8) (d:List Ex) (r:Nat) (s:CS),r-7+dU d<=M->(mP sz ls d r s).big<=s.big+dU d*K
 |ls,[],r,s,h=>by simp[mP,dU]
 |ls,x::l,r,s,h=>by
  rw[dU]at h;have u:=x.wt_pos;rw[mP,dU,ef];split
  ·have w:=DM a x r s J;have o:=Gf a ls.tail l (r+1) (fu sz x r s) J;omega
  ·have o:=Gf a ls.tail l r s J;omega
end
mutual
theorem I6 (a:4*M+40<=K): ∀(x:St) (s:CS),x.wt<=M->(nH sz x s).big<=s.big+x.wt*K
 | .mk k nm ex b e,s,h=>by
  have w:(St.mk k nm ex b e).wt=1+nm.length+dU ex+eX b+eX e:=by rw[St.wt]
  rw[w]at h⊢;rw[show(1+nm.length+dU ex+eX b+eX e)*K=K+nm.length*K+dU ex*K+eX b*K+eX e*K by simp only[ef,cE]];generalize nm.length*K=z;have u:=Gc ex;have y:Aq ex*K+DG ex*K=dU ex*K:=by rw[<-ef,u]
  have A:=I5 a ex s J;have F:=AB sz a ex 7 s J;rw[nH];split
  ·split
   ·have d:=rP a b ((eW sz ex 7 s).vl 19 7 0) J;simp only[bo,a7]at d⊢;omega
   ·have d:=rP a b ((eW sz ex 7 s).vl 19 7 0) J;have o:=rP a e (((dI sz b ((eW sz ex 7 s).vl 19 7 0)).vl 18 0 0).land (eW sz ex 7 s).code.length) J;simp only[bo,a7]at d o⊢;omega
  split
  ·have d:=rP a b ((eW sz ex 7 s).vl 19 7 0) J;simp only[bo,a7]at d⊢;omega
  split
  ·have:=jU ((gO sz ex s).decl nm) 15 7 nm;rw[cf]at this;omega
  split
  ·have:=jU (gO sz ex s) 15 7 nm;omega
  split
  ·have d:=DN sz a ex 7 ((gO sz ex s).op 15 7 15 28) J;have o:=gW sz (((nI sz ex 7 ((gO sz ex s).op 15 7 15 28)).op 3 8 7 0).op 14 7 15 28) 7 nm;simp only[bh]at d o⊢;omega
  split
  ·rw[dn,bh];omega
  ·omega
theorem rP (a:4*M+40<=K): ∀(l:List St) (s:CS),eX l<=M->(dI sz l s).big<=s.big+eX l*K
 | [],s,h=>by simp[dI,eX]
 |x::l,s,h=>by
  rw[eX]at h;have o:=I6 a x s J;have d:=rP a l (nH sz x s) J;rw[dI,eX,ef];omega
theorem I5 (d:4*M+40<=K): ∀(a:List Ex) (s:CS),dU a<=M->(gO sz a s).big<=s.big+Aq a*K+1
 | [],s,h=>by rw[gO,a7,Aq];omega
 |x::l,s,h=>by
  rw[dU]at h;have:=DM sz d x 7 s J;rw[gO,Aq];omega
end
mutual
theorem EX: ∀x:St,mO x<=x.wt
 | .mk k nm ex b e=>by
  have d:=qi b;have a:=qi e;rw[mO,St.wt];split<;>omega
theorem qi: ∀l:List St,cK l<=eX l
 | []=>ah _
 |x::l=>by
  have d:=EX x;have a:=qi l;rw[cK,eX];omega
end
theorem vX: ∀(k i:Nat) (s:CS),(wh k i s).big=s.big+k
 |0,i,s=>rfl
 |k+1,i,s=>by rw[wh,vX k,bh];omega
theorem BC: ∀l:List Nm,l.length<=(l.map λs=>s.length+1).sum
 | []=>ah _
 |x::l=>by have:=BC l;simp only[bL,dF,ag];omega
theorem I8 (o:4*M+40<=K) (f:Fc) (s:CS) (w:f.wt+1<=M):(zY sz f s).big<=s.big+(f.wt+1)*K:=by
 have y:=BC f.ps;have A:=qi f.body;have h:f.wt=f.nm.length+(f.ps.map λs=>s.length+1).sum+eX f.body:=rfl;rw[h]at w⊢;unfold zY;simp only;have F:({s with slots:=[],frame:=(e_ f:Int)}:CS).big=s.big:=rfl;generalize ({s with slots:=[],frame:=(e_ f:Int)}:CS)=a at*;have u:=(oN f.ps 0 (((((a.op 3 15 15 (-(e_ f:Int))).vl 1 0 3071).op 12 0 0 15).op 7 0 0 0).op 15 14 15 0)).1;have d:=rP sz o f.body (wh (cK f.body) f.ps.length ((lf f.ps 0 (((((a.op 3 15 15 (-(e_ f:Int))).vl 1 0 3071).op 12 0 0 15).op 7 0 0 0).op 15 14 15 0)).vl 1 0 0)) J;rw[vX,a7,u]at d;rw[dn,a7];simp only[bh,a7]at d;generalize (f.ps.map λs=>s.length+1).sum=p at*;rw[show(f.nm.length+p+eX f.body+1)*K=(f.nm.length+p)*K+eX f.body*K+K by rw[ef,ef,cE]];generalize (f.nm.length+p)*K=z;omega
theorem FC (a:4*M+40<=K): ∀(l:List Fc) (q:List (Nm×Int)×CS),(l.map λf=>f.wt+1).sum<=M->(ig sz l q).2.big<=q.2.big+(l.map λf=>f.wt+1).sum*K
 | [],q,h=>by simp[ig]
 |f::l,q,h=>by
  simp only[bL,dF]at h⊢;have o:=I8 sz a f q.2 J;have d:=FC a l ((f.nm,(q.2.code.length:Int))::q.1,zY sz f q.2) J;rw[ig,ef];simp only at d;omega
end
theorem AX (g:Fc->Nat): ∀(l:List Fc) (j:Nat),((l.take j).map g).sum<=(l.map g).sum
 | [],j=>by simp
 |x::l,0=>by simp
 |x::l,j+1=>by have:=AX g l j;simp only[jp,bL,dF];omega
theorem I7 (p:Pg) (u:mC p<=14000) (j:Nat):(ig (aQ (pI p.vs [])) (p.fs.take j) ([],eU)).2.big<=900000000:=by
 have o:=AX (λf=>f.wt+1) p.fs j;have h:(p.fs.map λf=>f.wt+1).sum<=mC p:=by unfold mC;omega
 have d:(ig (aQ (pI p.vs [])) (p.fs.take j) ([],eU)).2.big<=eU.big+((p.fs.take j).map λf=>f.wt+1).sum*56040:=FC (aQ (pI p.vs [])) (M:=14000) (K:=56040) J (p.fs.take j) ([],eU) J;have a:eU.big<=20:=Qd
 omega
end
section
open Go.RowKit
theorem Mv.put4 {S:Nat->Prop} {a b:World} {g:Nat} (u:Mv S a b) (w:a.heap.size<=g) (x h d o:Value):Mv S a ((((b.setCell ⟨g,0,none⟩ x).setCell ⟨g,1,none⟩ h).setCell ⟨g,2,none⟩ d).setCell ⟨g,3,none⟩ o):=
 (((u.set (λe=>absurd e Qg) _).set (λe=>absurd e Qg) _).set (λe=>absurd e Qg) _).set (λe=>absurd e Qg) _
theorem oG (x:dq):(kI x).length=4:=by unfold kI;split<;>rfl
theorem qV: ∀(c:List dq),(c.flatMap kI).length=4*c.length
 | []=>rfl
 |x::l=>by rw[bJ,H,oG,qV l,ag];omega
theorem tK {c:List dq} {j:Nat} (a:j<c.length) (d:ft c[j]=false): ¬c.all ft=true:=λe=>by
 have:=List.all_eq_true.1 e _ (ax a);rw[d]at this;simp at this
theorem AO {c:List dq} {j:Nat} (a:j<c.length):(c.take (j+1)).flatMap kI=(c.take j).flatMap kI++kI c[j]:=by
 rw[aT a,fB];simp
theorem FQ.put4 {k:CC} {X:List (Nm×Int)} {aa:Nat->Prop} {w0 o:World} {R z F G A:Value} {a:Nat} {t:TypeId} {ad:Array Value} {s:CS} (u:FQ k X aa w0 R z F G A a t ad s o) (I:w0.heap.size<=a) (x y w V:Value):
  jt k X R z F G A ((((o.setCell ⟨a,0,none⟩ x).setCell ⟨a,1,none⟩ y).setCell ⟨a,2,none⟩ w).setCell ⟨a,3,none⟩ V) s/\Mv aa w0 ((((o.setCell ⟨a,0,none⟩ x).setCell ⟨a,1,none⟩ y).setCell ⟨a,2,none⟩ w).setCell ⟨a,3,none⟩ V):=by
 refine⟨u.h.keep (by simp[World.setCell]) λb H=> ?_,u.T.1.put4 I _ _ _ _⟩;have d:b≠a:=λe=>u.x.2 (e▸H);rw[Below.heap_setCell _ _ _ _ d,Below.heap_setCell _ _ _ _ d,Below.heap_setCell _ _ _ _ d,Below.heap_setCell _ _ _ _ d]
theorem im.put4 {a:World} {base:Nat} {e:TypeId} {v:Value} {l:List UInt8} (h:im a base e v l) {g:Nat} (w:g<base) (x u o d:Value):im ((((a.setCell ⟨g,0,none⟩ x).setCell ⟨g,1,none⟩ u).setCell ⟨g,2,none⟩ o).setCell ⟨g,3,none⟩ d) base e v l:=by
 have q: ∀(a:World) (i:Nat) (d:Value),im a base e v l->im (a.setCell ⟨g,i,none⟩ d) base e v l:=λa i d h=>by
  refine World.ownsRow.kept h (je a g i d) ?_;by_cases hv:v.ownBlock=none
  ·exact .inl hv
  ·exact .inr λe=>by have:=kL h g e;omega
 exact q _ _ _ (q _ _ _ (q _ _ _ (q _ _ _ h)))
theorem Ad (k:CC) (w:List (Nm×Int)) (O:Nat->Prop) (X:World) (s:CS) (R:Nat) (m:CX k w O X s) (cS:kK k X) (cP:FT X) (ed:0<k.base) (d5:R<=100000000) (bK:s.big<=900000000)
  (cO:VB s.code 1000000000) (cK:0<s.code.length) (cR: ∀p∈s.calls,p.1<s.code.length/\p.2.length<=1000000000/\0<=aQ w p.2/\aQ w p.2<=1000000000)
  (cQ: ∀p∈s.dats,p.1<s.code.length/\p.2.length<=1000000000/\0<=aQ k.pl p.2/\aQ k.pl p.2<=1000000000):
  Calls prog 34 #[.pointer (some ⟨k.c,0,none⟩),.int i64 (R:Int)] X λe w'=>(∃ao c B cV,e=.returned (.tuple #[(EL w k.pl s R).1.val ao B c cV,.int i64 (EL w k.pl s R).2])/\Sl w' ao c (EL w k.pl s R).1.code/\Sl w' B cV (EL w k.pl s R).1.data)/\Mv O X w':=by
 have c3:=G (CQ.new m cS 38 #[.slice none 0 0,.slice none 0 0,.int i64 0,.int i64 0]);have dR:=G m;have dg:=G cP;have cw:=G cO;have b4:=G cR;have bX:=G cQ;have F:=G (show EL w k.pl s R=if 3072<mr (4*s.code.length)+(lI s.tx).length+R then(⟨[],[],0,0⟩,6)else _ from rfl);have bH:=G bK;generalize EL w k.pl s R=dI at*;clear m cS cP cO cR cQ bK;go_enter func34,ntmps34
 go_upto_region 1 with fail
 generalize World.alloc X _=eg at*;have c6:=G (show lI s.tx=lI s.tx from rfl)
 go_loopw [] (λwr=> ∃(bO:Nat->Prop) (t1:List UInt8),Hid (CQ k w O X X.heap.size 38 #[.slice none 0 0,.slice none 0 0,.int i64 0,.int i64 0] bO {s with tx:=t1} wr)/\Hid (lI t1=lI s.tx)) (λwr=>IU k.c wr)
 case atStart=>exact⟨_,s.tx,c3,c6⟩
 case round=>
  obtain⟨bO,t1,aC,bT⟩:=hrel;clear c3 c6;generalize wr=aP at*;obtain⟨cB,d3,cz,cA,aY,A,cN⟩:=id aC.out.m;obtain⟨af,ad,rfl⟩:=A.tx.form;have an:Hid (jt k w cB (.slice af t1.length ad) cz cA aY aP {s with tx:=t1}):=G A;have bV:Hid (∀b,bO b↔some b∈bM k cB (.slice af t1.length ad) cz cA aY):=G cN;have u:=A.blk.cell;have d7:t1.length<=900000010:=by
   have a9:=BN s.tx;have a8:=Cd bH.out;have bL:t1.length<=(lI t1).length:=by unfold lI;simp
   rw[bT.out]at bL;omega
  simp only at u;have dc:=G (show IU k.c aP=(4-t1.length%4)%4 from AD aC.out.m);clear A cN;by_cases hp:0<t1.length%4
  ·have dB:(0:Int)<(t1.length:Int)%4:=J
   have dN:=G (zx hp);have dQ:=G (show(4-(t1++[(0:UInt8)]).length%4)%4<(4-t1.length%4)%4 by simp;omega);clear hp;go_wp2_with (at_builtin;refine eO bt rfl _ _ rfl k.base _ t1 rfl (an.out.tx.ext (aa aP _)) _ _ [0] rfl (qz aP 5 0) Qg (by rw[World.size_alloc];have:=(fL an.out).1;omega) ?_;intro ek c2 d1 bi a7 cD;obtain⟨ck,eh,bL,cM⟩:=(an.out.keep (aa aP _).size λb bK=>(aa aP _).obj (an.out.lo b bK).2).txb bV.out [0] (by simpa using bi) a7 cD;have bc:=G ((aC.out.ext (aa aP _)).nx bL cM);clear u;have u:=ck.cell;have bb:=ck.frozen;clear bi a7 cD ck bL cM aC an bV);go_roundw
   case rel=>exact⟨_,t1++[0],bc,G (dN.out.trans bT.out)⟩
   case measure=>
    rw[dc.out];exact Nat.lt_of_le_of_lt (fQ (AD bc.out.m)) dQ.out
  ·have dB: ¬(0:Int)<(t1.length:Int)%4:=J
   have c4:=G (show lI s.tx=t1 from bT.out.symm.trans (BO hp));rw[c4.out]at F;clear hp bT c4 dc;obtain⟨ej,bu,rfl⟩:=kB an.out.code;have cJ:=aU bH.out;have az:s.code=({s with tx:=t1}:CS).code:=rfl;have br:s.calls=({s with tx:=t1}:CS).calls:=rfl;have bq:s.dats=({s with tx:=t1}:CS).dats:=rfl;have cp:t1=({s with tx:=t1}:CS).tx:=rfl;have cU:=qP bH.out;have cT:=tM bH.out;rw[az,br,bq]at F cw b4 bX;rw[az]at cJ u an cK;rw[br]at cU;rw[bq]at cT;generalize ({s with tx:=t1}:CS)=d at*;subst cp;clear az br bq bH;have dy:IntKind.i64.wrap (4*(d.code.length:Int))=4*(d.code.length:Int):=Qc
   have dA:(4*(d.code.length:Int)+127).tdiv 128=(4*(d.code.length:Int)+127)/128:=jE J;have dz:IntKind.i64.wrap (4*(d.code.length:Int)+128)=4*(d.code.length:Int)+128:=Qc
   have dx:IntKind.i64.wrap (4*(d.code.length:Int)+128-1)=4*(d.code.length:Int)+127:=Qc
   have dw:IntKind.i64.wrap ((4*(d.code.length:Int)+127)/128)=(4*(d.code.length:Int)+127)/128:=Qc
   obtain⟨U,av⟩: ∃U,(4*(d.code.length:Int)+127)/128*128=U:=⟨_,rfl⟩
   have cL:mr (4*d.code.length)=U:=av;rw[cL]at F;have ea:0<=U/\U<=4000000000:=J
   have dv:IntKind.i64.wrap U=U:=Qc
   have du:IntKind.i64.wrap (U+(d.tx.length:Int))=U+d.tx.length:=Qc
   have dt:IntKind.i64.wrap (U+(d.tx.length:Int)+R)=U+d.tx.length+R:=Qc
   clear cL;by_cases hfit:3072<U+(d.tx.length:Int)+R
   ·rw[if_pos hfit]at F;have ca:=aC.out.x.1.cell;have bb:=aC.out.x.1.frozen;have a3:=G (aC.out.x.1.put4 (.slice none 0 0) (.slice none 0 0) (.int i64 0) (.int i64 0)).cell;have aX:=G (aC.out.T.1.put4 (ah _) (.slice none 0 0) (.slice none 0 0) (.int i64 0) (.int i64 0));go_wp2_with fail;have aZ:=a3.out;exact bodyPost_ret (v:=.tuple #[.agg #[.slice none 0 0,.slice none 0 0,.int i64 0,.int i64 0],.int i64 6]) (by simp[results,results34,go_sem,aZ]) rfl ⟨⟨none,0,none,0,by rw[F.out];rfl,by rw[F.out];exact ep _,by rw[F.out];exact ep _⟩,aX.out⟩
   ·rw[if_neg hfit]at F
    go_upto_region 4 with fail
    clear dA dz dx dw;replace av:=G av;obtain⟨bv,bj,rfl⟩:=kB an.out.calls;obtain⟨bP,ld,rfl⟩:=kB an.out.dats;rcases an.out.code.2 with⟨aM,ee⟩|⟨g,aE,cur,aM,_⟩
    ·omega
    injection aM with a9 _ a8;subst a9 a8;obtain rfl:bO=λb=>some b∈bM k (.slice (some ⟨g,0,none⟩) d.code.length bu) (.slice af d.tx.length ad) (.slice bv d.calls.length bj) (.slice bP d.dats.length ld) aY:=funext λb=>propext (bV.out b);have bc:=G (FQ.mk an.out aC.out.T aC.out.x);clear an bV aC
    go_upto_region 7 with fail
    have d9:U<=3072/\(d.tx.length:Int)<=3072/\(R:Int)<=3072:=J
    clear dy dv du dt hfit u;obtain⟨CF,bn⟩: ∃CF,tS w d.calls d.code=CF:=⟨_,rfl⟩
    rw[bn]at F;replace bn:=G (show tS w (d.calls.drop 0) d.code=CF from bn);obtain⟨N,cn⟩: ∃N,d.code.length=N:=⟨_,rfl⟩
    have de:=G (show d.code.length=N/\VB d.code 1000000000 from⟨cn,cw.out⟩);obtain⟨aF,cm⟩: ∃N,d.calls.length=N:=⟨_,rfl⟩
    have be:=G cm;rw[cn]at bc cK cJ b4 bX av⊢;have ct:=G (show FQ k w O X (.slice (some ⟨g,0,none⟩) N bu) (.slice af d.tx.length ad) (.slice bv d.calls.length bj) (.slice bP d.dats.length ld) aY X.heap.size 38 #[.slice none 0 0,.slice none 0 0,.int i64 0,.int i64 0] {d with code:=d.code} aP from bc.out);rw[cm]at ct cU⊢;clear bc cn cm cw
    go_loopw [60] (λap wr=> ∃(j:Nat) (c2:List dq),ap=.int i64 (j:Int)/\j<=aF/\Hid (FQ k w O X (.slice (some ⟨g,0,none⟩) N bu) (.slice af d.tx.length ad) (.slice bv aF bj) (.slice bP d.dats.length ld) aY X.heap.size 38 #[.slice none 0 0,.slice none 0 0,.int i64 0,.int i64 0] {d with code:=c2} wr)/\Hid (tS w (d.calls.drop j) c2=CF)/\Hid (c2.length=N/\VB c2 1000000000)) (λap _=>aF-(intOf ap).toNat)
    case atStart=>exact⟨0,d.code,rfl,aD _,ct,bn,de⟩
    case round=>
     obtain⟨j,c2,rfl,cj,a5,bZ,aN⟩:=hrel;clear ct bn de;generalize wr=cb at*;by_cases hlt:j<aF
     ·have a1:(j:Int)<(aF:Int):=J
      have aK:j<d.calls.length:=by rw[be.out];exact hlt
      obtain⟨aH,bk,ce,cd⟩:=b4.out _ (ax aK);have dj:=G ((zI aK).symm.trans bZ.out);have aq:=a5.out.h.calls;rw[show({d with code:=c2}:CS).calls=d.calls from rfl]at aq;rcases aq.2 with⟨_,aM⟩|⟨gl,cap',cur',aM,_⟩
      ·rw[be.out]at aM;omega
      injection aM with a9 _ a8;subst a9 a8;have e0:cb.cell? ⟨gl,j*2,none⟩=some (.int i64 (d.calls[j].1:Int)):=by
       have bm:=aq;rw[be.out]at bm;rw[bm.cellAt _ J,show j*2=j*2+0 from rfl,kE _ _ aK 0 J];rfl
      have az:cb.cell? ⟨gl,j*2+1,none⟩=some (.string (Z d.calls[j].2)):=by
       have bm:=aq;rw[be.out]at bm;rw[bm.cellAt _ J,kE _ _ aK 1 J];rfl
      generalize d.calls[j]=p at*;obtain⟨o,y⟩:=p;simp only at aH bk ce cd e0 az dj;clear aq;have ch:=ay bk (show 1000000000<=maxLen by decide)
      go_upto_region 9 with fail
      generalize ar:World.alloc cb _=W1;obtain⟨ag,am,_⟩:=lC ar;have aV:=eR (aI W1);have V:=G (a5.out.ext (ag.trans aV));have u:=V.out.h.blk.cell;have cx:=(am.out.ext aV).cell;have dp:(Instr.lookup 88 (.map (some k.ba)) (.string (Z y)) false).run prog W1.drew=.ok (.int i64 (aQ w y)) W1.drew:=by
       rw[(V.out.h.at_.look xn ch).1];unfold gL aQ
       cases iw w y<;>rfl
      have aW:=G (V.out.setv aN.out.1 o aH (aQ w y-o-1));have dS:=G (show(c2.modify o (gS · (aQ w y-o-1))).length=N/\VB (c2.modify o (gS · (aQ w y-o-1))) 1000000000 from⟨by rw[d6];exact aN.out.1,aN.out.2.modify o _ λx _=>by simp only[gS];omega⟩);have z:=V.out.h.code;rw[show({d with code:=c2}:CS).code=c2 from rfl,aN.out.1]at z;have c1: ∃cC,W1.drew.cell? ⟨g,o*5+4,none⟩=some cC:=⟨_,by rw[z.cellAt _ J,fZ _ _ (by rw[aN.out.1];exact aH) 4 J];rfl⟩
      obtain⟨cC,c1⟩:=c1;have co:=z.frozenAt (o*5+4);generalize aQ w y=aA at*;have dF:(o:Int)<(N:Int):=J
      have cf:IntKind.i64.wrap (aA-o)=aA-o:=Qc
      have ds:IntKind.i64.wrap (aA-o-1)=aA-o-1:=Qc
      clear ar ag am aV V a5 z e0 az bZ aN;go_region;all_goals
       go_wp2_with fail;go_roundw
       case rel=>exact⟨j+1,_,by go_num,by omega,aW,dj,dS⟩
       case measure=>simp[intOf];omega
     ·have ci:aF=j:=J
      subst ci;have a1: ¬(aF:Int)<(aF:Int):=J
      have bw:=bZ.out;rw[bS (by have:=be.out;omega),tS]at bw;subst bw;clear bZ hlt cj;have u:=a5.out.h.blk.cell;obtain⟨a2,cl⟩: ∃N,d.dats.length=N:=⟨_,rfl⟩
      have bW:=G cl;rw[cl]at a5 u cT;obtain⟨b8,bo⟩: ∃b8,tR U d.tx.length k.pl d.dats c2=b8:=⟨_,rfl⟩
      rw[bo]at F;replace bo:=G (show tR U d.tx.length k.pl (d.dats.drop 0) c2=b8 from bo);have dd:=G (show c2.length=N/\VB c2 (1000000000+((0:Nat):Int)*1100000000)from⟨aN.out.1,by simpa using aN.out.2⟩);clear cl aN b4
      go_upto_region 12 with fail
      clear a1 u
      go_loopw [89] (λap wr=> ∃(j:Nat) (c2:List dq),ap=.int i64 (j:Int)/\j<=a2/\Hid (FQ k w O X (.slice (some ⟨g,0,none⟩) N bu) (.slice af d.tx.length ad) (.slice bv aF bj) (.slice bP a2 ld) aY X.heap.size 38 #[.slice none 0 0,.slice none 0 0,.int i64 0,.int i64 0] {d with code:=c2} wr)/\Hid (tR U d.tx.length k.pl (d.dats.drop j) c2=b8)/\Hid (c2.length=N/\VB c2 (1000000000+(j:Int)*1100000000))) (λap _=>a2-(intOf ap).toNat)
      case atStart=>exact⟨0,c2,rfl,aD _,a5,bo,dd⟩
      case round=>
       obtain⟨j,c2,rfl,cj,V,bY,al⟩:=hrel;clear a5 bo dd;generalize wr=ai at*;by_cases hlt:j<a2
       ·have a1:(j:Int)<(a2:Int):=J
        have aK:j<d.dats.length:=by rw[bW.out];exact hlt
        obtain⟨aH,bk,ce,cd⟩:=bX.out _ (ax aK);have bg:=G ((zH aK).symm.trans bY.out);have aq:=V.out.h.dats;rw[show({d with code:=c2}:CS).dats=d.dats from rfl,bW.out]at aq;rcases aq.2 with⟨_,aM⟩|⟨gl,cap',cur',aM,_⟩
        ·omega
        injection aM with a9 _ a8;subst a9 a8;have e0:ai.cell? ⟨gl,j*2,none⟩=some (.int i64 (d.dats[j].1:Int)):=by
         rw[aq.cellAt _ J,show j*2=j*2+0 from rfl,kE _ _ aK 0 J];rfl
        have az:ai.cell? ⟨gl,j*2+1,none⟩=some (.string (Z d.dats[j].2)):=by
         rw[aq.cellAt _ J,kE _ _ aK 1 J];rfl
        generalize d.dats[j]=p at*;obtain⟨o,y⟩:=p;simp only at aH bk ce cd e0 az bg;clear aq;have ch:=ay bk (show 1000000000<=maxLen by decide)
        go_upto_region 14 with fail
        generalize ar:World.alloc ai _=W1;obtain⟨ag,am,_⟩:=lC ar;have aV:=eR (aI W1);have a4:=G (V.out.ext (ag.trans aV));have u:=a4.out.h.blk.cell;have cx:=(am.out.ext aV).cell;have z:=a4.out.h.code;rw[show({d with code:=c2}:CS).code=c2 from rfl,al.out.1]at z;have bl:o<c2.length:=by rw[al.out.1];exact aH
        have c1:W1.drew.cell? ⟨g,o*5+4,none⟩=some (.int i64 c2[o].v):=by rw[z.cellAt _ J,fZ _ _ bl 4 J];rfl
        have co:=z.frozenAt (o*5+4);have cF:=al.out.2 _ (ax bl);have aW:=G (show FQ k w O X _ _ _ _ _ _ _ _ {d with code:=c2.modify o (gS · (c2[o].v+U))} (W1.setCell ⟨g,o*5+4,none⟩ (.int i64 (c2[o].v+U))).drew from a4.out.setv al.out.1 o aH (c2[o].v+U))
        have cr:=G (show aO (W1.setCell ⟨g,o*5+4,none⟩ (.int i64 (c2[o].v+U))).drew _ _ _ from(am.out.ext aV).far (p:=⟨g,o*5+4,none⟩) (λe=>by
         have:=(V.out.h.lo g (by simp[bM,Value.ownBlock])).2;simp only at e
         omega) _)
        have bR:=G (λcW=>xq c2 o bl (addV · cW) (c2[o].v+cW) rfl);generalize c2[o].v=I at*;have dF:(o:Int)<(N:Int):=J
        have cf:IntKind.i64.wrap (I+U)=I+U:=Qc
        clear ar ag am aV a4 V z e0 az bY;go_region;generalize World.drew (World.setCell W1 _ _)=cq at*;clear u c1 co cx cf;have dn:=cr.out.cell;by_cases hne:y=[]
        ·subst hne;rw[if_pos rfl,bR.out]at bg;have cv:=G (show(c2.modify o (gS · (I+U))).length=N/\VB (c2.modify o (gS · (I+U))) (1000000000+((j+1:Nat):Int)*1100000000)from⟨by rw[d6];exact al.out.1,(al.out.2.mono J).modify o _ λx _=>by simp only[gS];omega⟩);clear bR al cF bl;go_wp2_with fail;go_roundw
         case rel=>exact⟨j+1,_,by go_num,by omega,aW,bg,cv⟩
         case measure=>simp[intOf];omega
        ·rw[if_neg hne,bR.out]at bg;have dD:(y==[])=false:=Qn.2 hne;have dC:y.isEmpty=false:=by cases y with|nil=>exact absurd rfl hne|cons aA l=>rfl
         clear hne
         go_upto_region 16 with fail
         have cY:=G (λW (A:au cq W)=>show(Instr.lookup 88 (.map (some k.bp)) (.string (Z y)) false).run prog W=.ok (.int i64 (aQ k.pl y)) W by
          rw[((aW.out.ext A).h.pl.look xn ch).1];unfold gL aQ
          cases iw k.pl y<;>rfl)
         have bJ:(c2.modify o (gS · (I+U))).length=N:=by rw[d6];exact al.out.1
         have cH:o<(c2.modify o (gS · (I+U))).length:=by rw[bJ];exact aH
         have CK:=G (λW (A:au cq W)=>show W.cell? ⟨g,o*5+4,none⟩=some (.int i64 (I+U))/\W.frozen? ⟨g,o*5+4,none⟩=false by
          have z:=(aW.out.ext A).h.code;rw[show({d with code:=c2.modify o (gS · (I+U))}:CS).code=c2.modify o (gS · (I+U))from rfl,bJ]at z;refine⟨?_,z.frozenAt _⟩;rw[z.cellAt _ J,fZ _ _ cH 4 J]
          simp[nE,gS])
         have c5:=G (λW (A:au cq W)=>show FQ k w O X (.slice (some ⟨g,0,none⟩) N bu) (.slice af d.tx.length ad) (.slice bv aF bj) (.slice (some ⟨gl,0,none⟩) a2 ld) aY X.heap.size 38 #[.slice none 0 0,.slice none 0 0,.int i64 0,.int i64 0] {d with code:=c2.modify o (gS · (I+U+(d.tx.length+aQ k.pl y)))} (W.setCell ⟨g,o*5+4,none⟩ (.int i64 (I+U+(d.tx.length+aQ k.pl y)))) by
          have:=(aW.out.ext A).setv bJ o aH (I+U+(d.tx.length+aQ k.pl y));simp only at this;rw[xp]at this
          exact this)
         rw[show I+(U+(d.tx.length+aQ k.pl y))=I+U+(d.tx.length+aQ k.pl y) by omega]at bg;have cv:=G (show(c2.modify o (gS · (I+U+(d.tx.length+aQ k.pl y)))).length=N/\VB (c2.modify o (gS · (I+U+(d.tx.length+aQ k.pl y)))) (1000000000+((j+1:Nat):Int)*1100000000)from⟨by rw[d6];exact al.out.1,(al.out.2.mono J).modify o _ λx _=>by simp only[gS];omega⟩);generalize aQ k.pl y=aA at*;have cf:IntKind.i64.wrap ((d.tx.length:Int)+aA)=d.tx.length+aA:=Qc
         have ds:IntKind.i64.wrap (I+U+((d.tx.length:Int)+aA))=I+U+(d.tx.length+aA):=Qc
         clear dn bJ cH bR al cF bl dD dC;refine aB 25 1 [] mixed Qb trivial ?_;repeat (refine sx ?_ (λd2 av=> ?_) ?_;rotate_left;(focus have u:=(aW.out.ext av.un).h.blk.cell;have dY:=(cr.out.ext av.un).cell;have dp:=cY.out _ av.un;have c1:=(CK.out _ av.un).1;clear av;go_simp<;>with_reducible rfl);simp only[bE,bD,bC,bB,bA])
         intro cy cg _;simp only[ae,aw];have dO:=G (c5.out cy cg.un);obtain⟨c1,co⟩:=CK.out cy cg.un;clear cg CK c5 cY aW cr;go_wp2_with fail;go_roundw
         case rel=>exact⟨j+1,_,by go_num,by omega,dO,bg,cv⟩
         case measure=>simp[intOf];omega
       ·have ci:j=a2:=J
        subst ci;have a1: ¬(j:Int)<(j:Int):=J
        have bw:=bY.out;rw[bS (by have:=bW.out;omega),tR]at bw;subst bw;clear bY hlt cj be bW bX a1
        have df:=G (show FT ai from by
         obtain⟨t,fr,A⟩:=dg.out;refine⟨t,fr,(V.out.T.1.block _ (Array.getElem?_eq_some_iff.1 A).1 λe=> ?_).trans A⟩;have:=(dR.out.lt e).1
         omega)
        have cI:=al.out.1;have bx:=G cI;clear al dg;have u:=V.out.h.blk.cell;rw[show({d with code:=c2}:CS).frame=d.frame from rfl]at u
        go_upto_region 19 with fail
        generalize ar:World.alloc ai _=W1;obtain⟨ag,am,_⟩:=lC ar;have di:=G ag;have u:=((V.out.ext ag).h.blk).cell;rw[show({d with code:=c2}:CS).frame=d.frame from rfl]at u;have da:=G (show im W1 (ai.heap.size+1) 5 (.slice none 0 0) ((c2.take 0).flatMap kI)from World.ownsRow_nil _ _ _ _);have dm:=G (show(c2.take 0).all ft=true from rfl);clear ar ag cI
        go_upto_region 20 with fail
        clear u
        go_loopw [146] (λap wr=> ∃(i:Nat) (ao:Option Addr) (n aE:Nat),ap=.int i64 (i:Int)/\i<=N/\Hid (n=4*i)/\Hid (au ai wr)/\Hid (aO wr ai.heap.size 38 #[.slice ao n aE,.slice af d.tx.length ad,.int i64 (R:Int),.int i64 0])/\Hid (im wr (ai.heap.size+1) 5 (.slice ao n aE) ((c2.take i).flatMap kI))/\Hid ((c2.take i).all ft=true)) (λap _=>N-(intOf ap).toNat)
        case atStart=>exact⟨0,none,0,0,rfl,aD _,G rfl,di,am,da,dm⟩
        case round=>
         obtain⟨i,ao,n,aE,rfl,hi,dK,a6,b7,bd,bI⟩:=hrel;clear da dm di am;generalize wr=aR at*;by_cases hlt:i<N
         ·have a1:(i:Int)<(N:Int):=J
          have aS:i<c2.length:=by rw[bx.out];exact hlt
          have a4:=G (V.out.ext a6.out);have z:=a4.out.h.code;rw[show({d with code:=c2}:CS).code=c2 from rfl,bx.out]at z;have e0:aR.cell? ⟨g,i*5,none⟩=some (.int i64 c2[i].op):=by rw[z.cellAt _ J,show i*5=i*5+0 from rfl,fZ _ _ aS 0 J];rfl
          have az:aR.cell? ⟨g,i*5+1,none⟩=some (.int i64 c2[i].a):=by rw[z.cellAt _ J,fZ _ _ aS 1 J];rfl
          have br:aR.cell? ⟨g,i*5+2,none⟩=some (.int i64 c2[i].b):=by rw[z.cellAt _ J,fZ _ _ aS 2 J];rfl
          have bq:aR.cell? ⟨g,i*5+3,none⟩=some (.int i64 c2[i].c):=by rw[z.cellAt _ J,fZ _ _ aS 3 J];rfl
          have cp:aR.cell? ⟨g,i*5+4,none⟩=some (.int i64 c2[i].v):=by rw[z.cellAt _ J,fZ _ _ aS 4 J];rfl
          have bz:=G (λW (A:au ai W)=>xB c2[i] W (df.out.ext A));have dM:=G (AO aS);have dl:=G (show(c2.take (i+1)).all ft=((c2.take i).all ft&&ft c2[i]) by rw[aT aS,jl];simp);have db:=G (fun(A:ft c2[i]=false)=>tK aS A);have cu:=G (show((c2.take i).flatMap kI).length=4*i by rw[qV,bG];omega);generalize (c2.take i).flatMap kI=L at*;have cE:c2[i].val=.agg #[.int i64 c2[i].op,.int i64 c2[i].a,.int i64 c2[i].b,.int i64 c2[i].c,.int i64 c2[i].v]:=rfl;rw[cE]at bz;clear cE z;have aJ:ft c2[i]=true\/ft c2[i]=false:=by cases ft c2[i]<;>simp
          generalize c2[i]=x at*
          go_upto_region 22 with fail
          generalize ar:World.alloc aR _=W1;obtain⟨ag,am,_⟩:=lC ar;have bF:=G (a6.out.trans ag);have dk:=G (b7.out.ext ag);have c9:=G (bd.out.ext ag);have u:=am.out.cell;clear ar ag am e0 az br bq cp b7 bd a6 a4;rcases aJ with aJ|aJ
          ·have d8:L.length<=4000000000:=by rw[cu.out];omega
           have dW:=G (show(c2.take (i+1)).all ft=true by rw[dl.out,bI.out,aJ];rfl);have dJ:=G (show L.length+(kI x).length=4*(i+1) by rw[cu.out,oG];omega);clear dl bI db cu
           go_upto_region 25 with(go_at_call 74;refine(bz.out _ bF.out).mono ?_;rintro e cc ⟨aj,aL⟩;rcases aL with⟨_,ef,rfl,cG⟩|⟨aL,_⟩;rotate_left;(rw[aJ]at aL;cases aL);have aG:=G (bF.out.trans aj);have c0:=G cG;have b6:=G (dk.out.ext aj);have bU:=G (c9.out.ext aj);clear aj cG bz u dk c9 bF)
           have u:=b6.out.cell;have d4:=b6.out.lt;clear aJ;go_wp2_with (at_builtin;refine eO bt rfl _ _ rfl (ai.heap.size+1) _ L rfl bU.out _ _ (kI x) (by rw[oG];rfl) c0.out (by rw[oG];omega) J ?_;intro b9 bN d0 bi a7 _;have c8:=G bi;have dh:=G (aG.out.grown a7 λk dE=>by have:=kL bU.out k dE;omega);have b5:=G (b6.out.grown a7 λe=>by have:=kL bU.out _ e.symm;omega);clear bi a7 u bU aG b6 c0;have u:=b5.out.cell;have bb:=b5.out.frozen);have dV:=G (b5.out.set 0 (.slice b9 (L.length+(kI x).length) bN));have dU:=G (dh.out.set (p:=⟨ai.heap.size,0,none⟩) (ah _) (.slice b9 (L.length+(kI x).length) bN));have c7:=G (show im _ _ _ _ _ from ownsRow_setCell_below c8.out (a:=⟨ai.heap.size,0,none⟩) (dZ _) (.slice b9 (L.length+(kI x).length) bN));rw[<-dM.out]at c7;clear b5 dh c8 u bb;go_roundw
           case rel=>exact⟨i+1,b9,_,bN,by go_num,by omega,dJ,dU,G (by simpa using dV.out),c7,dW⟩
           case measure=>simp[intOf];omega
          ·have cs:=G (show dI=(⟨[],[],0,0⟩,6) by rw[F.out,if_neg (db.out aJ)])
           go_upto_region 23 with(go_at_call 74;refine(bz.out _ bF.out).mono ?_;rintro e cc ⟨aj,aL⟩;rcases aL with⟨aL,_⟩|⟨_,rfl⟩;(rw[aJ]at aL;cases aL);have aG:=G (bF.out.trans aj);clear aj bz u)
           have H:=G (V.out.ext aG.out);have ca:=H.out.x.1.cell;have bb:=H.out.x.1.frozen;have a3:=G (H.out.x.1.put4 (.slice none 0 0) (.slice none 0 0) (.int i64 0) (.int i64 0)).cell;have aX:=G (H.out.T.1.put4 (ah _) (.slice none 0 0) (.slice none 0 0) (.int i64 0) (.int i64 0));clear H aJ;go_wp2_with fail;have aZ:=a3.out;exact bodyPost_ret (v:=.tuple #[.agg #[.slice none 0 0,.slice none 0 0,.int i64 0,.int i64 0],.int i64 6]) (by simp[results,results34,go_sem,aZ]) rfl ⟨⟨none,0,none,0,by rw[cs.out];rfl,by rw[cs.out];exact ep _,by rw[cs.out];exact ep _⟩,aX.out⟩
         ·have dG:i=N:=J
          have a1: ¬(i:Int)<(N:Int):=J
          have cZ:=G (show c2.take i=c2 from bQ (by have:=bx.out;omega));rw[cZ.out]at bd bI;rw[if_pos bI.out]at F;have eb:N<=768:=by have:=av.out;omega
          have dT:=G (show(c2.flatMap kI).length<=4000 by rw[qV,bx.out];omega);have dL:=G (show im aR k.base 5 (.slice af d.tx.length ad) d.tx from(V.out.ext a6.out).h.tx);generalize c2.flatMap kI=bh at*;obtain rfl:=bd.out.sl.1;have bf:=G (λW (A:au aR W)=>vg ⟨bh,d.tx,R,0⟩ ao af aE ad W (df.out.ext (a6.out.trans A)) (bd.out.sl.2.ext A) (dL.out.sl.2.ext A) (by have:=dT.out;simp only;omega) Qi);simp only[pD.val]at bf;generalize r_ ⟨bh,d.tx,R,0⟩=M at*;obtain⟨ei,cX⟩:=M;simp only at bf F;have u:=b7.out.cell;clear dK hlt hi dG cZ bI bx;by_cases hM:cX=0
          ·subst hM;rw[if_pos rfl]at F
           go_upto_region 30 with(go_at_call 24;refine(bf.out _ (aI _)).mono ?_;rintro e cc ⟨aj,dX,dr,dH,rfl,_⟩;have aG:=G aj;clear aj bf u)
           have H:=G (V.out.ext (a6.out.trans aG.out));have ca:=H.out.x.1.cell;have bb:=H.out.x.1.frozen;have u:=(b7.out.ext aG.out).cell;have a3:=G (H.out.x.1.put4 (.slice ao bh.length aE) (.slice af d.tx.length ad) (.int i64 R) (.int i64 0)).cell;have aX:=G (H.out.put4 (ah _) (.slice ao bh.length aE) (.slice af d.tx.length ad) (.int i64 R) (.int i64 0));have dP:=G ((bd.out.ext aG.out).put4 (g:=X.heap.size) (by have:=V.out.x.1.lt;omega) (.slice ao bh.length aE) (.slice af d.tx.length ad) (.int i64 R) (.int i64 0));clear H;go_wp2_with fail;have aZ:=a3.out;exact bodyPost_ret (v:=.tuple #[.agg #[.slice ao bh.length aE,.slice af d.tx.length ad,.int i64 R,.int i64 0],.int i64 0]) (by simp[results,results34,go_sem,aZ]) rfl ⟨⟨ao,aE,af,ad,by rw[F.out];rfl,by rw[F.out];exact dP.out.sl.2,by rw[F.out];exact im.sl aX.out.1.tx|>.2⟩,aX.out.2⟩
          ·rw[if_neg hM]at F;have ec:(cX==0)=false:=Qn.2 hM;clear hM
           go_upto_region 29 with(go_at_call 24;refine(bf.out _ (aI _)).mono ?_;rintro e cc ⟨aj,dX,dr,dH,rfl,_⟩;have aG:=G aj;clear aj bf u)
           have H:=G (V.out.ext (a6.out.trans aG.out));have ca:=H.out.x.1.cell;have bb:=H.out.x.1.frozen;have a3:=G (H.out.x.1.put4 (.slice none 0 0) (.slice none 0 0) (.int i64 0) (.int i64 0)).cell;have aX:=G (H.out.T.1.put4 (ah _) (.slice none 0 0) (.slice none 0 0) (.int i64 0) (.int i64 0));clear H;go_wp2_with fail;have aZ:=a3.out;exact bodyPost_ret (v:=.tuple #[.agg #[.slice none 0 0,.slice none 0 0,.int i64 0,.int i64 0],.int i64 6]) (by simp[results,results34,go_sem,aZ]) rfl ⟨⟨none,0,none,0,by rw[F.out];rfl,by rw[F.out];exact ep _,by rw[F.out];exact ep _⟩,aX.out⟩
end
end Go.Proofs.YtoedmpgicdekmaaGreatDoor
