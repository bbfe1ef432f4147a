/- Parts of the proof. -/
import Derived.Test.YtoedmpgicdekmaaGreatDoorCl00
import Derived.Test.YtoedmpgicdekmaaGreatDoorCl31
import Derived.Test.YtoedmpgicdekmaaGreatDoorCl33
set_option maxRecDepth 100000
set_option maxHeartbeats 8000000
set_option linter.unusedVariables false
set_option linter.unusedSimpArgs false
set_option linter.unusedSectionVars false
namespace Go.Proofs.YtoedmpgicdekmaaGreatDoor
open Go.Proofs.Tryz
open Go.RowKit
theorem CY {k a:Nat} (h:128<=a) (d:0<k):iF k a=UInt8.ofNat (128+a%128)::iF (k-1) (a/128):=by
 obtain⟨e,rfl⟩:=dY (Nat.pos_iff_ne_zero.1 d);rw[iF,if_pos h];rfl
theorem CU {k a:Nat} (d:a<128):iF k a=[UInt8.ofNat a]:=by
 cases k with
 |zero=>rfl
 |succ k=>rw[iF,if_neg Qa]
theorem Below.of_grown {a w':World} {base:Nat} {row:Option Nat} (h:a.grownBy w' row) (o:base<=a.heap.size) (d: ∀k,row=some k->base<=k):Below base a w':=(RowKit.Below.refl _ _).grown h o d
def tB (w:World) (base:Nat) (e:TypeId) (v:Value) (l:List UInt8):Prop:=gT w base e v l\/ ∃g,v= .slice (some ⟨g,0,none⟩) l.length l.length/\Sl w (some ⟨g,0,none⟩) l.length l
theorem tB.form {d:World} {base:Nat} {e:TypeId} {v:Value} {l:List UInt8} (a:tB d base e v l): ∃o h,v= .slice o l.length h:=by
 rcases a with a|⟨g,rfl,_⟩
 ·exact a.form
 ·exact⟨_,_,rfl⟩
theorem tB.ext {d w':World} {base:Nat} {e:TypeId} {v:Value} {l:List UInt8} (a:tB d base e v l) (h:au d w'):tB w' base e v l:=by
 rcases a with a|⟨g,hv,hs⟩
 ·exact .inl (a.ext h)
 ·exact .inr ⟨g,hv,hs.ext h⟩
theorem uf {P:Program} {w:World} {t e:TypeId} (G:lU P t e) (ty:TypeId) (base:Nat) (g:Nat) (l:List UInt8) (V:Sl w (some ⟨g,0,none⟩) l.length l) (I:Option Addr) (y:Nat) (m:List UInt8) (M:Sl w I y m) (A:m≠ [])
  (ak:l.length+m.length<=70368744177664) (af:base<=w.heap.size):
  ∃H cap' w',(Builtin.append_ #[t,t] ty #[.slice (some ⟨g,0,none⟩) l.length l.length, .slice I m.length y]).run P w= .ok (.slice H (l.length+m.length) cap') w'/\gT w' base e (.slice H (l.length+m.length) cap') (l++m)/\w.grownBy w' none:=by
 obtain⟨i,Z,K,z,J⟩:=info_parts G.info;rcases M.rd with u|⟨b,off,rfl,_,hc⟩
 ·exact absurd u A
 have aj:0<m.length:=List.length_pos_iff.2 A;have ae: ∀j a,(im l)[j]? =some a->w.cell? ((⟨g,0,none⟩:Addr).add j)=some a:=λj a h=>by
  have d:j<l.length:=by have:=(List.getElem?_eq_some_iff.1 h).1;simpa[im]using this
  rcases V.rd with u|⟨b',o',o,_,hc'⟩
  ·rw[u]at d;simp at d
  ·injection o with o;injection o with ai ah;subst ai ah;rw[Addr.add_lit,hc' j d,<-h];simp[im,qQ,d]
 have ad: ∀j a,(im m)[j]? =some a->w.cell? ((⟨b,off,none⟩:Addr).add j)=some a:=λj a h=>by
  have d:j<m.length:=by have:=(List.getElem?_eq_some_iff.1 h).1;simpa[im]using this
  rw[Addr.add_lit,hc j d,<-h];simp[im,qQ,d]
 have R:=run_append_grow (P:=P) w t ty e i (.int .u8 0) G.under Z K ⟨g,0,none⟩ l.length l.length (im l) (by rw[z];simp[im]) ae ⟨b,off,none⟩ m.length y (im m) (by rw[z];simp[im]) ad Qa Qa (growslice_fits Qa (by rw[J];omega));have aa:=grownCap_ge w (l.length+m.length) l.length e;have ab:grownCap w (l.length+m.length) l.length e<=maxLen:=grownCap_le_maxLen w (l.length+m.length) l.length e Qh;refine⟨_,_,_,R,?_,⟨rfl,rfl,rfl,by simp,λk X _=>RowKit.Below.heap_alloc w.drew _ k X⟩⟩;have F:(im (l++m)).length=(l.length+m.length)*1:=by simp[im]
 unfold gT;rw[ac];refine⟨F, .inr ⟨w.heap.size,_,_,rfl,af,heap_alloc_new w.drew _,aa,ab,?_,?_⟩⟩
 ·simp only[Array.size_append,fQ,size_zeroCells,im,iR];have ag:(Value.int IntKind.u8 0).cells.size=1:=rfl;rw[ag];simp;omega
 ·simp only[Array.toList_append,aL];rw[<-aL,<-F];simp only[im,fG];exact List.take_left
theorem ly {P:Program} {a:World} {ops:Array Oper} {rest:List Oper} {h:Oper} {y:Act} {Q:Exit->Act->World->Prop} {t e:TypeId} (V:lU P t e) (M:h.guard=none) (s x:Operand)
  (K:h.op= .call {callee:= .builtin .append,args:= #[s,x],argTypes:= #[t,t]}) (base:Nat) (v:Value) (l:List UInt8) (I:y.eval s=v) (o:tB a base e v l)
  (z:Option Addr) (w:Nat) (m:List UInt8) (H:y.eval x= .slice z m.length w) (J:Sl a z w m) (aa:m≠ []) (R:l.length+m.length<=70368744177664) (u:base<=a.heap.size)
  (X: ∀d cap' w',gT w' base e (.slice d (l.length+m.length) cap') (l++m)->Below base a w'->wpList P ops Q rest (y.put h.dst (.slice d (l.length+m.length) cap')) w'):
  wpList P ops Q (h::rest) y a:=by
 rcases o with o|⟨g,rfl,hsl⟩
 ·exact eF V M s x K base v l I o z w m H J R u λd c' w' G F _=>X d c' w' G (Below.of_grown F u (λk A=>kq o k A))
 ·obtain⟨d,cap',w',Z,G,F⟩:=uf (P:=P) (w:=a) V h.type base g l hsl z w m J aa R u;refine wpList_plain M λac ab=> ?_;unfold Oper.wp execOp;simp only[K,resolve,invoke,builtin,Sem.run_bind,Sem.run_pure,Result.andThen_ok,dt,b7,du,I,H,Z];exact ab _ _ (X d cap' w' G (Below.of_grown F u (λk A=>by cases A)))
theorem pS (base:Nat) (ae:Option Addr) (N V:Nat) (l:List UInt8) (n:Nat) (z:World) (R:tB z base 5 (.slice ae N V) l) (ai:base<=z.heap.size) (aG:l.length<=1000000000) (aE:n<=1000000000000):
  Calls prog 49 #[.slice ae N V, .int .i64 (n:Int)] z λe w'=> ∃w c2,e= .returned (.slice w (l++fP n).length c2)/\gT w' base 5 (.slice w (l++fP n).length c2) (l++fP n)/\Below base z w':=by
 have al:=G (show N=l.length by obtain⟨aI,c',e⟩:=R.form;injection e);have ab:=G R
 have ao:=G (show fP (n:Int)=iF 10 (2*n) by
  unfold fP Fu;rw[if_neg Qa]
  congr 1)
 generalize fP (n:Int)=J at*;have au:IntKind.u64.wrap (n:Int)=(n:Int):=by rw[IntKind.wrap_u64];omega
 have ar:IntKind.u64.wrap ((n:Int)*2)=2*(n:Int):=by rw[IntKind.wrap_u64];omega
 have aD: ¬(n:Int)<0:=Qa
 clear R;go_enter func49,ntmps49
 go_upto_region 4 with fail
 have an:=G (show l++iF 10 (2*n)=l++J by rw[ao.out]);have aj:=G (show 2*n<128^(10+1)from Nat.lt_of_le_of_lt (show 2*n<=2000000000000 by omega) Qd);rw[al.out]at ab;have e0:((2*n:Nat):Int)=2*(n:Int):=Qa
 clear au ar
 go_loopw [0,5] (λaq M wr=> ∃(k a:Nat) (ad:Option Addr) (c1:Nat) (d:List UInt8),M= .int .u64 (a:Int)/\aq= .slice ad d.length c1/\Hid (Below base z wr)/\Hid (d++iF k a=l++J)/\Hid (a<128^(k+1)/\k<=10/\a<=2000000000000/\d.length+k<=l.length+10)/\Hid (tB wr base 5 (.slice ad d.length c1) d)) (λ_ M _=>(intOf M).toNat)
 case atStart=>exact⟨10,2*n,ae,V,l,by rw[e0],by rw[al.out],G (Below.refl _ _),an,G ⟨aj.out,ah _,by omega,ah _⟩,ab⟩
 case round=>
  obtain⟨k,a,ad,c1,d,rfl,rfl,I,am,X,ak⟩:=hrel;clear an aj ab ao e0;obtain⟨H,aH,aC,aF⟩:=X.out;have ag:=I.out.size;by_cases hge:128<=a
  ·have ay:(128:Int)<=(a:Int):=Qa
   have aw:0<k:=by
    rcases Nat.eq_zero_or_pos k with o|o
    ·subst o;simp at H;omega
    ·exact o
   have K:=G (show(d++[UInt8.ofNat (128+a%128)])++iF (k-1) (a/128)=l++J by rw[<-am.out,CY hge aw];simp)
   have aA:=G (show a/128<128^(k-1+1)/\k-1<=10/\a/128<=2000000000000/\(d++[UInt8.ofNat (128+a%128)]).length+(k-1)<=l.length+10 by
    refine⟨?_,by omega,by omega,by simp;omega⟩;rw[show k-1+1=k by omega];rw[Nat.pow_succ]at H
    exact Nat.div_lt_of_lt_mul (by rw[Nat.mul_comm];exact H))
   have az:IntKind.u8.wrap (128+(a:Int)%128)=((UInt8.ofNat (128+a%128)).toNat:Int):=by
    rw[eC];simp[IntKind.wrap,IntKind.signed,IntKind.bits]<;>omega
   have aB:IntKind.u64.wrap (128+(a:Int)%128)=128+(a:Int)%128:=by rw[IntKind.wrap_u64];omega
   have av:((a/128:Nat):Int)=(a:Int)/128:=Qa
   generalize UInt8.ofNat (128+a%128)=u at*;generalize wr=y at*;clear X H;go_wp2_with (at_builtin;refine ly bt rfl _ _ rfl base _ d rfl (ak.out.ext (aa y _)) _ _ [u] rfl (p9 y 5 u) Qe Qg (by rw[World.size_alloc];omega) ?_;intro w c2 ap F A;have Z:=G F;have ac:=G ((I.out.alloc (ax ai ag) _).trans A);clear F A I);go_roundw
   case rel=>exact⟨k-1,a/128,w,c2,d++[u],by rw[av],by simp,ac,K,aA,G (.inl (by have:=Z.out;simpa using this))⟩
   case measure=>simp[intOf];omega
  ·have ay: ¬(128:Int)<=(a:Int):=Qa
   have K:=G (show d++[UInt8.ofNat a]=l++J by rw[<-am.out,CU Qa]);have az:IntKind.u8.wrap (a:Int)=((UInt8.ofNat a).toNat:Int):=by
    rw[eC];simp[IntKind.wrap,IntKind.signed,IntKind.bits]<;>omega
   generalize UInt8.ofNat a=u at*;generalize wr=y at*;clear X H;go_wp2_with (at_builtin;refine ly bt rfl _ _ rfl base _ d rfl (ak.out.ext (aa y _)) _ _ [u] rfl (p9 y 5 u) Qe Qg (by rw[World.size_alloc];omega) ?_;intro w c2 ap F A;have Z:=G F;have ac:=G ((I.out.alloc (ax ai ag) _).trans A);clear F A I);go_ret;have af:d.length+1=l.length+J.length:=by have:=congrArg List.length K.out;simpa using this
   refine⟨w,c2,by simp[af],?_,ac.out⟩;have o:=Z.out;rw[K.out]at o;simpa[af]using o
theorem Sl.bel {h w':World} {base:Nat} {u:Option Addr} {c:Nat} {l:List UInt8} (o:Sl h u c l) (w:Below base h w') (z: ∀b d,u=some ⟨b,d,none⟩->l≠ []->b<base):Sl w' u c l:=by
 refine⟨o.le,o.max,o.nil,?_⟩;rcases o.rd with A|⟨b,d,ha,hbw,hc⟩
 ·exact .inl A
 ·by_cases hl:l=[]
  ·exact .inl hl
  have:=z b d ha hl;exact .inr ⟨b,d,ha,aA hbw w.size,λi y=>(World.cell?_of_block (w:=h) (a:=⟨b,d+i,none⟩) (w.block b this)).trans (hc i y)⟩
theorem x6 (k a:Nat):(iF k a).length<=k+1:=by
 induction k generalizing a with
 |zero=>simp[iF]
 |succ k ih=>simp only[iF];split<;>simp[ih]
theorem lO (n:Int):(fP n).length<=11:=x6 10 _
theorem pT (base:Nat) (K B:Option Addr) (N H a F:Nat) (l x:List UInt8) (d:World) (V:gT d base 5 (.slice K N H) l) (ah:base<=d.heap.size) (ao:l.length<=900000000) (X:Sl d B F x) (A:x.length=a) (af:x.length<=900000000) (ab: ∀b ae,B=some ⟨b,ae,none⟩->x≠ []->b<base):
  Calls prog 51 #[.slice K N H, .slice B a F] d λe w'=> ∃y c2,e= .returned (.slice y (l++fP a++x).length c2)/\gT w' base 5 (.slice y (l++fP a++x).length c2) (l++fP a++x)/\Below base d w':=by
 have J:=G (pS base K N H l a d (.inl V) ah Qa Qa);have ai:=G X;have al:=G ab;have I:=G A;obtain⟨o,u⟩: ∃o,l++fP (a:Int)=o:=⟨_,rfl⟩
 have aq:o.length<=900000020:=by
  rw[<-u,ac];have: ∀k z,(iF k z).length<=k+1:=λk=>by
   induction k with
   |zero=>intro z;simp[iF]
   |succ k ih=>intro z;rw[iF];split;simp[ih];simp
  have:=this 10 (Fu a);unfold fP;omega
 rw[u]at J;rw[u];have ar:=G (show(o++x).length=o.length+a by rw[ac,A]);have ap:a<=900000000:=Qa
 clear V X ab A u af;go_enter func51,ntmps51
 go_wp2_with (first
  |(go_at_call 49;refine J.out.mono ?_;rintro e an ⟨au,c1,rfl,Z,aa⟩;have ad:=G Z;have w:=G aa;clear J Z aa)
  |(at_builtin;refine eF bt rfl _ _ rfl base _ o rfl ad.out B F x (by rw[I.out];rfl) (ai.out.bel w.out al.out) (by have:=I.out;omega) (by have:=w.out.size;omega) ?_;intro y c2 am R M _;have aj:=G R;have ak:=G (Below.grown w.out M (by have:=w.out.size;omega) (λj ag=>kq ad.out j ag));clear R M))
 go_ret;refine⟨y,c2,by simp[I.out],?_,ak.out⟩;simpa using aj.out
end Go.Proofs.YtoedmpgicdekmaaGreatDoor
