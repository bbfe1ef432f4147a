/- Parts of the proof. -/
import Derived.Test.YtoedmpgicdekmaaGreatDoorCo34
import Derived.Test.YtoedmpgicdekmaaGreatDoorCo35
set_option maxRecDepth 100000
set_option maxHeartbeats 8000000
set_option linter.all false
namespace Go.Proofs.YtoedmpgicdekmaaGreatDoor
open Go.Proofs.Tryz
open Go.RowKit
theorem DK {k a:Nat} (h:128<=a) (d:0<k):i' k a=UInt8.ofNat (128+a%128)::i' (k-1) (a/128):=by
 obtain⟨e,rfl⟩:=ee (Nat.pos_iff_ne_zero.1 d);rw[i',if_pos h];rfl
theorem DJ {k a:Nat} (d:a<128):i' k a=[UInt8.ofNat a]:=by
 cases k with
 |zero=>rfl
 |succ k=>rw[i',if_neg J]
theorem Below.of_grown {a w':World} {base:Nat} {row:Option Nat} (h:a.grownBy w' row) (o:base<=a.heap.size) (d: ∀k,row=some k->base<=k):Below base a w':=(RowKit.Below.refl _ _).grown h o d
def ud (w:World) (base:Nat) (e:TypeId) (v:Value) (l:List UInt8):Prop:=im w base e v l\/ ∃g,v=.slice (some ⟨g,0,none⟩) l.length l.length/\Sl w (some ⟨g,0,none⟩) l.length l
theorem ud.form {d:World} {base:Nat} {e:TypeId} {v:Value} {l:List UInt8} (a:ud d base e v l): ∃o h,v=.slice o l.length h:=by
 rcases a with a|⟨g,rfl,_⟩
 ·exact a.form
 ·exact⟨_,_,rfl⟩
theorem ud.ext {d w':World} {base:Nat} {e:TypeId} {v:Value} {l:List UInt8} (a:ud d base e v l) (h:au d w'):ud w' base e v l:=by
 rcases a with a|⟨g,hv,hs⟩
 ·exact .inl (a.ext h)
 ·exact .inr ⟨g,hv,hs.ext h⟩
theorem uK {P:Program} {w:World} {t e:TypeId} (G:mo P t e) (ty:TypeId) (base:Nat) (g:Nat) (l:List UInt8) (ae:Sl w (some ⟨g,0,none⟩) l.length l) (V:Option Addr) (y:Nat) (m:List UInt8) (I:Sl w V y m) (A:m≠ [])
  (ap:l.length+m.length<=70368744177664) (Z:base<=w.heap.size):
  ∃R cap' w',(Builtin.append_ #[t,t] ty #[.slice (some ⟨g,0,none⟩) l.length l.length,.slice V m.length y]).run P w=.ok (.slice R (l.length+m.length) cap') w'/\im w' base e (.slice R (l.length+m.length) cap') (l++m)/\w.grownBy w' none:=by
 obtain⟨i,hi,aa,z,X⟩:=info_parts G.info;rcases I.rd with u|⟨b,off,rfl,_,hc⟩
 ·exact absurd u A
 have ao:0<m.length:=List.length_pos_iff.2 A;have aj: ∀j a,(iM l)[j]? =some a->w.cell? ((⟨g,0,none⟩:Addr).add j)=some a:=λj a h=>by
  have d:j<l.length:=by have:=(List.getElem?_eq_some_iff.1 h).1;simpa[iM]using this
  rcases ae.rd with u|⟨b',o',o,_,hc'⟩
  ·rw[u]at d;simp at d
  ·injection o with o;injection o with an am;subst an am;rw[Addr.add_lit,hc' j d,<-h];simp[iM,rz,d]
 have ai: ∀j a,(iM m)[j]? =some a->w.cell? ((⟨b,off,none⟩:Addr).add j)=some a:=λj a h=>by
  have d:j<m.length:=by have:=(List.getElem?_eq_some_iff.1 h).1;simpa[iM]using this
  rw[Addr.add_lit,hc j d,<-h];simp[iM,rz,d]
 have ad:=run_append_grow (P:=P) w t ty e i (.int .u8 0) G.under hi aa ⟨g,0,none⟩ l.length l.length (iM l) (by rw[z];simp[iM]) aj ⟨b,off,none⟩ m.length y (iM m) (by rw[z];simp[iM]) ai J J (growslice_fits J (by rw[X];omega));have ag:=grownCap_ge w (l.length+m.length) l.length e;have ah:grownCap w (l.length+m.length) l.length e<=maxLen:=grownCap_le_maxLen w (l.length+m.length) l.length e Qh;refine⟨_,_,_,ad,?_,⟨rfl,rfl,rfl,by simp,λk af _=>RowKit.Below.heap_alloc w.drew _ k af⟩⟩;have F:(iM (l++m)).length=(l.length+m.length)*1:=by simp[iM]
 unfold im;rw[H];refine⟨F,.inr ⟨w.heap.size,_,_,rfl,Z,heap_alloc_new w.drew _,ag,ah,?_,?_⟩⟩
 ·simp only[Array.size_append,gd,size_zeroCells,iM,jj];have al:(Value.int IntKind.u8 0).cells.size=1:=rfl;rw[al];simp;omega
 ·simp only[Array.toList_append,aL];rw[<-aL,<-F];simp only[iM,fV];exact List.take_left
theorem lS {P:Program} {a:World} {ops:Array Oper} {rest:List Oper} {h:Oper} {y:Act} {Q:Exit->Act->World->Prop} {t e:TypeId} (ad:mo P t e) (I:h.guard=none) (s x:Operand)
  (aa:h.op=.call {callee:=.builtin .append,args:= #[s,x],argTypes:= #[t,t]}) (base:Nat) (v:Value) (l:List UInt8) (V:y.eval s=v) (o:ud a base e v l)
  (z:Option Addr) (w:Nat) (m:List UInt8) (R:y.eval x=.slice z m.length w) (X:Sl a z w m) (ag:m≠ []) (H:l.length+m.length<=70368744177664) (u:base<=a.heap.size)
  (ae: ∀d cap' w',im w' base e (.slice d (l.length+m.length) cap') (l++m)->Below base a w'->wpList P ops Q rest (y.put h.dst (.slice d (l.length+m.length) cap')) w'):
  wpList P ops Q (h::rest) y a:=by
 rcases o with o|⟨g,rfl,hsl⟩
 ·exact eO ad I s x aa base v l V o z w m R X H u λd c' w' G F _=>ae d c' w' G (Below.of_grown F u (λk A=>kL o k A))
 ·obtain⟨d,cap',w',af,G,F⟩:=uK (P:=P) (w:=a) ad h.type base g l hsl z w m X ag H u;refine wpList_plain I λK ah=> ?_;unfold Oper.wp execOp;simp only[aa,resolve,invoke,builtin,Sem.run_bind,Sem.run_pure,Result.andThen_ok,dx,bL,dz,V,R,af];exact ah _ _ (ae d cap' w' G (Below.of_grown F u (λk A=>by cases A)))
theorem qm (base:Nat) (al:Option Addr) (N ae:Nat) (l:List UInt8) (n:Nat) (z:World) (ad:ud z base 5 (.slice al N ae) l) (ao:base<=z.heap.size) (aM:l.length<=1000000000) (aK:n<=1000000000000):
  Calls prog 49 #[.slice al N ae,.int .i64 (n:Int)] z λe w'=> ∃w c2,e=.returned (.slice w (l++f_ n).length c2)/\im w' base 5 (.slice w (l++f_ n).length c2) (l++f_ n)/\Below base z w':=by
 have ar:=G (show N=l.length by obtain⟨aO,c',e⟩:=ad.form;injection e);have ai:=G ad
 have aw:=G (show f_ (n:Int)=i' 10 (2*n) by
  unfold f_ Ga;rw[if_neg J]
  congr 1)
 generalize f_ (n:Int)=X at*;have aB:IntKind.u64.wrap (n:Int)=(n:Int):=by rw[IntKind.wrap_u64];omega
 have aA:IntKind.u64.wrap ((n:Int)*2)=2*(n:Int):=by rw[IntKind.wrap_u64];omega
 have aJ: ¬(n:Int)<0:=J
 clear ad;go_enter func49,ntmps49
 go_upto_region 4 with fail
 have av:=G (show l++i' 10 (2*n)=l++X by rw[aw.out]);have ap:=G (show 2*n<128^(10+1)from Nat.lt_of_le_of_lt (show 2*n<=2000000000000 by omega) Qd);rw[ar.out]at ai;have e0:((2*n:Nat):Int)=2*(n:Int):=J
 clear aB aA
 go_loopw [0,5] (λaz H wr=> ∃(k a:Nat) (Z:Option Addr) (c1:Nat) (d:List UInt8),H=.int .u64 (a:Int)/\az=.slice Z d.length c1/\Hid (Below base z wr)/\Hid (d++i' k a=l++X)/\Hid (a<128^(k+1)/\k<=10/\a<=2000000000000/\d.length+k<=l.length+10)/\Hid (ud wr base 5 (.slice Z d.length c1) d)) (λ_ H _=>(intOf H).toNat)
 case atStart=>exact⟨10,2*n,al,ae,l,by rw[e0],by rw[ar.out],G (Below.refl _ _),av,G ⟨ap.out,ah _,by omega,ah _⟩,ai⟩
 case round=>
  obtain⟨k,a,Z,c1,d,rfl,rfl,V,au,af,aq⟩:=hrel;clear av ap ai aw e0;obtain⟨R,aN,aI,aL⟩:=af.out;have an:=V.out.size;by_cases hge:128<=a
  ·have aE:(128:Int)<=(a:Int):=J
   have aD:0<k:=by
    rcases Nat.eq_zero_or_pos k with o|o
    ·subst o;simp at R;omega
    ·exact o
   have I:=G (show(d++[UInt8.ofNat (128+a%128)])++i' (k-1) (a/128)=l++X by rw[<-au.out,DK hge aD];simp)
   have aG:=G (show a/128<128^(k-1+1)/\k-1<=10/\a/128<=2000000000000/\(d++[UInt8.ofNat (128+a%128)]).length+(k-1)<=l.length+10 by
    refine⟨?_,by omega,by omega,by simp;omega⟩;rw[show k-1+1=k by omega];rw[Nat.pow_succ]at R
    exact Nat.div_lt_of_lt_mul (by rw[Nat.mul_comm];exact R))
   have aF:IntKind.u8.wrap (128+(a:Int)%128)=((UInt8.ofNat (128+a%128)).toNat:Int):=by
    rw[eL];simp[IntKind.wrap,IntKind.signed,IntKind.bits]<;>omega
   have aH:IntKind.u64.wrap (128+(a:Int)%128)=128+(a:Int)%128:=by rw[IntKind.wrap_u64];omega
   have aC:((a/128:Nat):Int)=(a:Int)/128:=J
   generalize UInt8.ofNat (128+a%128)=u at*;generalize wr=y at*;clear af R;go_wp2_with (at_builtin;refine lS bt rfl _ _ rfl base _ d rfl (aq.out.ext (aa y _)) _ _ [u] rfl (qz y 5 u) Qe Qg (by rw[World.size_alloc];omega) ?_;intro w c2 ax F A;have ag:=G F;have aj:=G ((V.out.alloc (ay ao an) _).trans A);clear F A V);go_roundw
   case rel=>exact⟨k-1,a/128,w,c2,d++[u],by rw[aC],by simp,aj,I,aG,G (.inl (by have:=ag.out;simpa using this))⟩
   case measure=>simp[intOf];omega
  ·have aE: ¬(128:Int)<=(a:Int):=J
   have I:=G (show d++[UInt8.ofNat a]=l++X by rw[<-au.out,DJ J]);have aF:IntKind.u8.wrap (a:Int)=((UInt8.ofNat a).toNat:Int):=by
    rw[eL];simp[IntKind.wrap,IntKind.signed,IntKind.bits]<;>omega
   generalize UInt8.ofNat a=u at*;generalize wr=y at*;clear af R;go_wp2_with (at_builtin;refine lS bt rfl _ _ rfl base _ d rfl (aq.out.ext (aa y _)) _ _ [u] rfl (qz y 5 u) Qe Qg (by rw[World.size_alloc];omega) ?_;intro w c2 ax F A;have ag:=G F;have aj:=G ((V.out.alloc (ay ao an) _).trans A);clear F A V);go_ret;have am:d.length+1=l.length+X.length:=by have:=congrArg List.length I.out;simpa using this
   refine⟨w,c2,by simp[am],?_,aj.out⟩;have o:=ag.out;rw[I.out]at o;simpa[am]using o
theorem Sl.bel {h w':World} {base:Nat} {u:Option Addr} {c:Nat} {l:List UInt8} (o:Sl h u c l) (w:Below base h w') (y: ∀b d,u=some ⟨b,d,none⟩->l≠ []->b<base):Sl w' u c l:=by
 refine⟨o.le,o.max,o.nil,?_⟩;rcases o.rd with z|⟨b,d,ha,hbw,hc⟩
 ·exact .inl z
 ·by_cases hl:l=[]
  ·exact .inl hl
  have:=y b d ha hl;exact .inr ⟨b,d,ha,aA hbw w.size,λi hi=>(World.cell?_of_block (w:=h) (a:=⟨b,d+i,none⟩) (w.block b this)).trans (hc i hi)⟩
theorem yM (k a:Nat):(i' k a).length<=k+1:=by
 induction k generalizing a with
 |zero=>simp[i']
 |succ k ih=>simp only[i'];split<;>simp[ih]
theorem mc (n:Int):(f_ n).length<=11:=yM 10 _
theorem qo (base:Nat) (X B:Option Addr) (N F M A:Nat) (l x:List UInt8) (a:World) (ad:im a base 5 (.slice X N F) l) (am:base<=a.heap.size) (av:l.length<=900000000) (ae:Sl a B A x) (z:x.length=M) (Z:x.length<=900000000) (ah: ∀b aj,B=some ⟨b,aj,none⟩->x≠ []->b<base):
  Calls prog 51 #[.slice X N F,.slice B M A] a λe w'=> ∃w c2,e=.returned (.slice w (l++f_ M++x).length c2)/\im w' base 5 (.slice w (l++f_ M++x).length c2) (l++f_ M++x)/\Below base a w':=by
 have V:=G (qm base X N F l M a (.inl ad) am J J);have an:=G ae;have aq:=G ah;have R:=G z;obtain⟨d,o⟩: ∃d,l++f_ (M:Int)=d:=⟨_,rfl⟩
 have ax:d.length<=900000020:=by
  rw[<-o,H];have: ∀k y,(i' k y).length<=k+1:=λk=>by
   induction k with
   |zero=>intro y;simp[i']
   |succ k ih=>intro y;rw[i'];split;simp[ih];simp
  have:=this 10 (Ga M);unfold f_;omega
 rw[o]at V;rw[o];have ay:=G (show(d++x).length=d.length+M by rw[H,z]);have aw:M<=900000000:=J
 clear ad ae ah z o Z;go_enter func51,ntmps51
 go_wp2_with (first
  |(go_at_call 49;refine V.out.mono ?_;rintro e au ⟨az,c1,rfl,af,ag⟩;have ai:=G af;have u:=G ag;clear V af ag)
  |(at_builtin;refine eO bt rfl _ _ rfl base _ d rfl ai.out B A x (by rw[R.out];rfl) (an.out.bel u.out aq.out) (by have:=R.out;omega) (by have:=u.out.size;omega) ?_;intro w c2 ar I aa _;have ao:=G I;have ap:=G (Below.grown u.out aa (by have:=u.out.size;omega) (λj al=>kL ai.out j al));clear I aa))
 go_ret;refine⟨w,c2,by simp[R.out],?_,ap.out⟩;simpa using ao.out
end Go.Proofs.YtoedmpgicdekmaaGreatDoor
