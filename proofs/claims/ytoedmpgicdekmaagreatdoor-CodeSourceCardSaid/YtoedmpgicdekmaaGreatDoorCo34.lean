/- Parts of the proof. -/
import Derived.Test.YtoedmpgicdekmaaGreatDoorCo32
import Derived.Test.YtoedmpgicdekmaaGreatDoorCo33
set_option maxRecDepth 100000
set_option maxHeartbeats 8000000
set_option linter.all false
namespace Go.Proofs.YtoedmpgicdekmaaGreatDoor
open IntKind(i64)
open Go.Proofs.Tryz
section
open Go.RowKit
theorem tV (n:Int) (a:World) (F:0<=n) (A:n<=100000000000):Calls prog 87 #[.int i64 n] a λe w'=>e=.returned (.int i64 (mr n))/\a=w':=by
 have d:(n+127).tdiv 128=(n+127)/128:=jE J;have z:IntKind.i64.wrap (n+128)=n+128:=Qc
 have y:IntKind.i64.wrap (n+128-1)=n+127:=Qc
 have w:IntKind.i64.wrap ((n+127)/128)=(n+127)/128:=Qc
 have u:IntKind.i64.wrap ((n+127)/128*128)=(n+127)/128*128:=Qc
 have o:=G (show mr n=(n+127)/128*128 from rfl);go_enter func87,ntmps87;go_wp2_with fail;go_ret;exact⟨by rw[o.out];first|rfl|(simp[d];done),rfl⟩
theorem Gg {n:Int} (a:0<=n):n<=mr n/\mr n<=n+127:=by unfold mr;omega
theorem vE (A B:Option Addr) (n c m z:Nat) (d e:Int) (o:World) (al:n<=1000000000) (am:m<=1000000000) (ai:0<=d) (ah:d<=1000000):Calls prog 85 #[.agg #[.slice A n c,.slice B m z,.int i64 d,.int i64 e]] o λe w'=>e=.returned (.int i64 (mr (mr n+m+d)))/\au o w':=by
 have u1:=Gg (n:=n) J;obtain⟨u2,u3⟩:=u1;have X:=G (λW=>tV n W J J);obtain⟨U,a⟩: ∃U,mr (n:Int)=U:=⟨_,rfl⟩
 rw[a]at u2 u3 X;have ag:=G (λW=>tV (U+m+d) W J J);rw[a];have Z:IntKind.i64.wrap (U+(m:Int))=U+m:=Qc
 have aj:IntKind.i64.wrap (U+(m:Int)+d)=U+m+d:=Qc
 have af:=G (aa o (.cells #[.slice A n c,.slice B m z,.int i64 d,.int i64 e] 38));have I:=G (aq o 38 #[.slice A n c,.slice B m z,.int i64 d,.int i64 e]);clear a;go_enter func85,ntmps85
 go_upto_region 1 with fail
 generalize World.alloc o _=an at*;refine aB 13 1 [(3,λv=>v=.int i64 U,λ_ _=>True),(11,λv=>v=.int i64 (mr (U+m+d)),λ_ _=>True)] mixed Qb ⟨λ_ _ _ _ _=>trivial,λ_ _ _ _ _=>trivial,trivial⟩ ?_;repeat (refine sx ?_ (λR a=> ?_) ?_;rotate_left;(focus have H:=(I.out.ext a.un).cell;clear a;go_simp<;>with_reducible rfl);simp only[bE,bD,bC,bB,bA])
 refine so (λu a w K y=> ?_) ?_
 ·clear w a;go_simp;refine(X.out u).mono ?_;rintro e F ⟨rfl,rfl⟩;exact y _ _ (aI _) rfl trivial
 rintro _ rfl;simp only[bE,bD,bC,bB,bA];repeat (refine sx ?_ (λR a=> ?_) ?_;rotate_left;(focus have H:=(I.out.ext a.un).cell;clear a;go_simp<;>with_reducible rfl);simp only[bE,bD,bC,bB,bA])
 refine so (λu a w K y=> ?_) ?_
 ·clear w a;go_simp;refine(ag.out u).mono ?_;rintro e F ⟨rfl,rfl⟩;exact y _ _ (aI _) rfl trivial
 rintro _ rfl;simp only[bE,bD,bC,bB,bA];repeat (refine sx ?_ (λR a=> ?_) ?_;rotate_left;(focus go_simp<;>with_reducible rfl);simp only[bE,bD,bC,bB,bA])
 intro F V _;simp only[ae,aw];have ad:=G (af.out.trans V.un);clear V;go_wp2_with fail;go_ret;exact⟨rfl,ad.out⟩
theorem Sl.at4 {d:World} {h:Option Addr} {c:Nat} {l:List UInt8} (u:Sl d h c l) (j:Nat) (o:j+4<=l.length): ∃b a,h=some ⟨b,a,none⟩/\wa d b (a+j) l[j] l[j+1] l[j+2] l[j+3]:=by
 rcases u.rd with rfl|⟨b,a,ha,hb,hc⟩
 ·simp at o
 ·exact⟨b,a,ha,hb,hc j J,hc (j+1) J,hc (j+2) J,hc (j+3) J⟩
theorem vJ {l:List UInt8} {j:Nat} (a:j+4<=l.length):kr (l.drop j)=((fW l[j] l[j+1] l[j+2] l[j+3]).isSome&&kr (l.drop (j+4))):=by
 rw[ap (show j<l.length by omega),ap (show j+1<l.length by omega),ap (show j+1+1<l.length by omega),ap (show j+1+1+1<l.length by omega),kr]
def pD.val (A B:Option Addr) (c d:Nat) (f:pD):Value:=.agg #[.slice A f.code.length c,.slice B f.data.length d,.int i64 f.zero,.int i64 f.entry]
theorem nG (f:pD) (R B:Option Addr) (c I:Nat) (z:World) (aF:FT z) (ag:Sl z R c f.code) (aA:f.code.length<=1000000000) (aB:f.data.length<=1000000000):Calls prog 41 #[f.val R B c I] z λe w'=>e=.returned (.bool (gJ f))/\au z w':=by
 obtain⟨code,ai,a,en⟩:=f;unfold pD.val;simp only at*;have a1:=G ag;have a4:=G aF;have o:=G (show gJ ⟨code,ai,a,en⟩=(decide (4<=code.length)&&(decide (code.length%4=0)&&(decide (0<=en)&&(decide (en<code.length)&&(decide (en.tmod 4=0)&&(decide (0<=a)&&(decide (a<=3072)&&(decide (mr (mr code.length+ai.length+a)<=3072)&&kr code))))))))from rfl);generalize gJ ⟨code,ai,a,en⟩=u at*;have a2:=G (show code.length=code.length from rfl);have a3: ∀l:Nat,code.length=l->Hid (code.length=l):=λl aZ=>G aZ;obtain⟨n,F⟩: ∃n,code.length=n:=⟨_,rfl⟩
 obtain⟨m,ah⟩: ∃m,ai.length=m:=⟨_,rfl⟩
 have aR:=G F;rw[F,ah]at o;rw[F]at aA;rw[ah]at aB;rw[F,ah];have aY:=ag.le;have ba:=ag.max;rw[F]at aY;have aE:=aa z (.cells #[.slice R n c,.slice B m I,.int i64 a,.int i64 en] 38);have y:=G aE;have af:=G (aq z 38 #[.slice R n c,.slice B m I,.int i64 a,.int i64 en]);clear ag aF F ah aE a3 a2;go_enter func41,ntmps41
 go_upto_region 1 with fail
 generalize World.alloc z _=bd at*;have H:=af.out.cell;by_cases h1:n<4
 ·have aN:(n:Int)<4:=J
  have d:=G (show u=false by rw[o.out];simp;omega);go_wp2_with fail;go_ret;exact⟨by rw[d.out];rfl,y.out⟩
 have aN: ¬(n:Int)<4:=J
 by_cases h2:n%4=0
 rotate_left
 ·have aM:((n:Int)%4==0)=false:=Qn.2 J;have d:=G (show u=false by rw[o.out];simp;omega);go_wp2_with fail;go_ret;exact⟨by rw[d.out];rfl,y.out⟩
 have aM:((n:Int)%4==0)=true:=beq_iff_eq.2 J;by_cases h3:0<=en
 rotate_left
 ·have aL:en<0:=J
  have d:=G (show u=false by rw[o.out];simp;omega);go_wp2_with fail;go_ret;exact⟨by rw[d.out];rfl,y.out⟩
 obtain⟨en,rfl⟩:=a_ h3;have aL: ¬(en:Int)<0:=J
 have aP:=G (show(en:Int).tmod 4=(en:Int)%4 from Int.tmod_eq_emod_of_nonneg J);rw[aP.out]at o;by_cases X:(en:Int)<(n:Int)
 rotate_left
 ·have aK:(n:Int)<=(en:Int):=J
  have d:=G (show u=false by rw[o.out];simp;omega);go_wp2_with fail;go_ret;exact⟨by rw[d.out];rfl,y.out⟩
 have aK: ¬(n:Int)<=(en:Int):=J
 by_cases A:(en:Int)%4=0
 rotate_left
 ·have aJ:((en:Int)%4==0)=false:=Qn.2 A;have d:=G (show u=false by rw[o.out];simp[A]);go_wp2_with fail;go_ret;exact⟨by rw[d.out];rfl,y.out⟩
 have aJ:((en:Int)%4==0)=true:=beq_iff_eq.2 A;replace A:=G A;by_cases h6:0<=a
 rotate_left
 ·have aI:a<0:=J
  have d:=G (show u=false by rw[o.out];simp;omega);go_wp2_with fail;go_ret;exact⟨by rw[d.out];rfl,y.out⟩
 have aI: ¬a<0:=J
 by_cases h7:a<=3072
 rotate_left
 ·have aH:3072<a:=J
  have d:=G (show u=false by rw[o.out];simp;omega);go_wp2_with fail;go_ret;exact⟨by rw[d.out];rfl,y.out⟩
 have aH: ¬3072<a:=J
 have Z:=G (λW=>vE R B n c m I a en W aA aB h6 J);by_cases h8:mr (mr n+m+a)<=3072
 rotate_left
 ·have aG:3072<mr (mr n+m+a):=J
  have d:=G (show u=false by rw[o.out];simp;omega);generalize mr (mr n+m+a)=U at*;go_wp2_with (go_at_call 85;refine(Z.out _).mono ?_;rintro e aW ⟨rfl,w⟩;have aj:=G (y.out.trans w);clear Z H w);go_ret;exact⟨by rw[d.out];rfl,aj.out⟩
 have aG: ¬3072<mr (mr n+m+a):=J
 have d:=G (show u=kr code by rw[o.out];simp[h2,h3,X,A.out,h6,h7,h8];omega);generalize mr (mr n+m+a)=U at*;clear o
 go_upto_region 5 with(go_at_call 85;refine(Z.out _).mono ?_;rintro e aW ⟨rfl,w⟩;have aj:=G (y.out.trans w);replace af:=G (af.out.ext w);clear Z H w)
 clear h1 aN aM h3 aL X aK A aJ h6 aI h7 aH h8 aG aP y;have aQ:=G (show kr (code.drop 0)=u from d.out.symm);have a7:=G h2;clear h2 d
 go_loopw [4] (λav wr=> ∃(K:Nat),av=.int i64 (K:Int)/\Hid (K<=n/\K%4=0)/\Hid (au z wr)/\Hid (aO wr z.heap.size 38 #[.slice R n c,.slice B m I,.int i64 a,.int i64 en])/\Hid (kr (code.drop K)=u)) (λav _=>n-(intOf av).toNat)
 case atStart=>exact⟨0,rfl,G ⟨aD _,rfl⟩,aj,af,aQ⟩
 case round=>
  obtain⟨K,rfl,aS,ad,aU,aT⟩:=hrel;clear aj af aQ;generalize wr=V at*;have H:=aU.out.cell;by_cases hlt:K<n
  ·have aX:(K:Int)<(n:Int):=J
   have aC:K+4<=n:=by have:=aS.out;have:=a7.out;omega
   have ax:K+4<=code.length:=by rw[aR.out];exact aC
   obtain⟨b,aw,rfl,X⟩:=(a1.out.ext ad.out).at4 K ax;have az:=G ((vJ ax).symm.trans aT.out);have al:=G (fy b (aw+K) (c-K) code[K] code[K+1] code[K+2] code[K+3] V (a4.out.ext ad.out) X J J);generalize fW code[K] code[K+1] code[K+2] code[K+3]=a8 at*;have a9:IntKind.i64.wrap ((K:Int)+4)=(K:Int)+4:=Qc
   have bc:(K:Int)+4<=(c:Int):=J
   have bb:K+4<=c:=J
   clear X ax
   cases a8 with
   |none=>
    have o:=G (show u=false by have:=az.out;simpa using this.symm);have ae:=G (show Calls prog 86 #[.slice (some ⟨b,aw+K,none⟩) 4 (c-K)] V λe w'=>e=.returned (.tuple #[.agg #[.int i64 0,.int i64 0,.int i64 0,.int i64 0,.int i64 0],.int i64 4])/\au V w' from al.out);clear al;go_wp2_with (go_at_call 86;refine ae.out.mono ?_;rintro e aV ⟨rfl,w⟩;have ay:=G (ad.out.trans w);clear ae H w);go_ret;exact⟨by rw[o.out];rfl,ay.out.alloc' _⟩
   |some x=>
    have a5:=G (show kr (code.drop (K+4))=u by have:=az.out;simpa using this);obtain⟨an,ar,ap,ao,am⟩:=x;have ae:=G (show Calls prog 86 #[.slice (some ⟨b,aw+K,none⟩) 4 (c-K)] V λe w'=>e=.returned (.tuple #[.agg #[.int i64 (an:Int),.int i64 ar,.int i64 ap,.int i64 ao,.int i64 am],.int i64 0])/\au V w' from al.out);clear al az;go_wp2_with (go_at_call 86;refine ae.out.mono ?_;rintro e aV ⟨rfl,w⟩;have ay:=G (ad.out.trans (w.alloc' (.cells #[.int i64 (an:Int),.int i64 ar,.int i64 ap,.int i64 ao,.int i64 am] 159)));have a6:=G (aU.out.ext (w.alloc' (.cells #[.int i64 (an:Int),.int i64 ar,.int i64 ap,.int i64 ao,.int i64 am] 159)));clear ae H w);go_roundw
    case rel=>exact⟨K+4,by go_num,G ⟨aC,by have:=aS.out.2;omega⟩,ay,a6,a5⟩
    case measure=>simp[intOf];omega
  ·have aX: ¬(K:Int)<(n:Int):=J
   have o:=G (show u=true by
    have:=aT.out;rw[bS (by rw[aR.out];omega)]at this
    exact this.symm)
   go_wp2_with fail;go_ret;exact⟨by rw[o.out];rfl,ad.out⟩
theorem iZ (n:Int):IntKind.u8.wrap n=((b8 n).toNat:Int):=by
 unfold b8;rw[eL];simp[IntKind.wrap,IntKind.signed,IntKind.bits];omega
theorem sY {d:World} {g:Nat} {e:TypeId} {o b c h:UInt8} (a:aO d g e #[.int .u8 (o.toNat:Int),.int .u8 (b.toNat:Int),.int .u8 (c.toNat:Int),.int .u8 (h.toNat:Int)]):Sl d (some ⟨g,0,none⟩) 4 [o,b,c,h]:=
 ⟨by simp,by decide,λa=>(by cases a),.inr ⟨g,0,rfl,a.lt,λi hi=>by
  rw[a.cell]
  match i,hi with
  |0,_=>rfl
  |1,_=>rfl
  |2,_=>rfl
  |3,_=>rfl⟩⟩
def J6 (x:dq) (e:Ending) (w':World):Prop:=(ft x=true/\ ∃g,e=.returned (.tuple #[.slice (some ⟨g,0,none⟩) 4 4,.int i64 0])/\Sl w' (some ⟨g,0,none⟩) 4 (kI x))\/(ft x=false/\e=.returned (.tuple #[.slice none 0 0,.int i64 1]))
theorem xB (x:dq) (d:World) (V:FT d):Calls prog 74 #[x.val] d λe w'=>au d w'/\J6 x e w':=by
 have y:=G (λW (z:au d W)=>mG x W (V.ext z));obtain⟨k,a,b,c,v⟩:=x;have A:=G (show kI ⟨k,a,b,c,v⟩=if(jh k).2.2.2.2.1=true then[b8 k,b8 a,b8 (v/256),b8 v]else[b8 k,b8 a,b8 b,b8 c]from rfl)
 have ae:=G (show ft ⟨k,a,b,c,v⟩=true->k<23 from λz=>by
  unfold ft at z;simp only[am,decide_eq_true_eq]at z
  omega)
 unfold dq.val at*;simp only at*;obtain⟨L,R⟩: ∃L,ft ⟨k,a,b,c,v⟩=L:=⟨_,rfl⟩
 have I:=G R;rw[R]at y ae;clear R;have ad:=aa d (.cells #[.int i64 k,.int i64 a,.int i64 b,.int i64 c,.int i64 v] 159);have w:=G ad;have H:=G (aq d 159 #[.int i64 k,.int i64 a,.int i64 b,.int i64 c,.int i64 v]);have an:=G V;clear V ad;go_enter func74,ntmps74
 go_upto_region 1 with fail
 generalize World.alloc d _=aH at*;have X:=H.out.cell
 cases L with
 |false=>
  go_wp2_with (go_at_call 134;refine(y.out _ w.out).mono ?_;rintro e F ⟨rfl,o⟩;have u:=G (w.out.trans o);clear y o X);go_ret2;exact⟨u.out,.inr ⟨I.out,rfl⟩⟩
 |true=>
  have af:=ae.out rfl
  go_upto_region 3 with(go_at_call 134;refine(y.out _ w.out).mono ?_;rintro e F ⟨rfl,o⟩;have u:=G (w.out.trans o);have ao:=G (H.out.ext o);clear y o X w H)
  have X:=ao.out.cell;obtain⟨al,Z,aj,ai,aG,ah⟩:=(an.out.ext u.out).row k af;have aF:(k:Int)<23:=J
  have av:=iZ (k:Int);have ay:=iZ a;have ax:=iZ b;have aw:=iZ c;have ar:=iZ v;have ap:=iZ (v/256);generalize b8 (k:Int)=aE at*;generalize b8 a=aD at*;generalize b8 b=aC at*;generalize b8 c=aB at*;generalize b8 v=aA at*;generalize b8 (v/256)=az at*;generalize (jh k).2.2.2.2.1=ag at*;clear al Z aj ai ah
  cases ag with
  |true=>
   rw[if_pos rfl]at A;go_wp2_with fail;go_ret2;exact⟨u.out.alloc' _,.inl ⟨I.out,_,rfl,by rw[A.out];exact sY (aq F _ _)⟩⟩
  |false=>
   rw[if_neg Qd]at A;go_wp2_with fail;go_ret2;exact⟨u.out.alloc' _,.inl ⟨I.out,_,rfl,by rw[A.out];exact sY (aq F _ _)⟩⟩
end
end Go.Proofs.YtoedmpgicdekmaaGreatDoor
